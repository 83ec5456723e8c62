/- What the laws' own helpers do, said once for all types. No conditions. -/
import Derived.Test.YtoifjkggpanceaaProg
import Derived.Test.YtoifjkggpanceaaOwn
namespace Go.Proofs.Ytoifjkggpanceaa
open Go.RowKit Go.Proofs

def SzC (f : FuncId) (ts : List Tr) : Prop := ∀ (cs : List Value) (left : Int) (w : World), RepL w ts cs → 0 ≤ left → left ≤ 1048576 →
  Calls Try.prog f #[.agg ⟨cs⟩, .int .i64 left] w fun e w' => ∃ r : Int, e = .returned (.int .i64 r) ∧ Ext w w' ∧ r ≤ left ∧ -1 ≤ r ∧ (0 ≤ r → r + Tr.bulkL ts ≤ left)
def SzSC (f : FuncId) (sz : Nat) (es : List (List Tr)) : Prop := ∀ (s : Value) (left : Int) (w : World), Rep w (.row sz es) s → 0 ≤ left → left ≤ 1048576 →
  Calls Try.prog f #[s, .int .i64 left] w fun e w' => ∃ r : Int, e = .returned (.int .i64 r) ∧ Ext w w' ∧ r ≤ left ∧ -1 ≤ r ∧ (0 ≤ r → r + Tr.bulk (.row sz es) ≤ left)
def ToC (f : FuncId) (ts : List Tr) : Prop := ∀ (cs : List Value) (w : World), RepL w ts cs → Tr.bulkL ts ≤ 68719476736 →
  Calls Try.prog f #[.agg ⟨cs⟩] w fun e w' => ∃ cs', e = .returned (.agg ⟨cs'⟩) ∧ Ext w w' ∧ OwnL w' ts cs' (Between w w')
def ToSC (f : FuncId) (sz : Nat) (es : List (List Tr)) : Prop := ∀ (s : Value) (w : World), Rep w (.row sz es) s → es.length + Tr.bulkAll es ≤ 68719476736 →
  Calls Try.prog f #[s] w fun e w' => ∃ s', e = .returned s' ∧ Ext w w' ∧ Own w' (.row sz es) s' (Between w w')
def EqC (f : FuncId) (ts : List Tr) : Prop := ∀ (cs ds : List Value) (w : World), RepL w ts cs → RepL w ts ds →
  Calls Try.prog f #[.agg ⟨cs⟩, .agg ⟨ds⟩] w fun e w' => e = .returned (.bool true) ∧ Ext w w'
def EqSC (f : FuncId) (sz : Nat) (es : List (List Tr)) : Prop := ∀ (s u : Value) (w : World), Rep w (.row sz es) s → Rep w (.row sz es) u →
  Calls Try.prog f #[s, u] w fun e w' => e = .returned (.bool true) ∧ Ext w w'

theorem isz3 : (Try.prog.info? 3).map (·.size) = some 1 := by kernel_rfl
theorem iszb3 : (Try.prog.info? 3).map (fun i => (i.zero.isSome, i.size, i.bytes)) = some (true, 1, 8) := by kernel_rfl
theorem iszc3 : (Try.prog.info? 3).map (fun i => (i.zero.map (fun z => z.cells.size), i.size, i.bytes)) = some (some 1, 1, 8) := by kernel_rfl
theorem isz4 : (Try.prog.info? 4).map (·.size) = some 1 := by kernel_rfl
theorem iszb4 : (Try.prog.info? 4).map (fun i => (i.zero.isSome, i.size, i.bytes)) = some (true, 1, 1) := by kernel_rfl
theorem iszc4 : (Try.prog.info? 4).map (fun i => (i.zero.map (fun z => z.cells.size), i.size, i.bytes)) = some (some 1, 1, 1) := by kernel_rfl
theorem isz5 : (Try.prog.info? 5).map (·.size) = some 1 := by kernel_rfl
theorem iszb5 : (Try.prog.info? 5).map (fun i => (i.zero.isSome, i.size, i.bytes)) = some (true, 1, 1) := by kernel_rfl
theorem iszc5 : (Try.prog.info? 5).map (fun i => (i.zero.map (fun z => z.cells.size), i.size, i.bytes)) = some (some 1, 1, 1) := by kernel_rfl
theorem isz9 : (Try.prog.info? 9).map (·.size) = some 1 := by kernel_rfl
theorem iszb9 : (Try.prog.info? 9).map (fun i => (i.zero.isSome, i.size, i.bytes)) = some (true, 1, 16) := by kernel_rfl
theorem iszc9 : (Try.prog.info? 9).map (fun i => (i.zero.map (fun z => z.cells.size), i.size, i.bytes)) = some (some 1, 1, 16) := by kernel_rfl
theorem isz22 : (Try.prog.info? 22).map (·.size) = some 1 := by kernel_rfl
theorem iszb22 : (Try.prog.info? 22).map (fun i => (i.zero.isSome, i.size, i.bytes)) = some (true, 1, 24) := by kernel_rfl
theorem iszc22 : (Try.prog.info? 22).map (fun i => (i.zero.map (fun z => z.cells.size), i.size, i.bytes)) = some (some 1, 1, 24) := by kernel_rfl
theorem isz24 : (Try.prog.info? 24).map (·.size) = some 3 := by kernel_rfl
theorem iszb24 : (Try.prog.info? 24).map (fun i => (i.zero.isSome, i.size, i.bytes)) = some (true, 3, 48) := by kernel_rfl
theorem iszc24 : (Try.prog.info? 24).map (fun i => (i.zero.map (fun z => z.cells.size), i.size, i.bytes)) = some (some 3, 3, 48) := by kernel_rfl
theorem isz26 : (Try.prog.info? 26).map (·.size) = some 4 := by kernel_rfl
theorem iszb26 : (Try.prog.info? 26).map (fun i => (i.zero.isSome, i.size, i.bytes)) = some (true, 4, 64) := by kernel_rfl
theorem iszc26 : (Try.prog.info? 26).map (fun i => (i.zero.map (fun z => z.cells.size), i.size, i.bytes)) = some (some 4, 4, 64) := by kernel_rfl
theorem isz30 : (Try.prog.info? 30).map (·.size) = some 1 := by kernel_rfl
theorem iszb30 : (Try.prog.info? 30).map (fun i => (i.zero.isSome, i.size, i.bytes)) = some (true, 1, 24) := by kernel_rfl
theorem iszc30 : (Try.prog.info? 30).map (fun i => (i.zero.map (fun z => z.cells.size), i.size, i.bytes)) = some (some 1, 1, 24) := by kernel_rfl
theorem isz32 : (Try.prog.info? 32).map (·.size) = some 3 := by kernel_rfl
theorem iszb32 : (Try.prog.info? 32).map (fun i => (i.zero.isSome, i.size, i.bytes)) = some (true, 3, 48) := by kernel_rfl
theorem iszc32 : (Try.prog.info? 32).map (fun i => (i.zero.map (fun z => z.cells.size), i.size, i.bytes)) = some (some 3, 3, 48) := by kernel_rfl
theorem isz34 : (Try.prog.info? 34).map (·.size) = some 4 := by kernel_rfl
theorem iszb34 : (Try.prog.info? 34).map (fun i => (i.zero.isSome, i.size, i.bytes)) = some (true, 4, 64) := by kernel_rfl
theorem iszc34 : (Try.prog.info? 34).map (fun i => (i.zero.map (fun z => z.cells.size), i.size, i.bytes)) = some (some 4, 4, 64) := by kernel_rfl
theorem isz41 : (Try.prog.info? 41).map (·.size) = some 2 := by kernel_rfl
theorem iszb41 : (Try.prog.info? 41).map (fun i => (i.zero.isSome, i.size, i.bytes)) = some (true, 2, 16) := by kernel_rfl
theorem iszc41 : (Try.prog.info? 41).map (fun i => (i.zero.map (fun z => z.cells.size), i.size, i.bytes)) = some (some 2, 2, 16) := by kernel_rfl
theorem isz42 : (Try.prog.info? 42).map (·.size) = some 1 := by kernel_rfl
theorem iszb42 : (Try.prog.info? 42).map (fun i => (i.zero.isSome, i.size, i.bytes)) = some (true, 1, 24) := by kernel_rfl
theorem iszc42 : (Try.prog.info? 42).map (fun i => (i.zero.map (fun z => z.cells.size), i.size, i.bytes)) = some (some 1, 1, 24) := by kernel_rfl
theorem isz44 : (Try.prog.info? 44).map (·.size) = some 5 := by kernel_rfl
theorem iszb44 : (Try.prog.info? 44).map (fun i => (i.zero.isSome, i.size, i.bytes)) = some (true, 5, 56) := by kernel_rfl
theorem iszc44 : (Try.prog.info? 44).map (fun i => (i.zero.map (fun z => z.cells.size), i.size, i.bytes)) = some (some 5, 5, 56) := by kernel_rfl
theorem isz45 : (Try.prog.info? 45).map (·.size) = some 1 := by kernel_rfl
theorem iszb45 : (Try.prog.info? 45).map (fun i => (i.zero.isSome, i.size, i.bytes)) = some (true, 1, 24) := by kernel_rfl
theorem iszc45 : (Try.prog.info? 45).map (fun i => (i.zero.map (fun z => z.cells.size), i.size, i.bytes)) = some (some 1, 1, 24) := by kernel_rfl
theorem isz47 : (Try.prog.info? 47).map (·.size) = some 2 := by kernel_rfl
theorem iszb47 : (Try.prog.info? 47).map (fun i => (i.zero.isSome, i.size, i.bytes)) = some (true, 2, 16) := by kernel_rfl
theorem iszc47 : (Try.prog.info? 47).map (fun i => (i.zero.map (fun z => z.cells.size), i.size, i.bytes)) = some (some 2, 2, 16) := by kernel_rfl
theorem isz48 : (Try.prog.info? 48).map (·.size) = some 1 := by kernel_rfl
theorem iszb48 : (Try.prog.info? 48).map (fun i => (i.zero.isSome, i.size, i.bytes)) = some (true, 1, 24) := by kernel_rfl
theorem iszc48 : (Try.prog.info? 48).map (fun i => (i.zero.map (fun z => z.cells.size), i.size, i.bytes)) = some (some 1, 1, 24) := by kernel_rfl
theorem isz50 : (Try.prog.info? 50).map (·.size) = some 5 := by kernel_rfl
theorem iszb50 : (Try.prog.info? 50).map (fun i => (i.zero.isSome, i.size, i.bytes)) = some (true, 5, 56) := by kernel_rfl
theorem iszc50 : (Try.prog.info? 50).map (fun i => (i.zero.map (fun z => z.cells.size), i.size, i.bytes)) = some (some 5, 5, 56) := by kernel_rfl
theorem isz59 : (Try.prog.info? 59).map (·.size) = some 1 := by kernel_rfl
theorem iszb59 : (Try.prog.info? 59).map (fun i => (i.zero.isSome, i.size, i.bytes)) = some (true, 1, 24) := by kernel_rfl
theorem iszc59 : (Try.prog.info? 59).map (fun i => (i.zero.map (fun z => z.cells.size), i.size, i.bytes)) = some (some 1, 1, 24) := by kernel_rfl
theorem isz61 : (Try.prog.info? 61).map (·.size) = some 1 := by kernel_rfl
theorem iszb61 : (Try.prog.info? 61).map (fun i => (i.zero.isSome, i.size, i.bytes)) = some (true, 1, 24) := by kernel_rfl
theorem iszc61 : (Try.prog.info? 61).map (fun i => (i.zero.map (fun z => z.cells.size), i.size, i.bytes)) = some (some 1, 1, 24) := by kernel_rfl
theorem isz63 : (Try.prog.info? 63).map (·.size) = some 1 := by kernel_rfl
theorem iszb63 : (Try.prog.info? 63).map (fun i => (i.zero.isSome, i.size, i.bytes)) = some (true, 1, 24) := by kernel_rfl
theorem iszc63 : (Try.prog.info? 63).map (fun i => (i.zero.map (fun z => z.cells.size), i.size, i.bytes)) = some (some 1, 1, 24) := by kernel_rfl
theorem isz66 : (Try.prog.info? 66).map (·.size) = some 1 := by kernel_rfl
theorem iszb66 : (Try.prog.info? 66).map (fun i => (i.zero.isSome, i.size, i.bytes)) = some (true, 1, 24) := by kernel_rfl
theorem iszc66 : (Try.prog.info? 66).map (fun i => (i.zero.map (fun z => z.cells.size), i.size, i.bytes)) = some (some 1, 1, 24) := by kernel_rfl
theorem isz73 : (Try.prog.info? 73).map (·.size) = some 1 := by kernel_rfl
theorem iszb73 : (Try.prog.info? 73).map (fun i => (i.zero.isSome, i.size, i.bytes)) = some (true, 1, 24) := by kernel_rfl
theorem iszc73 : (Try.prog.info? 73).map (fun i => (i.zero.map (fun z => z.cells.size), i.size, i.bytes)) = some (some 1, 1, 24) := by kernel_rfl
theorem isz75 : (Try.prog.info? 75).map (·.size) = some 5 := by kernel_rfl
theorem iszb75 : (Try.prog.info? 75).map (fun i => (i.zero.isSome, i.size, i.bytes)) = some (true, 5, 72) := by kernel_rfl
theorem iszc75 : (Try.prog.info? 75).map (fun i => (i.zero.map (fun z => z.cells.size), i.size, i.bytes)) = some (some 5, 5, 72) := by kernel_rfl
theorem isz79 : (Try.prog.info? 79).map (·.size) = some 1 := by kernel_rfl
theorem iszb79 : (Try.prog.info? 79).map (fun i => (i.zero.isSome, i.size, i.bytes)) = some (true, 1, 24) := by kernel_rfl
theorem iszc79 : (Try.prog.info? 79).map (fun i => (i.zero.map (fun z => z.cells.size), i.size, i.bytes)) = some (some 1, 1, 24) := by kernel_rfl
theorem isz82 : (Try.prog.info? 82).map (·.size) = some 1 := by kernel_rfl
theorem iszb82 : (Try.prog.info? 82).map (fun i => (i.zero.isSome, i.size, i.bytes)) = some (true, 1, 24) := by kernel_rfl
theorem iszc82 : (Try.prog.info? 82).map (fun i => (i.zero.map (fun z => z.cells.size), i.size, i.bytes)) = some (some 1, 1, 24) := by kernel_rfl
theorem isz86 : (Try.prog.info? 86).map (·.size) = some 1 := by kernel_rfl
theorem iszb86 : (Try.prog.info? 86).map (fun i => (i.zero.isSome, i.size, i.bytes)) = some (true, 1, 24) := by kernel_rfl
theorem iszc86 : (Try.prog.info? 86).map (fun i => (i.zero.map (fun z => z.cells.size), i.size, i.bytes)) = some (some 1, 1, 24) := by kernel_rfl
theorem isz92 : (Try.prog.info? 92).map (·.size) = some 1 := by kernel_rfl
theorem iszb92 : (Try.prog.info? 92).map (fun i => (i.zero.isSome, i.size, i.bytes)) = some (true, 1, 24) := by kernel_rfl
theorem iszc92 : (Try.prog.info? 92).map (fun i => (i.zero.map (fun z => z.cells.size), i.size, i.bytes)) = some (some 1, 1, 24) := by kernel_rfl
theorem isz94 : (Try.prog.info? 94).map (·.size) = some 12 := by kernel_rfl
theorem iszb94 : (Try.prog.info? 94).map (fun i => (i.zero.isSome, i.size, i.bytes)) = some (true, 12, 192) := by kernel_rfl
theorem iszc94 : (Try.prog.info? 94).map (fun i => (i.zero.map (fun z => z.cells.size), i.size, i.bytes)) = some (some 12, 12, 192) := by kernel_rfl
theorem isz98 : (Try.prog.info? 98).map (·.size) = some 1 := by kernel_rfl
theorem iszb98 : (Try.prog.info? 98).map (fun i => (i.zero.isSome, i.size, i.bytes)) = some (true, 1, 24) := by kernel_rfl
theorem iszc98 : (Try.prog.info? 98).map (fun i => (i.zero.map (fun z => z.cells.size), i.size, i.bytes)) = some (some 1, 1, 24) := by kernel_rfl
theorem isz100 : (Try.prog.info? 100).map (·.size) = some 3 := by kernel_rfl
theorem iszb100 : (Try.prog.info? 100).map (fun i => (i.zero.isSome, i.size, i.bytes)) = some (true, 3, 72) := by kernel_rfl
theorem iszc100 : (Try.prog.info? 100).map (fun i => (i.zero.map (fun z => z.cells.size), i.size, i.bytes)) = some (some 3, 3, 72) := by kernel_rfl
theorem isz104 : (Try.prog.info? 104).map (·.size) = some 3 := by kernel_rfl
theorem iszb104 : (Try.prog.info? 104).map (fun i => (i.zero.isSome, i.size, i.bytes)) = some (true, 3, 72) := by kernel_rfl
theorem iszc104 : (Try.prog.info? 104).map (fun i => (i.zero.map (fun z => z.cells.size), i.size, i.bytes)) = some (some 3, 3, 72) := by kernel_rfl
theorem isz108 : (Try.prog.info? 108).map (·.size) = some 1 := by kernel_rfl
theorem iszb108 : (Try.prog.info? 108).map (fun i => (i.zero.isSome, i.size, i.bytes)) = some (true, 1, 24) := by kernel_rfl
theorem iszc108 : (Try.prog.info? 108).map (fun i => (i.zero.map (fun z => z.cells.size), i.size, i.bytes)) = some (some 1, 1, 24) := by kernel_rfl
theorem isz116 : (Try.prog.info? 116).map (·.size) = some 1 := by kernel_rfl
theorem iszb116 : (Try.prog.info? 116).map (fun i => (i.zero.isSome, i.size, i.bytes)) = some (true, 1, 24) := by kernel_rfl
theorem iszc116 : (Try.prog.info? 116).map (fun i => (i.zero.map (fun z => z.cells.size), i.size, i.bytes)) = some (some 1, 1, 24) := by kernel_rfl
theorem isz118 : (Try.prog.info? 118).map (·.size) = some 12 := by kernel_rfl
theorem iszb118 : (Try.prog.info? 118).map (fun i => (i.zero.isSome, i.size, i.bytes)) = some (true, 12, 192) := by kernel_rfl
theorem iszc118 : (Try.prog.info? 118).map (fun i => (i.zero.map (fun z => z.cells.size), i.size, i.bytes)) = some (some 12, 12, 192) := by kernel_rfl
theorem isz146 : (Try.prog.info? 146).map (·.size) = some 1 := by kernel_rfl
theorem iszb146 : (Try.prog.info? 146).map (fun i => (i.zero.isSome, i.size, i.bytes)) = some (true, 1, 24) := by kernel_rfl
theorem iszc146 : (Try.prog.info? 146).map (fun i => (i.zero.map (fun z => z.cells.size), i.size, i.bytes)) = some (some 1, 1, 24) := by kernel_rfl
theorem isz147 : (Try.prog.info? 147).map (·.size) = some 1 := by kernel_rfl
theorem iszb147 : (Try.prog.info? 147).map (fun i => (i.zero.isSome, i.size, i.bytes)) = some (true, 1, 24) := by kernel_rfl
theorem iszc147 : (Try.prog.info? 147).map (fun i => (i.zero.map (fun z => z.cells.size), i.size, i.bytes)) = some (some 1, 1, 24) := by kernel_rfl
theorem isz148 : (Try.prog.info? 148).map (·.size) = some 1 := by kernel_rfl
theorem iszb148 : (Try.prog.info? 148).map (fun i => (i.zero.isSome, i.size, i.bytes)) = some (true, 1, 24) := by kernel_rfl
theorem iszc148 : (Try.prog.info? 148).map (fun i => (i.zero.map (fun z => z.cells.size), i.size, i.bytes)) = some (some 1, 1, 24) := by kernel_rfl
theorem isz149 : (Try.prog.info? 149).map (·.size) = some 1 := by kernel_rfl
theorem iszb149 : (Try.prog.info? 149).map (fun i => (i.zero.isSome, i.size, i.bytes)) = some (true, 1, 24) := by kernel_rfl
theorem iszc149 : (Try.prog.info? 149).map (fun i => (i.zero.map (fun z => z.cells.size), i.size, i.bytes)) = some (some 1, 1, 24) := by kernel_rfl
theorem isz151 : (Try.prog.info? 151).map (·.size) = some 6 := by kernel_rfl
theorem iszb151 : (Try.prog.info? 151).map (fun i => (i.zero.isSome, i.size, i.bytes)) = some (true, 6, 136) := by kernel_rfl
theorem iszc151 : (Try.prog.info? 151).map (fun i => (i.zero.map (fun z => z.cells.size), i.size, i.bytes)) = some (some 6, 6, 136) := by kernel_rfl
theorem isz157 : (Try.prog.info? 157).map (·.size) = some 6 := by kernel_rfl
theorem iszb157 : (Try.prog.info? 157).map (fun i => (i.zero.isSome, i.size, i.bytes)) = some (true, 6, 96) := by kernel_rfl
theorem iszc157 : (Try.prog.info? 157).map (fun i => (i.zero.map (fun z => z.cells.size), i.size, i.bytes)) = some (some 6, 6, 96) := by kernel_rfl
theorem isz159 : (Try.prog.info? 159).map (·.size) = some 6 := by kernel_rfl
theorem iszb159 : (Try.prog.info? 159).map (fun i => (i.zero.isSome, i.size, i.bytes)) = some (true, 6, 96) := by kernel_rfl
theorem iszc159 : (Try.prog.info? 159).map (fun i => (i.zero.map (fun z => z.cells.size), i.size, i.bytes)) = some (some 6, 6, 96) := by kernel_rfl
theorem isz188 : (Try.prog.info? 188).map (·.size) = some 1 := by kernel_rfl
theorem iszb188 : (Try.prog.info? 188).map (fun i => (i.zero.isSome, i.size, i.bytes)) = some (true, 1, 24) := by kernel_rfl
theorem iszc188 : (Try.prog.info? 188).map (fun i => (i.zero.map (fun z => z.cells.size), i.size, i.bytes)) = some (some 1, 1, 24) := by kernel_rfl
theorem isz190 : (Try.prog.info? 190).map (·.size) = some 2 := by kernel_rfl
theorem iszb190 : (Try.prog.info? 190).map (fun i => (i.zero.isSome, i.size, i.bytes)) = some (true, 2, 40) := by kernel_rfl
theorem iszc190 : (Try.prog.info? 190).map (fun i => (i.zero.map (fun z => z.cells.size), i.size, i.bytes)) = some (some 2, 2, 40) := by kernel_rfl
theorem isz209 : (Try.prog.info? 209).map (·.size) = some 1 := by kernel_rfl
theorem iszb209 : (Try.prog.info? 209).map (fun i => (i.zero.isSome, i.size, i.bytes)) = some (true, 1, 24) := by kernel_rfl
theorem iszc209 : (Try.prog.info? 209).map (fun i => (i.zero.map (fun z => z.cells.size), i.size, i.bytes)) = some (some 1, 1, 24) := by kernel_rfl
theorem isz210 : (Try.prog.info? 210).map (·.size) = some 1 := by kernel_rfl
theorem iszb210 : (Try.prog.info? 210).map (fun i => (i.zero.isSome, i.size, i.bytes)) = some (true, 1, 24) := by kernel_rfl
theorem iszc210 : (Try.prog.info? 210).map (fun i => (i.zero.map (fun z => z.cells.size), i.size, i.bytes)) = some (some 1, 1, 24) := by kernel_rfl
theorem isz212 : (Try.prog.info? 212).map (·.size) = some 9 := by kernel_rfl
theorem iszb212 : (Try.prog.info? 212).map (fun i => (i.zero.isSome, i.size, i.bytes)) = some (true, 9, 144) := by kernel_rfl
theorem iszc212 : (Try.prog.info? 212).map (fun i => (i.zero.map (fun z => z.cells.size), i.size, i.bytes)) = some (some 9, 9, 144) := by kernel_rfl
theorem isz214 : (Try.prog.info? 214).map (·.size) = some 16 := by kernel_rfl
theorem iszb214 : (Try.prog.info? 214).map (fun i => (i.zero.isSome, i.size, i.bytes)) = some (true, 16, 264) := by kernel_rfl
theorem iszc214 : (Try.prog.info? 214).map (fun i => (i.zero.map (fun z => z.cells.size), i.size, i.bytes)) = some (some 16, 16, 264) := by kernel_rfl
theorem isz219 : (Try.prog.info? 219).map (·.size) = some 11 := by kernel_rfl
theorem iszb219 : (Try.prog.info? 219).map (fun i => (i.zero.isSome, i.size, i.bytes)) = some (true, 11, 184) := by kernel_rfl
theorem iszc219 : (Try.prog.info? 219).map (fun i => (i.zero.map (fun z => z.cells.size), i.size, i.bytes)) = some (some 11, 11, 184) := by kernel_rfl
theorem isz226 : (Try.prog.info? 226).map (·.size) = some 4 := by kernel_rfl
theorem iszb226 : (Try.prog.info? 226).map (fun i => (i.zero.isSome, i.size, i.bytes)) = some (true, 4, 64) := by kernel_rfl
theorem iszc226 : (Try.prog.info? 226).map (fun i => (i.zero.map (fun z => z.cells.size), i.size, i.bytes)) = some (some 4, 4, 64) := by kernel_rfl
theorem isz235 : (Try.prog.info? 235).map (·.size) = some 1 := by kernel_rfl
theorem iszb235 : (Try.prog.info? 235).map (fun i => (i.zero.isSome, i.size, i.bytes)) = some (true, 1, 24) := by kernel_rfl
theorem iszc235 : (Try.prog.info? 235).map (fun i => (i.zero.map (fun z => z.cells.size), i.size, i.bytes)) = some (some 1, 1, 24) := by kernel_rfl
theorem isz236 : (Try.prog.info? 236).map (·.size) = some 1 := by kernel_rfl
theorem iszb236 : (Try.prog.info? 236).map (fun i => (i.zero.isSome, i.size, i.bytes)) = some (true, 1, 24) := by kernel_rfl
theorem iszc236 : (Try.prog.info? 236).map (fun i => (i.zero.map (fun z => z.cells.size), i.size, i.bytes)) = some (some 1, 1, 24) := by kernel_rfl
theorem isz238 : (Try.prog.info? 238).map (·.size) = some 9 := by kernel_rfl
theorem iszb238 : (Try.prog.info? 238).map (fun i => (i.zero.isSome, i.size, i.bytes)) = some (true, 9, 144) := by kernel_rfl
theorem iszc238 : (Try.prog.info? 238).map (fun i => (i.zero.map (fun z => z.cells.size), i.size, i.bytes)) = some (some 9, 9, 144) := by kernel_rfl
theorem isz240 : (Try.prog.info? 240).map (·.size) = some 11 := by kernel_rfl
theorem iszb240 : (Try.prog.info? 240).map (fun i => (i.zero.isSome, i.size, i.bytes)) = some (true, 11, 184) := by kernel_rfl
theorem iszc240 : (Try.prog.info? 240).map (fun i => (i.zero.map (fun z => z.cells.size), i.size, i.bytes)) = some (some 11, 11, 184) := by kernel_rfl
theorem isz258 : (Try.prog.info? 258).map (·.size) = some 11 := by kernel_rfl
theorem iszb258 : (Try.prog.info? 258).map (fun i => (i.zero.isSome, i.size, i.bytes)) = some (true, 11, 184) := by kernel_rfl
theorem iszc258 : (Try.prog.info? 258).map (fun i => (i.zero.map (fun z => z.cells.size), i.size, i.bytes)) = some (some 11, 11, 184) := by kernel_rfl
theorem isz290 : (Try.prog.info? 290).map (·.size) = some 11 := by kernel_rfl
theorem iszb290 : (Try.prog.info? 290).map (fun i => (i.zero.isSome, i.size, i.bytes)) = some (true, 11, 184) := by kernel_rfl
theorem iszc290 : (Try.prog.info? 290).map (fun i => (i.zero.map (fun z => z.cells.size), i.size, i.bytes)) = some (some 11, 11, 184) := by kernel_rfl
theorem isz310 : (Try.prog.info? 310).map (·.size) = some 1 := by kernel_rfl
theorem iszb310 : (Try.prog.info? 310).map (fun i => (i.zero.isSome, i.size, i.bytes)) = some (true, 1, 24) := by kernel_rfl
theorem iszc310 : (Try.prog.info? 310).map (fun i => (i.zero.map (fun z => z.cells.size), i.size, i.bytes)) = some (some 1, 1, 24) := by kernel_rfl
theorem isz312 : (Try.prog.info? 312).map (·.size) = some 3 := by kernel_rfl
theorem iszb312 : (Try.prog.info? 312).map (fun i => (i.zero.isSome, i.size, i.bytes)) = some (true, 3, 64) := by kernel_rfl
theorem iszc312 : (Try.prog.info? 312).map (fun i => (i.zero.map (fun z => z.cells.size), i.size, i.bytes)) = some (some 3, 3, 64) := by kernel_rfl
theorem isz313 : (Try.prog.info? 313).map (·.size) = some 1 := by kernel_rfl
theorem iszb313 : (Try.prog.info? 313).map (fun i => (i.zero.isSome, i.size, i.bytes)) = some (true, 1, 24) := by kernel_rfl
theorem iszc313 : (Try.prog.info? 313).map (fun i => (i.zero.map (fun z => z.cells.size), i.size, i.bytes)) = some (some 1, 1, 24) := by kernel_rfl
theorem isz315 : (Try.prog.info? 315).map (·.size) = some 16 := by kernel_rfl
theorem iszb315 : (Try.prog.info? 315).map (fun i => (i.zero.isSome, i.size, i.bytes)) = some (true, 16, 280) := by kernel_rfl
theorem iszc315 : (Try.prog.info? 315).map (fun i => (i.zero.map (fun z => z.cells.size), i.size, i.bytes)) = some (some 16, 16, 280) := by kernel_rfl
theorem isz317 : (Try.prog.info? 317).map (·.size) = some 2 := by kernel_rfl
theorem iszb317 : (Try.prog.info? 317).map (fun i => (i.zero.isSome, i.size, i.bytes)) = some (true, 2, 40) := by kernel_rfl
theorem iszc317 : (Try.prog.info? 317).map (fun i => (i.zero.map (fun z => z.cells.size), i.size, i.bytes)) = some (some 2, 2, 40) := by kernel_rfl
theorem isz320 : (Try.prog.info? 320).map (·.size) = some 4 := by kernel_rfl
theorem iszb320 : (Try.prog.info? 320).map (fun i => (i.zero.isSome, i.size, i.bytes)) = some (true, 4, 64) := by kernel_rfl
theorem iszc320 : (Try.prog.info? 320).map (fun i => (i.zero.map (fun z => z.cells.size), i.size, i.bytes)) = some (some 4, 4, 64) := by kernel_rfl

end Go.Proofs.Ytoifjkggpanceaa
