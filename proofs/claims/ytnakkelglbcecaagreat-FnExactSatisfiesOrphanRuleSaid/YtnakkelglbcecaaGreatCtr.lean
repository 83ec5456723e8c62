/- What the laws' own helpers do, said once for all types. No conditions. -/
import Derived.Test.YtnakkelglbcecaaGreatProg
import Derived.Test.YtnakkelglbcecaaGreatOwn
namespace Go.Proofs.YtnakkelglbcecaaGreat
open Go.RowKit Go.Proofs

def SzC (f : FuncId) (ts : List Tr) : Prop := ∀ (cs : List Value) (left : Int) (w : World), RepL w ts cs → 0 ≤ left → left ≤ 1048576 →
  Calls Tryz.prog f #[.agg ⟨cs⟩, .int .i64 left] w fun e w' => ∃ r : Int, e = .returned (.int .i64 r) ∧ Ext w w' ∧ r ≤ left ∧ -1 ≤ r ∧ (0 ≤ r → r + Tr.bulkL ts ≤ left)
def SzSC (f : FuncId) (sz : Nat) (es : List (List Tr)) : Prop := ∀ (s : Value) (left : Int) (w : World), Rep w (.row sz es) s → 0 ≤ left → left ≤ 1048576 →
  Calls Tryz.prog f #[s, .int .i64 left] w fun e w' => ∃ r : Int, e = .returned (.int .i64 r) ∧ Ext w w' ∧ r ≤ left ∧ -1 ≤ r ∧ (0 ≤ r → r + Tr.bulk (.row sz es) ≤ left)
def ToC (f : FuncId) (ts : List Tr) : Prop := ∀ (cs : List Value) (w : World), RepL w ts cs → Tr.bulkL ts ≤ 68719476736 →
  Calls Tryz.prog f #[.agg ⟨cs⟩] w fun e w' => ∃ cs', e = .returned (.agg ⟨cs'⟩) ∧ Ext w w' ∧ OwnL w' ts cs' (Between w w')
def ToSC (f : FuncId) (sz : Nat) (es : List (List Tr)) : Prop := ∀ (s : Value) (w : World), Rep w (.row sz es) s → es.length + Tr.bulkAll es ≤ 68719476736 →
  Calls Tryz.prog f #[s] w fun e w' => ∃ s', e = .returned s' ∧ Ext w w' ∧ Own w' (.row sz es) s' (Between w w')
def EqC (f : FuncId) (ts : List Tr) : Prop := ∀ (cs ds : List Value) (w : World), RepL w ts cs → RepL w ts ds →
  Calls Tryz.prog f #[.agg ⟨cs⟩, .agg ⟨ds⟩] w fun e w' => e = .returned (.bool true) ∧ Ext w w'
def EqSC (f : FuncId) (sz : Nat) (es : List (List Tr)) : Prop := ∀ (s u : Value) (w : World), Rep w (.row sz es) s → Rep w (.row sz es) u →
  Calls Tryz.prog f #[s, u] w fun e w' => e = .returned (.bool true) ∧ Ext w w'

theorem isz3 : (Tryz.prog.info? 3).map (·.size) = some 1 := by kernel_rfl
theorem iszb3 : (Tryz.prog.info? 3).map (fun i => (i.zero.isSome, i.size, i.bytes)) = some (true, 1, 8) := by kernel_rfl
theorem iszc3 : (Tryz.prog.info? 3).map (fun i => (i.zero.map (fun z => z.cells.size), i.size, i.bytes)) = some (some 1, 1, 8) := by kernel_rfl
theorem isz4 : (Tryz.prog.info? 4).map (·.size) = some 1 := by kernel_rfl
theorem iszb4 : (Tryz.prog.info? 4).map (fun i => (i.zero.isSome, i.size, i.bytes)) = some (true, 1, 1) := by kernel_rfl
theorem iszc4 : (Tryz.prog.info? 4).map (fun i => (i.zero.map (fun z => z.cells.size), i.size, i.bytes)) = some (some 1, 1, 1) := by kernel_rfl
theorem isz5 : (Tryz.prog.info? 5).map (·.size) = some 1 := by kernel_rfl
theorem iszb5 : (Tryz.prog.info? 5).map (fun i => (i.zero.isSome, i.size, i.bytes)) = some (true, 1, 1) := by kernel_rfl
theorem iszc5 : (Tryz.prog.info? 5).map (fun i => (i.zero.map (fun z => z.cells.size), i.size, i.bytes)) = some (some 1, 1, 1) := by kernel_rfl
theorem isz9 : (Tryz.prog.info? 9).map (·.size) = some 1 := by kernel_rfl
theorem iszb9 : (Tryz.prog.info? 9).map (fun i => (i.zero.isSome, i.size, i.bytes)) = some (true, 1, 16) := by kernel_rfl
theorem iszc9 : (Tryz.prog.info? 9).map (fun i => (i.zero.map (fun z => z.cells.size), i.size, i.bytes)) = some (some 1, 1, 16) := by kernel_rfl
theorem isz22 : (Tryz.prog.info? 22).map (·.size) = some 1 := by kernel_rfl
theorem iszb22 : (Tryz.prog.info? 22).map (fun i => (i.zero.isSome, i.size, i.bytes)) = some (true, 1, 24) := by kernel_rfl
theorem iszc22 : (Tryz.prog.info? 22).map (fun i => (i.zero.map (fun z => z.cells.size), i.size, i.bytes)) = some (some 1, 1, 24) := by kernel_rfl
theorem isz24 : (Tryz.prog.info? 24).map (·.size) = some 1 := by kernel_rfl
theorem iszb24 : (Tryz.prog.info? 24).map (fun i => (i.zero.isSome, i.size, i.bytes)) = some (true, 1, 24) := by kernel_rfl
theorem iszc24 : (Tryz.prog.info? 24).map (fun i => (i.zero.map (fun z => z.cells.size), i.size, i.bytes)) = some (some 1, 1, 24) := by kernel_rfl
theorem isz26 : (Tryz.prog.info? 26).map (·.size) = some 2 := by kernel_rfl
theorem iszb26 : (Tryz.prog.info? 26).map (fun i => (i.zero.isSome, i.size, i.bytes)) = some (true, 2, 16) := by kernel_rfl
theorem iszc26 : (Tryz.prog.info? 26).map (fun i => (i.zero.map (fun z => z.cells.size), i.size, i.bytes)) = some (some 2, 2, 16) := by kernel_rfl
theorem isz29 : (Tryz.prog.info? 29).map (·.size) = some 1 := by kernel_rfl
theorem iszb29 : (Tryz.prog.info? 29).map (fun i => (i.zero.isSome, i.size, i.bytes)) = some (true, 1, 24) := by kernel_rfl
theorem iszc29 : (Tryz.prog.info? 29).map (fun i => (i.zero.map (fun z => z.cells.size), i.size, i.bytes)) = some (some 1, 1, 24) := by kernel_rfl
theorem isz31 : (Tryz.prog.info? 31).map (·.size) = some 1 := by kernel_rfl
theorem iszb31 : (Tryz.prog.info? 31).map (fun i => (i.zero.isSome, i.size, i.bytes)) = some (true, 1, 24) := by kernel_rfl
theorem iszc31 : (Tryz.prog.info? 31).map (fun i => (i.zero.map (fun z => z.cells.size), i.size, i.bytes)) = some (some 1, 1, 24) := by kernel_rfl
theorem isz33 : (Tryz.prog.info? 33).map (·.size) = some 2 := by kernel_rfl
theorem iszb33 : (Tryz.prog.info? 33).map (fun i => (i.zero.isSome, i.size, i.bytes)) = some (true, 2, 16) := by kernel_rfl
theorem iszc33 : (Tryz.prog.info? 33).map (fun i => (i.zero.map (fun z => z.cells.size), i.size, i.bytes)) = some (some 2, 2, 16) := by kernel_rfl
theorem isz37 : (Tryz.prog.info? 37).map (·.size) = some 1 := by kernel_rfl
theorem iszb37 : (Tryz.prog.info? 37).map (fun i => (i.zero.isSome, i.size, i.bytes)) = some (true, 1, 24) := by kernel_rfl
theorem iszc37 : (Tryz.prog.info? 37).map (fun i => (i.zero.map (fun z => z.cells.size), i.size, i.bytes)) = some (some 1, 1, 24) := by kernel_rfl
theorem isz39 : (Tryz.prog.info? 39).map (·.size) = some 3 := by kernel_rfl
theorem iszb39 : (Tryz.prog.info? 39).map (fun i => (i.zero.isSome, i.size, i.bytes)) = some (true, 3, 48) := by kernel_rfl
theorem iszc39 : (Tryz.prog.info? 39).map (fun i => (i.zero.map (fun z => z.cells.size), i.size, i.bytes)) = some (some 3, 3, 48) := by kernel_rfl
theorem isz41 : (Tryz.prog.info? 41).map (·.size) = some 4 := by kernel_rfl
theorem iszb41 : (Tryz.prog.info? 41).map (fun i => (i.zero.isSome, i.size, i.bytes)) = some (true, 4, 64) := by kernel_rfl
theorem iszc41 : (Tryz.prog.info? 41).map (fun i => (i.zero.map (fun z => z.cells.size), i.size, i.bytes)) = some (some 4, 4, 64) := by kernel_rfl
theorem isz45 : (Tryz.prog.info? 45).map (·.size) = some 1 := by kernel_rfl
theorem iszb45 : (Tryz.prog.info? 45).map (fun i => (i.zero.isSome, i.size, i.bytes)) = some (true, 1, 24) := by kernel_rfl
theorem iszc45 : (Tryz.prog.info? 45).map (fun i => (i.zero.map (fun z => z.cells.size), i.size, i.bytes)) = some (some 1, 1, 24) := by kernel_rfl
theorem isz47 : (Tryz.prog.info? 47).map (·.size) = some 3 := by kernel_rfl
theorem iszb47 : (Tryz.prog.info? 47).map (fun i => (i.zero.isSome, i.size, i.bytes)) = some (true, 3, 48) := by kernel_rfl
theorem iszc47 : (Tryz.prog.info? 47).map (fun i => (i.zero.map (fun z => z.cells.size), i.size, i.bytes)) = some (some 3, 3, 48) := by kernel_rfl
theorem isz49 : (Tryz.prog.info? 49).map (·.size) = some 4 := by kernel_rfl
theorem iszb49 : (Tryz.prog.info? 49).map (fun i => (i.zero.isSome, i.size, i.bytes)) = some (true, 4, 64) := by kernel_rfl
theorem iszc49 : (Tryz.prog.info? 49).map (fun i => (i.zero.map (fun z => z.cells.size), i.size, i.bytes)) = some (some 4, 4, 64) := by kernel_rfl
theorem isz54 : (Tryz.prog.info? 54).map (·.size) = some 1 := by kernel_rfl
theorem iszb54 : (Tryz.prog.info? 54).map (fun i => (i.zero.isSome, i.size, i.bytes)) = some (true, 1, 24) := by kernel_rfl
theorem iszc54 : (Tryz.prog.info? 54).map (fun i => (i.zero.map (fun z => z.cells.size), i.size, i.bytes)) = some (some 1, 1, 24) := by kernel_rfl
theorem isz60 : (Tryz.prog.info? 60).map (·.size) = some 1 := by kernel_rfl
theorem iszb60 : (Tryz.prog.info? 60).map (fun i => (i.zero.isSome, i.size, i.bytes)) = some (true, 1, 24) := by kernel_rfl
theorem iszc60 : (Tryz.prog.info? 60).map (fun i => (i.zero.map (fun z => z.cells.size), i.size, i.bytes)) = some (some 1, 1, 24) := by kernel_rfl
theorem isz66 : (Tryz.prog.info? 66).map (·.size) = some 1 := by kernel_rfl
theorem iszb66 : (Tryz.prog.info? 66).map (fun i => (i.zero.isSome, i.size, i.bytes)) = some (true, 1, 24) := by kernel_rfl
theorem iszc66 : (Tryz.prog.info? 66).map (fun i => (i.zero.map (fun z => z.cells.size), i.size, i.bytes)) = some (some 1, 1, 24) := by kernel_rfl
theorem isz78 : (Tryz.prog.info? 78).map (·.size) = some 1 := by kernel_rfl
theorem iszb78 : (Tryz.prog.info? 78).map (fun i => (i.zero.isSome, i.size, i.bytes)) = some (true, 1, 24) := by kernel_rfl
theorem iszc78 : (Tryz.prog.info? 78).map (fun i => (i.zero.map (fun z => z.cells.size), i.size, i.bytes)) = some (some 1, 1, 24) := by kernel_rfl
theorem isz80 : (Tryz.prog.info? 80).map (·.size) = some 1 := by kernel_rfl
theorem iszb80 : (Tryz.prog.info? 80).map (fun i => (i.zero.isSome, i.size, i.bytes)) = some (true, 1, 24) := by kernel_rfl
theorem iszc80 : (Tryz.prog.info? 80).map (fun i => (i.zero.map (fun z => z.cells.size), i.size, i.bytes)) = some (some 1, 1, 24) := by kernel_rfl
theorem isz82 : (Tryz.prog.info? 82).map (·.size) = some 1 := by kernel_rfl
theorem iszb82 : (Tryz.prog.info? 82).map (fun i => (i.zero.isSome, i.size, i.bytes)) = some (true, 1, 24) := by kernel_rfl
theorem iszc82 : (Tryz.prog.info? 82).map (fun i => (i.zero.map (fun z => z.cells.size), i.size, i.bytes)) = some (some 1, 1, 24) := by kernel_rfl
theorem isz92 : (Tryz.prog.info? 92).map (·.size) = some 1 := by kernel_rfl
theorem iszb92 : (Tryz.prog.info? 92).map (fun i => (i.zero.isSome, i.size, i.bytes)) = some (true, 1, 24) := by kernel_rfl
theorem iszc92 : (Tryz.prog.info? 92).map (fun i => (i.zero.map (fun z => z.cells.size), i.size, i.bytes)) = some (some 1, 1, 24) := by kernel_rfl
theorem isz94 : (Tryz.prog.info? 94).map (·.size) = some 5 := by kernel_rfl
theorem iszb94 : (Tryz.prog.info? 94).map (fun i => (i.zero.isSome, i.size, i.bytes)) = some (true, 5, 72) := by kernel_rfl
theorem iszc94 : (Tryz.prog.info? 94).map (fun i => (i.zero.map (fun z => z.cells.size), i.size, i.bytes)) = some (some 5, 5, 72) := by kernel_rfl
theorem isz99 : (Tryz.prog.info? 99).map (·.size) = some 1 := by kernel_rfl
theorem iszb99 : (Tryz.prog.info? 99).map (fun i => (i.zero.isSome, i.size, i.bytes)) = some (true, 1, 24) := by kernel_rfl
theorem iszc99 : (Tryz.prog.info? 99).map (fun i => (i.zero.map (fun z => z.cells.size), i.size, i.bytes)) = some (some 1, 1, 24) := by kernel_rfl
theorem isz100 : (Tryz.prog.info? 100).map (·.size) = some 1 := by kernel_rfl
theorem iszb100 : (Tryz.prog.info? 100).map (fun i => (i.zero.isSome, i.size, i.bytes)) = some (true, 1, 24) := by kernel_rfl
theorem iszc100 : (Tryz.prog.info? 100).map (fun i => (i.zero.map (fun z => z.cells.size), i.size, i.bytes)) = some (some 1, 1, 24) := by kernel_rfl
theorem isz101 : (Tryz.prog.info? 101).map (·.size) = some 1 := by kernel_rfl
theorem iszb101 : (Tryz.prog.info? 101).map (fun i => (i.zero.isSome, i.size, i.bytes)) = some (true, 1, 24) := by kernel_rfl
theorem iszc101 : (Tryz.prog.info? 101).map (fun i => (i.zero.map (fun z => z.cells.size), i.size, i.bytes)) = some (some 1, 1, 24) := by kernel_rfl
theorem isz103 : (Tryz.prog.info? 103).map (·.size) = some 9 := by kernel_rfl
theorem iszb103 : (Tryz.prog.info? 103).map (fun i => (i.zero.isSome, i.size, i.bytes)) = some (true, 9, 144) := by kernel_rfl
theorem iszc103 : (Tryz.prog.info? 103).map (fun i => (i.zero.map (fun z => z.cells.size), i.size, i.bytes)) = some (some 9, 9, 144) := by kernel_rfl
theorem isz105 : (Tryz.prog.info? 105).map (·.size) = some 16 := by kernel_rfl
theorem iszb105 : (Tryz.prog.info? 105).map (fun i => (i.zero.isSome, i.size, i.bytes)) = some (true, 16, 280) := by kernel_rfl
theorem iszc105 : (Tryz.prog.info? 105).map (fun i => (i.zero.map (fun z => z.cells.size), i.size, i.bytes)) = some (some 16, 16, 280) := by kernel_rfl
theorem isz111 : (Tryz.prog.info? 111).map (·.size) = some 1 := by kernel_rfl
theorem iszb111 : (Tryz.prog.info? 111).map (fun i => (i.zero.isSome, i.size, i.bytes)) = some (true, 1, 24) := by kernel_rfl
theorem iszc111 : (Tryz.prog.info? 111).map (fun i => (i.zero.map (fun z => z.cells.size), i.size, i.bytes)) = some (some 1, 1, 24) := by kernel_rfl
theorem isz113 : (Tryz.prog.info? 113).map (·.size) = some 12 := by kernel_rfl
theorem iszb113 : (Tryz.prog.info? 113).map (fun i => (i.zero.isSome, i.size, i.bytes)) = some (true, 12, 192) := by kernel_rfl
theorem iszc113 : (Tryz.prog.info? 113).map (fun i => (i.zero.map (fun z => z.cells.size), i.size, i.bytes)) = some (some 12, 12, 192) := by kernel_rfl
theorem isz121 : (Tryz.prog.info? 121).map (·.size) = some 1 := by kernel_rfl
theorem iszb121 : (Tryz.prog.info? 121).map (fun i => (i.zero.isSome, i.size, i.bytes)) = some (true, 1, 24) := by kernel_rfl
theorem iszc121 : (Tryz.prog.info? 121).map (fun i => (i.zero.map (fun z => z.cells.size), i.size, i.bytes)) = some (some 1, 1, 24) := by kernel_rfl
theorem isz122 : (Tryz.prog.info? 122).map (·.size) = some 1 := by kernel_rfl
theorem iszb122 : (Tryz.prog.info? 122).map (fun i => (i.zero.isSome, i.size, i.bytes)) = some (true, 1, 24) := by kernel_rfl
theorem iszc122 : (Tryz.prog.info? 122).map (fun i => (i.zero.map (fun z => z.cells.size), i.size, i.bytes)) = some (some 1, 1, 24) := by kernel_rfl
theorem isz123 : (Tryz.prog.info? 123).map (·.size) = some 1 := by kernel_rfl
theorem iszb123 : (Tryz.prog.info? 123).map (fun i => (i.zero.isSome, i.size, i.bytes)) = some (true, 1, 24) := by kernel_rfl
theorem iszc123 : (Tryz.prog.info? 123).map (fun i => (i.zero.map (fun z => z.cells.size), i.size, i.bytes)) = some (some 1, 1, 24) := by kernel_rfl
theorem isz124 : (Tryz.prog.info? 124).map (·.size) = some 1 := by kernel_rfl
theorem iszb124 : (Tryz.prog.info? 124).map (fun i => (i.zero.isSome, i.size, i.bytes)) = some (true, 1, 24) := by kernel_rfl
theorem iszc124 : (Tryz.prog.info? 124).map (fun i => (i.zero.map (fun z => z.cells.size), i.size, i.bytes)) = some (some 1, 1, 24) := by kernel_rfl
theorem isz126 : (Tryz.prog.info? 126).map (·.size) = some 6 := by kernel_rfl
theorem iszb126 : (Tryz.prog.info? 126).map (fun i => (i.zero.isSome, i.size, i.bytes)) = some (true, 6, 136) := by kernel_rfl
theorem iszc126 : (Tryz.prog.info? 126).map (fun i => (i.zero.map (fun z => z.cells.size), i.size, i.bytes)) = some (some 6, 6, 136) := by kernel_rfl
theorem isz138 : (Tryz.prog.info? 138).map (·.size) = some 1 := by kernel_rfl
theorem iszb138 : (Tryz.prog.info? 138).map (fun i => (i.zero.isSome, i.size, i.bytes)) = some (true, 1, 24) := by kernel_rfl
theorem iszc138 : (Tryz.prog.info? 138).map (fun i => (i.zero.map (fun z => z.cells.size), i.size, i.bytes)) = some (some 1, 1, 24) := by kernel_rfl
theorem isz147 : (Tryz.prog.info? 147).map (·.size) = some 6 := by kernel_rfl
theorem iszb147 : (Tryz.prog.info? 147).map (fun i => (i.zero.isSome, i.size, i.bytes)) = some (true, 6, 96) := by kernel_rfl
theorem iszc147 : (Tryz.prog.info? 147).map (fun i => (i.zero.map (fun z => z.cells.size), i.size, i.bytes)) = some (some 6, 6, 96) := by kernel_rfl
theorem isz161 : (Tryz.prog.info? 161).map (·.size) = some 1 := by kernel_rfl
theorem iszb161 : (Tryz.prog.info? 161).map (fun i => (i.zero.isSome, i.size, i.bytes)) = some (true, 1, 24) := by kernel_rfl
theorem iszc161 : (Tryz.prog.info? 161).map (fun i => (i.zero.map (fun z => z.cells.size), i.size, i.bytes)) = some (some 1, 1, 24) := by kernel_rfl
theorem isz162 : (Tryz.prog.info? 162).map (·.size) = some 1 := by kernel_rfl
theorem iszb162 : (Tryz.prog.info? 162).map (fun i => (i.zero.isSome, i.size, i.bytes)) = some (true, 1, 24) := by kernel_rfl
theorem iszc162 : (Tryz.prog.info? 162).map (fun i => (i.zero.map (fun z => z.cells.size), i.size, i.bytes)) = some (some 1, 1, 24) := by kernel_rfl
theorem isz163 : (Tryz.prog.info? 163).map (·.size) = some 1 := by kernel_rfl
theorem iszb163 : (Tryz.prog.info? 163).map (fun i => (i.zero.isSome, i.size, i.bytes)) = some (true, 1, 24) := by kernel_rfl
theorem iszc163 : (Tryz.prog.info? 163).map (fun i => (i.zero.map (fun z => z.cells.size), i.size, i.bytes)) = some (some 1, 1, 24) := by kernel_rfl
theorem isz164 : (Tryz.prog.info? 164).map (·.size) = some 1 := by kernel_rfl
theorem iszb164 : (Tryz.prog.info? 164).map (fun i => (i.zero.isSome, i.size, i.bytes)) = some (true, 1, 24) := by kernel_rfl
theorem iszc164 : (Tryz.prog.info? 164).map (fun i => (i.zero.map (fun z => z.cells.size), i.size, i.bytes)) = some (some 1, 1, 24) := by kernel_rfl
theorem isz166 : (Tryz.prog.info? 166).map (·.size) = some 6 := by kernel_rfl
theorem iszb166 : (Tryz.prog.info? 166).map (fun i => (i.zero.isSome, i.size, i.bytes)) = some (true, 6, 136) := by kernel_rfl
theorem iszc166 : (Tryz.prog.info? 166).map (fun i => (i.zero.map (fun z => z.cells.size), i.size, i.bytes)) = some (some 6, 6, 136) := by kernel_rfl
theorem isz169 : (Tryz.prog.info? 169).map (·.size) = some 1 := by kernel_rfl
theorem iszb169 : (Tryz.prog.info? 169).map (fun i => (i.zero.isSome, i.size, i.bytes)) = some (true, 1, 24) := by kernel_rfl
theorem iszc169 : (Tryz.prog.info? 169).map (fun i => (i.zero.map (fun z => z.cells.size), i.size, i.bytes)) = some (some 1, 1, 24) := by kernel_rfl
theorem isz171 : (Tryz.prog.info? 171).map (·.size) = some 3 := by kernel_rfl
theorem iszb171 : (Tryz.prog.info? 171).map (fun i => (i.zero.isSome, i.size, i.bytes)) = some (true, 3, 64) := by kernel_rfl
theorem iszc171 : (Tryz.prog.info? 171).map (fun i => (i.zero.map (fun z => z.cells.size), i.size, i.bytes)) = some (some 3, 3, 64) := by kernel_rfl
theorem isz184 : (Tryz.prog.info? 184).map (·.size) = some 1 := by kernel_rfl
theorem iszb184 : (Tryz.prog.info? 184).map (fun i => (i.zero.isSome, i.size, i.bytes)) = some (true, 1, 24) := by kernel_rfl
theorem iszc184 : (Tryz.prog.info? 184).map (fun i => (i.zero.map (fun z => z.cells.size), i.size, i.bytes)) = some (some 1, 1, 24) := by kernel_rfl
theorem isz191 : (Tryz.prog.info? 191).map (·.size) = some 16 := by kernel_rfl
theorem iszb191 : (Tryz.prog.info? 191).map (fun i => (i.zero.isSome, i.size, i.bytes)) = some (true, 16, 264) := by kernel_rfl
theorem iszc191 : (Tryz.prog.info? 191).map (fun i => (i.zero.map (fun z => z.cells.size), i.size, i.bytes)) = some (some 16, 16, 264) := by kernel_rfl
theorem isz199 : (Tryz.prog.info? 199).map (·.size) = some 4 := by kernel_rfl
theorem iszb199 : (Tryz.prog.info? 199).map (fun i => (i.zero.isSome, i.size, i.bytes)) = some (true, 4, 64) := by kernel_rfl
theorem iszc199 : (Tryz.prog.info? 199).map (fun i => (i.zero.map (fun z => z.cells.size), i.size, i.bytes)) = some (some 4, 4, 64) := by kernel_rfl
theorem isz225 : (Tryz.prog.info? 225).map (·.size) = some 4 := by kernel_rfl
theorem iszb225 : (Tryz.prog.info? 225).map (fun i => (i.zero.isSome, i.size, i.bytes)) = some (true, 4, 64) := by kernel_rfl
theorem iszc225 : (Tryz.prog.info? 225).map (fun i => (i.zero.map (fun z => z.cells.size), i.size, i.bytes)) = some (some 4, 4, 64) := by kernel_rfl
theorem isz229 : (Tryz.prog.info? 229).map (·.size) = some 11 := by kernel_rfl
theorem iszb229 : (Tryz.prog.info? 229).map (fun i => (i.zero.isSome, i.size, i.bytes)) = some (true, 11, 184) := by kernel_rfl
theorem iszc229 : (Tryz.prog.info? 229).map (fun i => (i.zero.map (fun z => z.cells.size), i.size, i.bytes)) = some (some 11, 11, 184) := by kernel_rfl
theorem isz232 : (Tryz.prog.info? 232).map (·.size) = some 1 := by kernel_rfl
theorem iszb232 : (Tryz.prog.info? 232).map (fun i => (i.zero.isSome, i.size, i.bytes)) = some (true, 1, 24) := by kernel_rfl
theorem iszc232 : (Tryz.prog.info? 232).map (fun i => (i.zero.map (fun z => z.cells.size), i.size, i.bytes)) = some (some 1, 1, 24) := by kernel_rfl
theorem isz234 : (Tryz.prog.info? 234).map (·.size) = some 5 := by kernel_rfl
theorem iszb234 : (Tryz.prog.info? 234).map (fun i => (i.zero.isSome, i.size, i.bytes)) = some (true, 5, 72) := by kernel_rfl
theorem iszc234 : (Tryz.prog.info? 234).map (fun i => (i.zero.map (fun z => z.cells.size), i.size, i.bytes)) = some (some 5, 5, 72) := by kernel_rfl
theorem isz236 : (Tryz.prog.info? 236).map (·.size) = some 1 := by kernel_rfl
theorem iszb236 : (Tryz.prog.info? 236).map (fun i => (i.zero.isSome, i.size, i.bytes)) = some (true, 1, 24) := by kernel_rfl
theorem iszc236 : (Tryz.prog.info? 236).map (fun i => (i.zero.map (fun z => z.cells.size), i.size, i.bytes)) = some (some 1, 1, 24) := by kernel_rfl
theorem isz238 : (Tryz.prog.info? 238).map (·.size) = some 3 := by kernel_rfl
theorem iszb238 : (Tryz.prog.info? 238).map (fun i => (i.zero.isSome, i.size, i.bytes)) = some (true, 3, 64) := by kernel_rfl
theorem iszc238 : (Tryz.prog.info? 238).map (fun i => (i.zero.map (fun z => z.cells.size), i.size, i.bytes)) = some (some 3, 3, 64) := by kernel_rfl
theorem isz240 : (Tryz.prog.info? 240).map (·.size) = some 1 := by kernel_rfl
theorem iszb240 : (Tryz.prog.info? 240).map (fun i => (i.zero.isSome, i.size, i.bytes)) = some (true, 1, 24) := by kernel_rfl
theorem iszc240 : (Tryz.prog.info? 240).map (fun i => (i.zero.map (fun z => z.cells.size), i.size, i.bytes)) = some (some 1, 1, 24) := by kernel_rfl
theorem isz242 : (Tryz.prog.info? 242).map (·.size) = some 12 := by kernel_rfl
theorem iszb242 : (Tryz.prog.info? 242).map (fun i => (i.zero.isSome, i.size, i.bytes)) = some (true, 12, 192) := by kernel_rfl
theorem iszc242 : (Tryz.prog.info? 242).map (fun i => (i.zero.map (fun z => z.cells.size), i.size, i.bytes)) = some (some 12, 12, 192) := by kernel_rfl
theorem isz244 : (Tryz.prog.info? 244).map (·.size) = some 1 := by kernel_rfl
theorem iszb244 : (Tryz.prog.info? 244).map (fun i => (i.zero.isSome, i.size, i.bytes)) = some (true, 1, 24) := by kernel_rfl
theorem iszc244 : (Tryz.prog.info? 244).map (fun i => (i.zero.map (fun z => z.cells.size), i.size, i.bytes)) = some (some 1, 1, 24) := by kernel_rfl
theorem isz245 : (Tryz.prog.info? 245).map (·.size) = some 1 := by kernel_rfl
theorem iszb245 : (Tryz.prog.info? 245).map (fun i => (i.zero.isSome, i.size, i.bytes)) = some (true, 1, 24) := by kernel_rfl
theorem iszc245 : (Tryz.prog.info? 245).map (fun i => (i.zero.map (fun z => z.cells.size), i.size, i.bytes)) = some (some 1, 1, 24) := by kernel_rfl
theorem isz246 : (Tryz.prog.info? 246).map (·.size) = some 1 := by kernel_rfl
theorem iszb246 : (Tryz.prog.info? 246).map (fun i => (i.zero.isSome, i.size, i.bytes)) = some (true, 1, 24) := by kernel_rfl
theorem iszc246 : (Tryz.prog.info? 246).map (fun i => (i.zero.map (fun z => z.cells.size), i.size, i.bytes)) = some (some 1, 1, 24) := by kernel_rfl
theorem isz248 : (Tryz.prog.info? 248).map (·.size) = some 9 := by kernel_rfl
theorem iszb248 : (Tryz.prog.info? 248).map (fun i => (i.zero.isSome, i.size, i.bytes)) = some (true, 9, 144) := by kernel_rfl
theorem iszc248 : (Tryz.prog.info? 248).map (fun i => (i.zero.map (fun z => z.cells.size), i.size, i.bytes)) = some (some 9, 9, 144) := by kernel_rfl
theorem isz250 : (Tryz.prog.info? 250).map (·.size) = some 16 := by kernel_rfl
theorem iszb250 : (Tryz.prog.info? 250).map (fun i => (i.zero.isSome, i.size, i.bytes)) = some (true, 16, 280) := by kernel_rfl
theorem iszc250 : (Tryz.prog.info? 250).map (fun i => (i.zero.map (fun z => z.cells.size), i.size, i.bytes)) = some (some 16, 16, 280) := by kernel_rfl
theorem isz258 : (Tryz.prog.info? 258).map (·.size) = some 2 := by kernel_rfl
theorem iszb258 : (Tryz.prog.info? 258).map (fun i => (i.zero.isSome, i.size, i.bytes)) = some (true, 2, 40) := by kernel_rfl
theorem iszc258 : (Tryz.prog.info? 258).map (fun i => (i.zero.map (fun z => z.cells.size), i.size, i.bytes)) = some (some 2, 2, 40) := by kernel_rfl
theorem isz260 : (Tryz.prog.info? 260).map (·.size) = some 11 := by kernel_rfl
theorem iszb260 : (Tryz.prog.info? 260).map (fun i => (i.zero.isSome, i.size, i.bytes)) = some (true, 11, 184) := by kernel_rfl
theorem iszc260 : (Tryz.prog.info? 260).map (fun i => (i.zero.map (fun z => z.cells.size), i.size, i.bytes)) = some (some 11, 11, 184) := by kernel_rfl
theorem isz277 : (Tryz.prog.info? 277).map (·.size) = some 16 := by kernel_rfl
theorem iszb277 : (Tryz.prog.info? 277).map (fun i => (i.zero.isSome, i.size, i.bytes)) = some (true, 16, 264) := by kernel_rfl
theorem iszc277 : (Tryz.prog.info? 277).map (fun i => (i.zero.map (fun z => z.cells.size), i.size, i.bytes)) = some (some 16, 16, 264) := by kernel_rfl
theorem isz280 : (Tryz.prog.info? 280).map (·.size) = some 2 := by kernel_rfl
theorem iszb280 : (Tryz.prog.info? 280).map (fun i => (i.zero.isSome, i.size, i.bytes)) = some (true, 2, 40) := by kernel_rfl
theorem iszc280 : (Tryz.prog.info? 280).map (fun i => (i.zero.map (fun z => z.cells.size), i.size, i.bytes)) = some (some 2, 2, 40) := by kernel_rfl
theorem isz283 : (Tryz.prog.info? 283).map (·.size) = some 11 := by kernel_rfl
theorem iszb283 : (Tryz.prog.info? 283).map (fun i => (i.zero.isSome, i.size, i.bytes)) = some (true, 11, 184) := by kernel_rfl
theorem iszc283 : (Tryz.prog.info? 283).map (fun i => (i.zero.map (fun z => z.cells.size), i.size, i.bytes)) = some (some 11, 11, 184) := by kernel_rfl
theorem isz286 : (Tryz.prog.info? 286).map (·.size) = some 4 := by kernel_rfl
theorem iszb286 : (Tryz.prog.info? 286).map (fun i => (i.zero.isSome, i.size, i.bytes)) = some (true, 4, 64) := by kernel_rfl
theorem iszc286 : (Tryz.prog.info? 286).map (fun i => (i.zero.map (fun z => z.cells.size), i.size, i.bytes)) = some (some 4, 4, 64) := by kernel_rfl
theorem isz299 : (Tryz.prog.info? 299).map (·.size) = some 11 := by kernel_rfl
theorem iszb299 : (Tryz.prog.info? 299).map (fun i => (i.zero.isSome, i.size, i.bytes)) = some (true, 11, 184) := by kernel_rfl
theorem iszc299 : (Tryz.prog.info? 299).map (fun i => (i.zero.map (fun z => z.cells.size), i.size, i.bytes)) = some (some 11, 11, 184) := by kernel_rfl

end Go.Proofs.YtnakkelglbcecaaGreat
