/- What the laws' own helpers do, said once for all types. No conditions. -/
import Derived.Test.YtnakkelglbcecaaProg
import Derived.Test.YtnakkelglbcecaaOwn
namespace Go.Proofs.Ytnakkelglbcecaa
open Go.RowKit Go.Proofs

def SzC (f : FuncId) (ts : List Tr) : Prop := ∀ (cs : List Value) (left : Int) (w : World), RepL w ts cs → 0 ≤ left → left ≤ 1048576 →
  Calls Try.prog f #[.agg ⟨cs⟩, .int .i64 left] w fun e w' => ∃ r : Int, e = .returned (.int .i64 r) ∧ Ext w w' ∧ r ≤ left ∧ -1 ≤ r ∧ (0 ≤ r → r + Tr.bulkL ts ≤ left)
def SzSC (f : FuncId) (sz : Nat) (es : List (List Tr)) : Prop := ∀ (s : Value) (left : Int) (w : World), Rep w (.row sz es) s → 0 ≤ left → left ≤ 1048576 →
  Calls Try.prog f #[s, .int .i64 left] w fun e w' => ∃ r : Int, e = .returned (.int .i64 r) ∧ Ext w w' ∧ r ≤ left ∧ -1 ≤ r ∧ (0 ≤ r → r + Tr.bulk (.row sz es) ≤ left)
def ToC (f : FuncId) (ts : List Tr) : Prop := ∀ (cs : List Value) (w : World), RepL w ts cs → Tr.bulkL ts ≤ 68719476736 →
  Calls Try.prog f #[.agg ⟨cs⟩] w fun e w' => ∃ cs', e = .returned (.agg ⟨cs'⟩) ∧ Ext w w' ∧ OwnL w' ts cs' (Between w w')
def ToSC (f : FuncId) (sz : Nat) (es : List (List Tr)) : Prop := ∀ (s : Value) (w : World), Rep w (.row sz es) s → es.length + Tr.bulkAll es ≤ 68719476736 →
  Calls Try.prog f #[s] w fun e w' => ∃ s', e = .returned s' ∧ Ext w w' ∧ Own w' (.row sz es) s' (Between w w')
def EqC (f : FuncId) (ts : List Tr) : Prop := ∀ (cs ds : List Value) (w : World), RepL w ts cs → RepL w ts ds →
  Calls Try.prog f #[.agg ⟨cs⟩, .agg ⟨ds⟩] w fun e w' => e = .returned (.bool true) ∧ Ext w w'
def EqSC (f : FuncId) (sz : Nat) (es : List (List Tr)) : Prop := ∀ (s u : Value) (w : World), Rep w (.row sz es) s → Rep w (.row sz es) u →
  Calls Try.prog f #[s, u] w fun e w' => e = .returned (.bool true) ∧ Ext w w'

theorem isz3 : (Try.prog.info? 3).map (·.size) = some 1 := by kernel_rfl
theorem iszb3 : (Try.prog.info? 3).map (fun i => (i.zero.isSome, i.size, i.bytes)) = some (true, 1, 8) := by kernel_rfl
theorem iszc3 : (Try.prog.info? 3).map (fun i => (i.zero.map (fun z => z.cells.size), i.size, i.bytes)) = some (some 1, 1, 8) := by kernel_rfl
theorem isz4 : (Try.prog.info? 4).map (·.size) = some 1 := by kernel_rfl
theorem iszb4 : (Try.prog.info? 4).map (fun i => (i.zero.isSome, i.size, i.bytes)) = some (true, 1, 1) := by kernel_rfl
theorem iszc4 : (Try.prog.info? 4).map (fun i => (i.zero.map (fun z => z.cells.size), i.size, i.bytes)) = some (some 1, 1, 1) := by kernel_rfl
theorem isz5 : (Try.prog.info? 5).map (·.size) = some 1 := by kernel_rfl
theorem iszb5 : (Try.prog.info? 5).map (fun i => (i.zero.isSome, i.size, i.bytes)) = some (true, 1, 1) := by kernel_rfl
theorem iszc5 : (Try.prog.info? 5).map (fun i => (i.zero.map (fun z => z.cells.size), i.size, i.bytes)) = some (some 1, 1, 1) := by kernel_rfl
theorem isz9 : (Try.prog.info? 9).map (·.size) = some 1 := by kernel_rfl
theorem iszb9 : (Try.prog.info? 9).map (fun i => (i.zero.isSome, i.size, i.bytes)) = some (true, 1, 16) := by kernel_rfl
theorem iszc9 : (Try.prog.info? 9).map (fun i => (i.zero.map (fun z => z.cells.size), i.size, i.bytes)) = some (some 1, 1, 16) := by kernel_rfl
theorem isz22 : (Try.prog.info? 22).map (·.size) = some 1 := by kernel_rfl
theorem iszb22 : (Try.prog.info? 22).map (fun i => (i.zero.isSome, i.size, i.bytes)) = some (true, 1, 24) := by kernel_rfl
theorem iszc22 : (Try.prog.info? 22).map (fun i => (i.zero.map (fun z => z.cells.size), i.size, i.bytes)) = some (some 1, 1, 24) := by kernel_rfl
theorem isz24 : (Try.prog.info? 24).map (·.size) = some 1 := by kernel_rfl
theorem iszb24 : (Try.prog.info? 24).map (fun i => (i.zero.isSome, i.size, i.bytes)) = some (true, 1, 24) := by kernel_rfl
theorem iszc24 : (Try.prog.info? 24).map (fun i => (i.zero.map (fun z => z.cells.size), i.size, i.bytes)) = some (some 1, 1, 24) := by kernel_rfl
theorem isz25 : (Try.prog.info? 25).map (·.size) = some 1 := by kernel_rfl
theorem iszb25 : (Try.prog.info? 25).map (fun i => (i.zero.isSome, i.size, i.bytes)) = some (true, 1, 24) := by kernel_rfl
theorem iszc25 : (Try.prog.info? 25).map (fun i => (i.zero.map (fun z => z.cells.size), i.size, i.bytes)) = some (some 1, 1, 24) := by kernel_rfl
theorem isz27 : (Try.prog.info? 27).map (·.size) = some 3 := by kernel_rfl
theorem iszb27 : (Try.prog.info? 27).map (fun i => (i.zero.isSome, i.size, i.bytes)) = some (true, 3, 48) := by kernel_rfl
theorem iszc27 : (Try.prog.info? 27).map (fun i => (i.zero.map (fun z => z.cells.size), i.size, i.bytes)) = some (some 3, 3, 48) := by kernel_rfl
theorem isz31 : (Try.prog.info? 31).map (·.size) = some 1 := by kernel_rfl
theorem iszb31 : (Try.prog.info? 31).map (fun i => (i.zero.isSome, i.size, i.bytes)) = some (true, 1, 24) := by kernel_rfl
theorem iszc31 : (Try.prog.info? 31).map (fun i => (i.zero.map (fun z => z.cells.size), i.size, i.bytes)) = some (some 1, 1, 24) := by kernel_rfl
theorem isz33 : (Try.prog.info? 33).map (·.size) = some 1 := by kernel_rfl
theorem iszb33 : (Try.prog.info? 33).map (fun i => (i.zero.isSome, i.size, i.bytes)) = some (true, 1, 24) := by kernel_rfl
theorem iszc33 : (Try.prog.info? 33).map (fun i => (i.zero.map (fun z => z.cells.size), i.size, i.bytes)) = some (some 1, 1, 24) := by kernel_rfl
theorem isz35 : (Try.prog.info? 35).map (·.size) = some 1 := by kernel_rfl
theorem iszb35 : (Try.prog.info? 35).map (fun i => (i.zero.isSome, i.size, i.bytes)) = some (true, 1, 24) := by kernel_rfl
theorem iszc35 : (Try.prog.info? 35).map (fun i => (i.zero.map (fun z => z.cells.size), i.size, i.bytes)) = some (some 1, 1, 24) := by kernel_rfl
theorem isz37 : (Try.prog.info? 37).map (·.size) = some 3 := by kernel_rfl
theorem iszb37 : (Try.prog.info? 37).map (fun i => (i.zero.isSome, i.size, i.bytes)) = some (true, 3, 48) := by kernel_rfl
theorem iszc37 : (Try.prog.info? 37).map (fun i => (i.zero.map (fun z => z.cells.size), i.size, i.bytes)) = some (some 3, 3, 48) := by kernel_rfl
theorem isz47 : (Try.prog.info? 47).map (·.size) = some 1 := by kernel_rfl
theorem iszb47 : (Try.prog.info? 47).map (fun i => (i.zero.isSome, i.size, i.bytes)) = some (true, 1, 24) := by kernel_rfl
theorem iszc47 : (Try.prog.info? 47).map (fun i => (i.zero.map (fun z => z.cells.size), i.size, i.bytes)) = some (some 1, 1, 24) := by kernel_rfl
theorem isz48 : (Try.prog.info? 48).map (·.size) = some 1 := by kernel_rfl
theorem iszb48 : (Try.prog.info? 48).map (fun i => (i.zero.isSome, i.size, i.bytes)) = some (true, 1, 24) := by kernel_rfl
theorem iszc48 : (Try.prog.info? 48).map (fun i => (i.zero.map (fun z => z.cells.size), i.size, i.bytes)) = some (some 1, 1, 24) := by kernel_rfl
theorem isz50 : (Try.prog.info? 50).map (·.size) = some 3 := by kernel_rfl
theorem iszb50 : (Try.prog.info? 50).map (fun i => (i.zero.isSome, i.size, i.bytes)) = some (true, 3, 64) := by kernel_rfl
theorem iszc50 : (Try.prog.info? 50).map (fun i => (i.zero.map (fun z => z.cells.size), i.size, i.bytes)) = some (some 3, 3, 64) := by kernel_rfl
theorem isz58 : (Try.prog.info? 58).map (·.size) = some 1 := by kernel_rfl
theorem iszb58 : (Try.prog.info? 58).map (fun i => (i.zero.isSome, i.size, i.bytes)) = some (true, 1, 24) := by kernel_rfl
theorem iszc58 : (Try.prog.info? 58).map (fun i => (i.zero.map (fun z => z.cells.size), i.size, i.bytes)) = some (some 1, 1, 24) := by kernel_rfl
theorem isz59 : (Try.prog.info? 59).map (·.size) = some 1 := by kernel_rfl
theorem iszb59 : (Try.prog.info? 59).map (fun i => (i.zero.isSome, i.size, i.bytes)) = some (true, 1, 24) := by kernel_rfl
theorem iszc59 : (Try.prog.info? 59).map (fun i => (i.zero.map (fun z => z.cells.size), i.size, i.bytes)) = some (some 1, 1, 24) := by kernel_rfl
theorem isz60 : (Try.prog.info? 60).map (·.size) = some 1 := by kernel_rfl
theorem iszb60 : (Try.prog.info? 60).map (fun i => (i.zero.isSome, i.size, i.bytes)) = some (true, 1, 24) := by kernel_rfl
theorem iszc60 : (Try.prog.info? 60).map (fun i => (i.zero.map (fun z => z.cells.size), i.size, i.bytes)) = some (some 1, 1, 24) := by kernel_rfl
theorem isz61 : (Try.prog.info? 61).map (·.size) = some 1 := by kernel_rfl
theorem iszb61 : (Try.prog.info? 61).map (fun i => (i.zero.isSome, i.size, i.bytes)) = some (true, 1, 24) := by kernel_rfl
theorem iszc61 : (Try.prog.info? 61).map (fun i => (i.zero.map (fun z => z.cells.size), i.size, i.bytes)) = some (some 1, 1, 24) := by kernel_rfl
theorem isz63 : (Try.prog.info? 63).map (·.size) = some 6 := by kernel_rfl
theorem iszb63 : (Try.prog.info? 63).map (fun i => (i.zero.isSome, i.size, i.bytes)) = some (true, 6, 136) := by kernel_rfl
theorem iszc63 : (Try.prog.info? 63).map (fun i => (i.zero.map (fun z => z.cells.size), i.size, i.bytes)) = some (some 6, 6, 136) := by kernel_rfl
theorem isz66 : (Try.prog.info? 66).map (·.size) = some 1 := by kernel_rfl
theorem iszb66 : (Try.prog.info? 66).map (fun i => (i.zero.isSome, i.size, i.bytes)) = some (true, 1, 24) := by kernel_rfl
theorem iszc66 : (Try.prog.info? 66).map (fun i => (i.zero.map (fun z => z.cells.size), i.size, i.bytes)) = some (some 1, 1, 24) := by kernel_rfl
theorem isz68 : (Try.prog.info? 68).map (·.size) = some 5 := by kernel_rfl
theorem iszb68 : (Try.prog.info? 68).map (fun i => (i.zero.isSome, i.size, i.bytes)) = some (true, 5, 72) := by kernel_rfl
theorem iszc68 : (Try.prog.info? 68).map (fun i => (i.zero.map (fun z => z.cells.size), i.size, i.bytes)) = some (some 5, 5, 72) := by kernel_rfl
theorem isz70 : (Try.prog.info? 70).map (·.size) = some 1 := by kernel_rfl
theorem iszb70 : (Try.prog.info? 70).map (fun i => (i.zero.isSome, i.size, i.bytes)) = some (true, 1, 24) := by kernel_rfl
theorem iszc70 : (Try.prog.info? 70).map (fun i => (i.zero.map (fun z => z.cells.size), i.size, i.bytes)) = some (some 1, 1, 24) := by kernel_rfl
theorem isz71 : (Try.prog.info? 71).map (·.size) = some 1 := by kernel_rfl
theorem iszb71 : (Try.prog.info? 71).map (fun i => (i.zero.isSome, i.size, i.bytes)) = some (true, 1, 24) := by kernel_rfl
theorem iszc71 : (Try.prog.info? 71).map (fun i => (i.zero.map (fun z => z.cells.size), i.size, i.bytes)) = some (some 1, 1, 24) := by kernel_rfl
theorem isz72 : (Try.prog.info? 72).map (·.size) = some 1 := by kernel_rfl
theorem iszb72 : (Try.prog.info? 72).map (fun i => (i.zero.isSome, i.size, i.bytes)) = some (true, 1, 24) := by kernel_rfl
theorem iszc72 : (Try.prog.info? 72).map (fun i => (i.zero.map (fun z => z.cells.size), i.size, i.bytes)) = some (some 1, 1, 24) := by kernel_rfl
theorem isz73 : (Try.prog.info? 73).map (·.size) = some 1 := by kernel_rfl
theorem iszb73 : (Try.prog.info? 73).map (fun i => (i.zero.isSome, i.size, i.bytes)) = some (true, 1, 24) := by kernel_rfl
theorem iszc73 : (Try.prog.info? 73).map (fun i => (i.zero.map (fun z => z.cells.size), i.size, i.bytes)) = some (some 1, 1, 24) := by kernel_rfl
theorem isz75 : (Try.prog.info? 75).map (·.size) = some 6 := by kernel_rfl
theorem iszb75 : (Try.prog.info? 75).map (fun i => (i.zero.isSome, i.size, i.bytes)) = some (true, 6, 136) := by kernel_rfl
theorem iszc75 : (Try.prog.info? 75).map (fun i => (i.zero.map (fun z => z.cells.size), i.size, i.bytes)) = some (some 6, 6, 136) := by kernel_rfl
theorem isz100 : (Try.prog.info? 100).map (·.size) = some 1 := by kernel_rfl
theorem iszb100 : (Try.prog.info? 100).map (fun i => (i.zero.isSome, i.size, i.bytes)) = some (true, 1, 24) := by kernel_rfl
theorem iszc100 : (Try.prog.info? 100).map (fun i => (i.zero.map (fun z => z.cells.size), i.size, i.bytes)) = some (some 1, 1, 24) := by kernel_rfl
theorem isz102 : (Try.prog.info? 102).map (·.size) = some 5 := by kernel_rfl
theorem iszb102 : (Try.prog.info? 102).map (fun i => (i.zero.isSome, i.size, i.bytes)) = some (true, 5, 72) := by kernel_rfl
theorem iszc102 : (Try.prog.info? 102).map (fun i => (i.zero.map (fun z => z.cells.size), i.size, i.bytes)) = some (some 5, 5, 72) := by kernel_rfl
theorem isz104 : (Try.prog.info? 104).map (·.size) = some 1 := by kernel_rfl
theorem iszb104 : (Try.prog.info? 104).map (fun i => (i.zero.isSome, i.size, i.bytes)) = some (true, 1, 24) := by kernel_rfl
theorem iszc104 : (Try.prog.info? 104).map (fun i => (i.zero.map (fun z => z.cells.size), i.size, i.bytes)) = some (some 1, 1, 24) := by kernel_rfl
theorem isz106 : (Try.prog.info? 106).map (·.size) = some 3 := by kernel_rfl
theorem iszb106 : (Try.prog.info? 106).map (fun i => (i.zero.isSome, i.size, i.bytes)) = some (true, 3, 64) := by kernel_rfl
theorem iszc106 : (Try.prog.info? 106).map (fun i => (i.zero.map (fun z => z.cells.size), i.size, i.bytes)) = some (some 3, 3, 64) := by kernel_rfl
theorem isz108 : (Try.prog.info? 108).map (·.size) = some 1 := by kernel_rfl
theorem iszb108 : (Try.prog.info? 108).map (fun i => (i.zero.isSome, i.size, i.bytes)) = some (true, 1, 24) := by kernel_rfl
theorem iszc108 : (Try.prog.info? 108).map (fun i => (i.zero.map (fun z => z.cells.size), i.size, i.bytes)) = some (some 1, 1, 24) := by kernel_rfl
theorem isz109 : (Try.prog.info? 109).map (·.size) = some 1 := by kernel_rfl
theorem iszb109 : (Try.prog.info? 109).map (fun i => (i.zero.isSome, i.size, i.bytes)) = some (true, 1, 24) := by kernel_rfl
theorem iszc109 : (Try.prog.info? 109).map (fun i => (i.zero.map (fun z => z.cells.size), i.size, i.bytes)) = some (some 1, 1, 24) := by kernel_rfl
theorem isz111 : (Try.prog.info? 111).map (·.size) = some 12 := by kernel_rfl
theorem iszb111 : (Try.prog.info? 111).map (fun i => (i.zero.isSome, i.size, i.bytes)) = some (true, 12, 192) := by kernel_rfl
theorem iszc111 : (Try.prog.info? 111).map (fun i => (i.zero.map (fun z => z.cells.size), i.size, i.bytes)) = some (some 12, 12, 192) := by kernel_rfl
theorem isz113 : (Try.prog.info? 113).map (·.size) = some 1 := by kernel_rfl
theorem iszb113 : (Try.prog.info? 113).map (fun i => (i.zero.isSome, i.size, i.bytes)) = some (true, 1, 24) := by kernel_rfl
theorem iszc113 : (Try.prog.info? 113).map (fun i => (i.zero.map (fun z => z.cells.size), i.size, i.bytes)) = some (some 1, 1, 24) := by kernel_rfl
theorem isz114 : (Try.prog.info? 114).map (·.size) = some 1 := by kernel_rfl
theorem iszb114 : (Try.prog.info? 114).map (fun i => (i.zero.isSome, i.size, i.bytes)) = some (true, 1, 24) := by kernel_rfl
theorem iszc114 : (Try.prog.info? 114).map (fun i => (i.zero.map (fun z => z.cells.size), i.size, i.bytes)) = some (some 1, 1, 24) := by kernel_rfl
theorem isz115 : (Try.prog.info? 115).map (·.size) = some 1 := by kernel_rfl
theorem iszb115 : (Try.prog.info? 115).map (fun i => (i.zero.isSome, i.size, i.bytes)) = some (true, 1, 24) := by kernel_rfl
theorem iszc115 : (Try.prog.info? 115).map (fun i => (i.zero.map (fun z => z.cells.size), i.size, i.bytes)) = some (some 1, 1, 24) := by kernel_rfl
theorem isz117 : (Try.prog.info? 117).map (·.size) = some 9 := by kernel_rfl
theorem iszb117 : (Try.prog.info? 117).map (fun i => (i.zero.isSome, i.size, i.bytes)) = some (true, 9, 144) := by kernel_rfl
theorem iszc117 : (Try.prog.info? 117).map (fun i => (i.zero.map (fun z => z.cells.size), i.size, i.bytes)) = some (some 9, 9, 144) := by kernel_rfl
theorem isz119 : (Try.prog.info? 119).map (·.size) = some 16 := by kernel_rfl
theorem iszb119 : (Try.prog.info? 119).map (fun i => (i.zero.isSome, i.size, i.bytes)) = some (true, 16, 280) := by kernel_rfl
theorem iszc119 : (Try.prog.info? 119).map (fun i => (i.zero.map (fun z => z.cells.size), i.size, i.bytes)) = some (some 16, 16, 280) := by kernel_rfl
theorem isz122 : (Try.prog.info? 122).map (·.size) = some 1 := by kernel_rfl
theorem iszb122 : (Try.prog.info? 122).map (fun i => (i.zero.isSome, i.size, i.bytes)) = some (true, 1, 24) := by kernel_rfl
theorem iszc122 : (Try.prog.info? 122).map (fun i => (i.zero.map (fun z => z.cells.size), i.size, i.bytes)) = some (some 1, 1, 24) := by kernel_rfl
theorem isz123 : (Try.prog.info? 123).map (·.size) = some 1 := by kernel_rfl
theorem iszb123 : (Try.prog.info? 123).map (fun i => (i.zero.isSome, i.size, i.bytes)) = some (true, 1, 24) := by kernel_rfl
theorem iszc123 : (Try.prog.info? 123).map (fun i => (i.zero.map (fun z => z.cells.size), i.size, i.bytes)) = some (some 1, 1, 24) := by kernel_rfl
theorem isz125 : (Try.prog.info? 125).map (·.size) = some 12 := by kernel_rfl
theorem iszb125 : (Try.prog.info? 125).map (fun i => (i.zero.isSome, i.size, i.bytes)) = some (true, 12, 192) := by kernel_rfl
theorem iszc125 : (Try.prog.info? 125).map (fun i => (i.zero.map (fun z => z.cells.size), i.size, i.bytes)) = some (some 12, 12, 192) := by kernel_rfl
theorem isz127 : (Try.prog.info? 127).map (·.size) = some 1 := by kernel_rfl
theorem iszb127 : (Try.prog.info? 127).map (fun i => (i.zero.isSome, i.size, i.bytes)) = some (true, 1, 24) := by kernel_rfl
theorem iszc127 : (Try.prog.info? 127).map (fun i => (i.zero.map (fun z => z.cells.size), i.size, i.bytes)) = some (some 1, 1, 24) := by kernel_rfl
theorem isz128 : (Try.prog.info? 128).map (·.size) = some 1 := by kernel_rfl
theorem iszb128 : (Try.prog.info? 128).map (fun i => (i.zero.isSome, i.size, i.bytes)) = some (true, 1, 24) := by kernel_rfl
theorem iszc128 : (Try.prog.info? 128).map (fun i => (i.zero.map (fun z => z.cells.size), i.size, i.bytes)) = some (some 1, 1, 24) := by kernel_rfl
theorem isz129 : (Try.prog.info? 129).map (·.size) = some 1 := by kernel_rfl
theorem iszb129 : (Try.prog.info? 129).map (fun i => (i.zero.isSome, i.size, i.bytes)) = some (true, 1, 24) := by kernel_rfl
theorem iszc129 : (Try.prog.info? 129).map (fun i => (i.zero.map (fun z => z.cells.size), i.size, i.bytes)) = some (some 1, 1, 24) := by kernel_rfl
theorem isz131 : (Try.prog.info? 131).map (·.size) = some 9 := by kernel_rfl
theorem iszb131 : (Try.prog.info? 131).map (fun i => (i.zero.isSome, i.size, i.bytes)) = some (true, 9, 144) := by kernel_rfl
theorem iszc131 : (Try.prog.info? 131).map (fun i => (i.zero.map (fun z => z.cells.size), i.size, i.bytes)) = some (some 9, 9, 144) := by kernel_rfl
theorem isz133 : (Try.prog.info? 133).map (·.size) = some 16 := by kernel_rfl
theorem iszb133 : (Try.prog.info? 133).map (fun i => (i.zero.isSome, i.size, i.bytes)) = some (true, 16, 280) := by kernel_rfl
theorem iszc133 : (Try.prog.info? 133).map (fun i => (i.zero.map (fun z => z.cells.size), i.size, i.bytes)) = some (some 16, 16, 280) := by kernel_rfl
theorem isz159 : (Try.prog.info? 159).map (·.size) = some 16 := by kernel_rfl
theorem iszb159 : (Try.prog.info? 159).map (fun i => (i.zero.isSome, i.size, i.bytes)) = some (true, 16, 264) := by kernel_rfl
theorem iszc159 : (Try.prog.info? 159).map (fun i => (i.zero.map (fun z => z.cells.size), i.size, i.bytes)) = some (some 16, 16, 264) := by kernel_rfl
theorem isz162 : (Try.prog.info? 162).map (·.size) = some 2 := by kernel_rfl
theorem iszb162 : (Try.prog.info? 162).map (fun i => (i.zero.isSome, i.size, i.bytes)) = some (true, 2, 40) := by kernel_rfl
theorem iszc162 : (Try.prog.info? 162).map (fun i => (i.zero.map (fun z => z.cells.size), i.size, i.bytes)) = some (some 2, 2, 40) := by kernel_rfl
theorem isz165 : (Try.prog.info? 165).map (·.size) = some 4 := by kernel_rfl
theorem iszb165 : (Try.prog.info? 165).map (fun i => (i.zero.isSome, i.size, i.bytes)) = some (true, 4, 64) := by kernel_rfl
theorem iszc165 : (Try.prog.info? 165).map (fun i => (i.zero.map (fun z => z.cells.size), i.size, i.bytes)) = some (some 4, 4, 64) := by kernel_rfl
theorem isz168 : (Try.prog.info? 168).map (·.size) = some 11 := by kernel_rfl
theorem iszb168 : (Try.prog.info? 168).map (fun i => (i.zero.isSome, i.size, i.bytes)) = some (true, 11, 184) := by kernel_rfl
theorem iszc168 : (Try.prog.info? 168).map (fun i => (i.zero.map (fun z => z.cells.size), i.size, i.bytes)) = some (some 11, 11, 184) := by kernel_rfl
theorem isz171 : (Try.prog.info? 171).map (·.size) = some 4 := by kernel_rfl
theorem iszb171 : (Try.prog.info? 171).map (fun i => (i.zero.isSome, i.size, i.bytes)) = some (true, 4, 64) := by kernel_rfl
theorem iszc171 : (Try.prog.info? 171).map (fun i => (i.zero.map (fun z => z.cells.size), i.size, i.bytes)) = some (some 4, 4, 64) := by kernel_rfl
theorem isz175 : (Try.prog.info? 175).map (·.size) = some 16 := by kernel_rfl
theorem iszb175 : (Try.prog.info? 175).map (fun i => (i.zero.isSome, i.size, i.bytes)) = some (true, 16, 264) := by kernel_rfl
theorem iszc175 : (Try.prog.info? 175).map (fun i => (i.zero.map (fun z => z.cells.size), i.size, i.bytes)) = some (some 16, 16, 264) := by kernel_rfl
theorem isz178 : (Try.prog.info? 178).map (·.size) = some 2 := by kernel_rfl
theorem iszb178 : (Try.prog.info? 178).map (fun i => (i.zero.isSome, i.size, i.bytes)) = some (true, 2, 40) := by kernel_rfl
theorem iszc178 : (Try.prog.info? 178).map (fun i => (i.zero.map (fun z => z.cells.size), i.size, i.bytes)) = some (some 2, 2, 40) := by kernel_rfl
theorem isz181 : (Try.prog.info? 181).map (·.size) = some 4 := by kernel_rfl
theorem iszb181 : (Try.prog.info? 181).map (fun i => (i.zero.isSome, i.size, i.bytes)) = some (true, 4, 64) := by kernel_rfl
theorem iszc181 : (Try.prog.info? 181).map (fun i => (i.zero.map (fun z => z.cells.size), i.size, i.bytes)) = some (some 4, 4, 64) := by kernel_rfl
theorem isz184 : (Try.prog.info? 184).map (·.size) = some 11 := by kernel_rfl
theorem iszb184 : (Try.prog.info? 184).map (fun i => (i.zero.isSome, i.size, i.bytes)) = some (true, 11, 184) := by kernel_rfl
theorem iszc184 : (Try.prog.info? 184).map (fun i => (i.zero.map (fun z => z.cells.size), i.size, i.bytes)) = some (some 11, 11, 184) := by kernel_rfl
theorem isz187 : (Try.prog.info? 187).map (·.size) = some 4 := by kernel_rfl
theorem iszb187 : (Try.prog.info? 187).map (fun i => (i.zero.isSome, i.size, i.bytes)) = some (true, 4, 64) := by kernel_rfl
theorem iszc187 : (Try.prog.info? 187).map (fun i => (i.zero.map (fun z => z.cells.size), i.size, i.bytes)) = some (some 4, 4, 64) := by kernel_rfl
theorem isz200 : (Try.prog.info? 200).map (·.size) = some 11 := by kernel_rfl
theorem iszb200 : (Try.prog.info? 200).map (fun i => (i.zero.isSome, i.size, i.bytes)) = some (true, 11, 184) := by kernel_rfl
theorem iszc200 : (Try.prog.info? 200).map (fun i => (i.zero.map (fun z => z.cells.size), i.size, i.bytes)) = some (some 11, 11, 184) := by kernel_rfl
theorem isz202 : (Try.prog.info? 202).map (·.size) = some 11 := by kernel_rfl
theorem iszb202 : (Try.prog.info? 202).map (fun i => (i.zero.isSome, i.size, i.bytes)) = some (true, 11, 184) := by kernel_rfl
theorem iszc202 : (Try.prog.info? 202).map (fun i => (i.zero.map (fun z => z.cells.size), i.size, i.bytes)) = some (some 11, 11, 184) := by kernel_rfl

end Go.Proofs.Ytnakkelglbcecaa
