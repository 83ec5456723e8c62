/- Words, rules and walks of several kinds, laid together: PmT, PmFind, PmSup, PlZ, Cnt, PmSupK. No conditions but those that each theorem states. -/
import Derived.Test.YtnakkelglbcecaaGreatQ5LExactAllSupertraits
import Derived.Test.YtnakkelglbcecaaGreatProg
import Derived.Test.YtnakkelglbcecaaGreatQ1LExactAllSupertraits
import Derived.Test.YtnakkelglbcecaaGreatQ3LExactAllSupertraits
import Derived.Test.YtnakkelglbcecaaGreatQ2LExactAllSupertraits
import Derived.Test.YtnakkelglbcecaaGreatQ4LExactAllSupertraits
set_option linter.unusedSimpArgs false
set_option linter.unusedVariables false
namespace Go.Proofs.YtnakkelglbcecaaGreat
open Go.RowKit Go.Proofs

theorem sh3 : shapeOf Tryz.prog 3 = some (false, 1) := by kernel_rfl
theorem sz3 : (Tryz.prog.info? 3).map (·.size) = some 1 := by kernel_rfl
theorem zr3 : zerosOf Tryz.prog 3 = some [.t (.leaf (.int .i64 0))] := by kernel_rfl
theorem sh4 : shapeOf Tryz.prog 4 = some (false, 1) := by kernel_rfl
theorem sz4 : (Tryz.prog.info? 4).map (·.size) = some 1 := by kernel_rfl
theorem zr4 : zerosOf Tryz.prog 4 = some [.t (.leaf (.bool false))] := by kernel_rfl
theorem sh5 : shapeOf Tryz.prog 5 = some (false, 1) := by kernel_rfl
theorem sz5 : (Tryz.prog.info? 5).map (·.size) = some 1 := by kernel_rfl
theorem zr5 : zerosOf Tryz.prog 5 = some [.t (.leaf (.int .u8 0))] := by kernel_rfl
theorem sh9 : shapeOf Tryz.prog 9 = some (false, 1) := by kernel_rfl
theorem sz9 : (Tryz.prog.info? 9).map (·.size) = some 1 := by kernel_rfl
theorem zr9 : zerosOf Tryz.prog 9 = some [.t (.leaf (.string ⟨#[]⟩))] := by kernel_rfl
theorem sh22 : shapeOf Tryz.prog 22 = some (false, 1) := by kernel_rfl
theorem sz22 : (Tryz.prog.info? 22).map (·.size) = some 1 := by kernel_rfl
theorem el22 : elemOf? Tryz.prog 22 = some (166, 6, 136) := by kernel_rfl
theorem ze22 : (Tryz.prog.info? 166).bind (fun i => i.zero.map (fun z => z.cells.size)) = some 6 := by kernel_rfl
theorem zr22 : zerosOf Tryz.prog 22 = some [.nil] := by kernel_rfl
theorem sh24 : shapeOf Tryz.prog 24 = some (true, 1) := by kernel_rfl
theorem sz24 : (Tryz.prog.info? 24).map (·.size) = some 1 := by kernel_rfl
theorem zr24 : zerosOf Tryz.prog 24 = some [.nil] := by kernel_rfl
theorem sh26 : shapeOf Tryz.prog 26 = some (true, 2) := by kernel_rfl
theorem sz26 : (Tryz.prog.info? 26).map (·.size) = some 2 := by kernel_rfl
theorem zr26 : zerosOf Tryz.prog 26 = some [.t (.leaf (.int .i64 0)), .t (.leaf (.int .i64 0))] := by kernel_rfl
theorem sh29 : shapeOf Tryz.prog 29 = some (false, 1) := by kernel_rfl
theorem sz29 : (Tryz.prog.info? 29).map (·.size) = some 1 := by kernel_rfl
theorem el29 : elemOf? Tryz.prog 29 = some (126, 6, 136) := by kernel_rfl
theorem ze29 : (Tryz.prog.info? 126).bind (fun i => i.zero.map (fun z => z.cells.size)) = some 6 := by kernel_rfl
theorem zr29 : zerosOf Tryz.prog 29 = some [.nil] := by kernel_rfl
theorem sh31 : shapeOf Tryz.prog 31 = some (true, 1) := by kernel_rfl
theorem sz31 : (Tryz.prog.info? 31).map (·.size) = some 1 := by kernel_rfl
theorem zr31 : zerosOf Tryz.prog 31 = some [.nil] := by kernel_rfl
theorem sh33 : shapeOf Tryz.prog 33 = some (true, 2) := by kernel_rfl
theorem sz33 : (Tryz.prog.info? 33).map (·.size) = some 2 := by kernel_rfl
theorem zr33 : zerosOf Tryz.prog 33 = some [.t (.leaf (.int .i64 0)), .t (.leaf (.int .i64 0))] := by kernel_rfl
theorem pl33 : placesOf Tryz.prog 33 = some [(0, 1), (1, 1)] := by kernel_rfl
theorem sh37 : shapeOf Tryz.prog 37 = some (false, 1) := by kernel_rfl
theorem sz37 : (Tryz.prog.info? 37).map (·.size) = some 1 := by kernel_rfl
theorem el37 : elemOf? Tryz.prog 37 = some (39, 3, 48) := by kernel_rfl
theorem ze37 : (Tryz.prog.info? 39).bind (fun i => i.zero.map (fun z => z.cells.size)) = some 3 := by kernel_rfl
theorem zr37 : zerosOf Tryz.prog 37 = some [.nil] := by kernel_rfl
theorem sh39 : shapeOf Tryz.prog 39 = some (true, 3) := by kernel_rfl
theorem sz39 : (Tryz.prog.info? 39).map (·.size) = some 3 := by kernel_rfl
theorem zr39 : zerosOf Tryz.prog 39 = some [.t (.leaf (.int .i64 0)), .t (.leaf (.string ⟨#[]⟩)), .nil] := by kernel_rfl
theorem sh41 : shapeOf Tryz.prog 41 = some (true, 4) := by kernel_rfl
theorem sz41 : (Tryz.prog.info? 41).map (·.size) = some 4 := by kernel_rfl
theorem zr41 : zerosOf Tryz.prog 41 = some [.t (.leaf (.string ⟨#[]⟩)), .t (.leaf (.int .i64 0)), .t (.leaf (.string ⟨#[]⟩)), .nil] := by kernel_rfl
theorem sh45 : shapeOf Tryz.prog 45 = some (false, 1) := by kernel_rfl
theorem sz45 : (Tryz.prog.info? 45).map (·.size) = some 1 := by kernel_rfl
theorem el45 : elemOf? Tryz.prog 45 = some (47, 3, 48) := by kernel_rfl
theorem ze45 : (Tryz.prog.info? 47).bind (fun i => i.zero.map (fun z => z.cells.size)) = some 3 := by kernel_rfl
theorem zr45 : zerosOf Tryz.prog 45 = some [.nil] := by kernel_rfl
theorem sh47 : shapeOf Tryz.prog 47 = some (true, 3) := by kernel_rfl
theorem sz47 : (Tryz.prog.info? 47).map (·.size) = some 3 := by kernel_rfl
theorem zr47 : zerosOf Tryz.prog 47 = some [.t (.leaf (.int .i64 0)), .t (.leaf (.string ⟨#[]⟩)), .nil] := by kernel_rfl
theorem pl47 : placesOf Tryz.prog 47 = some [(0, 1), (1, 1), (2, 1)] := by kernel_rfl
theorem sh49 : shapeOf Tryz.prog 49 = some (true, 4) := by kernel_rfl
theorem sz49 : (Tryz.prog.info? 49).map (·.size) = some 4 := by kernel_rfl
theorem zr49 : zerosOf Tryz.prog 49 = some [.t (.leaf (.string ⟨#[]⟩)), .t (.leaf (.int .i64 0)), .t (.leaf (.string ⟨#[]⟩)), .nil] := by kernel_rfl
theorem pl49 : placesOf Tryz.prog 49 = some [(0, 1), (1, 3)] := by kernel_rfl
theorem sh54 : shapeOf Tryz.prog 54 = some (false, 1) := by kernel_rfl
theorem sz54 : (Tryz.prog.info? 54).map (·.size) = some 1 := by kernel_rfl
theorem el54 : elemOf? Tryz.prog 54 = some (9, 1, 16) := by kernel_rfl
theorem ze54 : (Tryz.prog.info? 9).bind (fun i => i.zero.map (fun z => z.cells.size)) = some 1 := by kernel_rfl
theorem zr54 : zerosOf Tryz.prog 54 = some [.nil] := by kernel_rfl
theorem sh60 : shapeOf Tryz.prog 60 = some (false, 1) := by kernel_rfl
theorem sz60 : (Tryz.prog.info? 60).map (·.size) = some 1 := by kernel_rfl
theorem el60 : elemOf? Tryz.prog 60 = some (3, 1, 8) := by kernel_rfl
theorem ze60 : (Tryz.prog.info? 3).bind (fun i => i.zero.map (fun z => z.cells.size)) = some 1 := by kernel_rfl
theorem zr60 : zerosOf Tryz.prog 60 = some [.nil] := by kernel_rfl
theorem sh66 : shapeOf Tryz.prog 66 = some (false, 1) := by kernel_rfl
theorem sz66 : (Tryz.prog.info? 66).map (·.size) = some 1 := by kernel_rfl
theorem el66 : elemOf? Tryz.prog 66 = some (33, 2, 16) := by kernel_rfl
theorem ze66 : (Tryz.prog.info? 33).bind (fun i => i.zero.map (fun z => z.cells.size)) = some 2 := by kernel_rfl
theorem zr66 : zerosOf Tryz.prog 66 = some [.nil] := by kernel_rfl
theorem sh75 : shapeOf Tryz.prog 75 = some (false, 1) := by kernel_rfl
theorem sz75 : (Tryz.prog.info? 75).map (·.size) = some 1 := by kernel_rfl
theorem sh78 : shapeOf Tryz.prog 78 = some (false, 1) := by kernel_rfl
theorem sz78 : (Tryz.prog.info? 78).map (·.size) = some 1 := by kernel_rfl
theorem el78 : elemOf? Tryz.prog 78 = some (41, 4, 64) := by kernel_rfl
theorem ze78 : (Tryz.prog.info? 41).bind (fun i => i.zero.map (fun z => z.cells.size)) = some 4 := by kernel_rfl
theorem zr78 : zerosOf Tryz.prog 78 = some [.nil] := by kernel_rfl
theorem sh80 : shapeOf Tryz.prog 80 = some (false, 1) := by kernel_rfl
theorem sz80 : (Tryz.prog.info? 80).map (·.size) = some 1 := by kernel_rfl
theorem el80 : elemOf? Tryz.prog 80 = some (147, 6, 96) := by kernel_rfl
theorem ze80 : (Tryz.prog.info? 147).bind (fun i => i.zero.map (fun z => z.cells.size)) = some 6 := by kernel_rfl
theorem zr80 : zerosOf Tryz.prog 80 = some [.nil] := by kernel_rfl
theorem sh82 : shapeOf Tryz.prog 82 = some (false, 1) := by kernel_rfl
theorem sz82 : (Tryz.prog.info? 82).map (·.size) = some 1 := by kernel_rfl
theorem el82 : elemOf? Tryz.prog 82 = some (49, 4, 64) := by kernel_rfl
theorem ze82 : (Tryz.prog.info? 49).bind (fun i => i.zero.map (fun z => z.cells.size)) = some 4 := by kernel_rfl
theorem zr82 : zerosOf Tryz.prog 82 = some [.nil] := by kernel_rfl
theorem sh92 : shapeOf Tryz.prog 92 = some (false, 1) := by kernel_rfl
theorem sz92 : (Tryz.prog.info? 92).map (·.size) = some 1 := by kernel_rfl
theorem el92 : elemOf? Tryz.prog 92 = some (191, 16, 264) := by kernel_rfl
theorem ze92 : (Tryz.prog.info? 191).bind (fun i => i.zero.map (fun z => z.cells.size)) = some 16 := by kernel_rfl
theorem zr92 : zerosOf Tryz.prog 92 = some [.nil] := by kernel_rfl
theorem sh94 : shapeOf Tryz.prog 94 = some (true, 5) := by kernel_rfl
theorem sz94 : (Tryz.prog.info? 94).map (·.size) = some 5 := by kernel_rfl
theorem zr94 : zerosOf Tryz.prog 94 = some [.t (.leaf (.string ⟨#[]⟩)), .nil, .t (.leaf (.bool false)), .t (.leaf (.bool false)), .nil] := by kernel_rfl
theorem pl94 : placesOf Tryz.prog 94 = some [(0, 1), (1, 1), (2, 1), (3, 1), (4, 1)] := by kernel_rfl
theorem sh99 : shapeOf Tryz.prog 99 = some (false, 1) := by kernel_rfl
theorem sz99 : (Tryz.prog.info? 99).map (·.size) = some 1 := by kernel_rfl
theorem el99 : elemOf? Tryz.prog 99 = some (199, 4, 64) := by kernel_rfl
theorem ze99 : (Tryz.prog.info? 199).bind (fun i => i.zero.map (fun z => z.cells.size)) = some 4 := by kernel_rfl
theorem zr99 : zerosOf Tryz.prog 99 = some [.nil] := by kernel_rfl
theorem sh100 : shapeOf Tryz.prog 100 = some (false, 1) := by kernel_rfl
theorem sz100 : (Tryz.prog.info? 100).map (·.size) = some 1 := by kernel_rfl
theorem el100 : elemOf? Tryz.prog 100 = some (103, 9, 144) := by kernel_rfl
theorem ze100 : (Tryz.prog.info? 103).bind (fun i => i.zero.map (fun z => z.cells.size)) = some 9 := by kernel_rfl
theorem zr100 : zerosOf Tryz.prog 100 = some [.nil] := by kernel_rfl
theorem sh101 : shapeOf Tryz.prog 101 = some (false, 1) := by kernel_rfl
theorem sz101 : (Tryz.prog.info? 101).map (·.size) = some 1 := by kernel_rfl
theorem el101 : elemOf? Tryz.prog 101 = some (229, 11, 184) := by kernel_rfl
theorem ze101 : (Tryz.prog.info? 229).bind (fun i => i.zero.map (fun z => z.cells.size)) = some 11 := by kernel_rfl
theorem zr101 : zerosOf Tryz.prog 101 = some [.nil] := by kernel_rfl
theorem sh103 : shapeOf Tryz.prog 103 = some (true, 9) := by kernel_rfl
theorem sz103 : (Tryz.prog.info? 103).map (·.size) = some 9 := by kernel_rfl
theorem zr103 : zerosOf Tryz.prog 103 = some [.t (.leaf (.int .i64 0)), .t (.leaf (.string ⟨#[]⟩)), .t (.leaf (.string ⟨#[]⟩)), .t (.leaf (.int .i64 0)), .t (.leaf (.int .i64 0)), .t (.leaf (.string ⟨#[]⟩)), .nil, .nil, .nil] := by kernel_rfl
theorem sh105 : shapeOf Tryz.prog 105 = some (true, 16) := by kernel_rfl
theorem sz105 : (Tryz.prog.info? 105).map (·.size) = some 16 := by kernel_rfl
theorem zr105 : zerosOf Tryz.prog 105 = some [.t (.leaf (.string ⟨#[]⟩)), .nil, .nil, .nil, .t (.leaf (.int .i64 0)), .t (.leaf (.string ⟨#[]⟩)), .nil, .t (.leaf (.int .i64 0)), .t (.leaf (.string ⟨#[]⟩)), .t (.leaf (.string ⟨#[]⟩)), .t (.leaf (.int .i64 0)), .t (.leaf (.int .i64 0)), .t (.leaf (.string ⟨#[]⟩)), .nil, .nil, .nil] := by kernel_rfl
theorem pl105 : placesOf Tryz.prog 105 = some [(0, 1), (1, 1), (2, 1), (3, 1), (4, 3), (7, 9)] := by kernel_rfl
theorem sh111 : shapeOf Tryz.prog 111 = some (false, 1) := by kernel_rfl
theorem sz111 : (Tryz.prog.info? 111).map (·.size) = some 1 := by kernel_rfl
theorem el111 : elemOf? Tryz.prog 111 = some (260, 11, 184) := by kernel_rfl
theorem ze111 : (Tryz.prog.info? 260).bind (fun i => i.zero.map (fun z => z.cells.size)) = some 11 := by kernel_rfl
theorem zr111 : zerosOf Tryz.prog 111 = some [.nil] := by kernel_rfl
theorem sh113 : shapeOf Tryz.prog 113 = some (true, 12) := by kernel_rfl
theorem sz113 : (Tryz.prog.info? 113).map (·.size) = some 12 := by kernel_rfl
theorem zr113 : zerosOf Tryz.prog 113 = some [.t (.leaf (.string ⟨#[]⟩)), .nil, .t (.leaf (.int .i64 0)), .t (.leaf (.string ⟨#[]⟩)), .nil, .nil, .t (.leaf (.bool false)), .t (.leaf (.bool false)), .t (.leaf (.int .i64 0)), .t (.leaf (.string ⟨#[]⟩)), .nil, .nil] := by kernel_rfl
theorem pl113 : placesOf Tryz.prog 113 = some [(0, 1), (1, 1), (2, 3), (5, 1), (6, 1), (7, 1), (8, 3), (11, 1)] := by kernel_rfl
theorem sh121 : shapeOf Tryz.prog 121 = some (false, 1) := by kernel_rfl
theorem sz121 : (Tryz.prog.info? 121).map (·.size) = some 1 := by kernel_rfl
theorem el121 : elemOf? Tryz.prog 121 = some (94, 5, 72) := by kernel_rfl
theorem ze121 : (Tryz.prog.info? 94).bind (fun i => i.zero.map (fun z => z.cells.size)) = some 5 := by kernel_rfl
theorem zr121 : zerosOf Tryz.prog 121 = some [.nil] := by kernel_rfl
theorem sh122 : shapeOf Tryz.prog 122 = some (false, 1) := by kernel_rfl
theorem sz122 : (Tryz.prog.info? 122).map (·.size) = some 1 := by kernel_rfl
theorem el122 : elemOf? Tryz.prog 122 = some (171, 3, 64) := by kernel_rfl
theorem ze122 : (Tryz.prog.info? 171).bind (fun i => i.zero.map (fun z => z.cells.size)) = some 3 := by kernel_rfl
theorem zr122 : zerosOf Tryz.prog 122 = some [.nil] := by kernel_rfl
theorem sh123 : shapeOf Tryz.prog 123 = some (false, 1) := by kernel_rfl
theorem sz123 : (Tryz.prog.info? 123).map (·.size) = some 1 := by kernel_rfl
theorem el123 : elemOf? Tryz.prog 123 = some (113, 12, 192) := by kernel_rfl
theorem ze123 : (Tryz.prog.info? 113).bind (fun i => i.zero.map (fun z => z.cells.size)) = some 12 := by kernel_rfl
theorem zr123 : zerosOf Tryz.prog 123 = some [.nil] := by kernel_rfl
theorem sh124 : shapeOf Tryz.prog 124 = some (false, 1) := by kernel_rfl
theorem sz124 : (Tryz.prog.info? 124).map (·.size) = some 1 := by kernel_rfl
theorem el124 : elemOf? Tryz.prog 124 = some (105, 16, 280) := by kernel_rfl
theorem ze124 : (Tryz.prog.info? 105).bind (fun i => i.zero.map (fun z => z.cells.size)) = some 16 := by kernel_rfl
theorem zr124 : zerosOf Tryz.prog 124 = some [.nil] := by kernel_rfl
theorem sh126 : shapeOf Tryz.prog 126 = some (true, 6) := by kernel_rfl
theorem sz126 : (Tryz.prog.info? 126).map (·.size) = some 6 := by kernel_rfl
theorem zr126 : zerosOf Tryz.prog 126 = some [.t (.leaf (.string ⟨#[]⟩)), .nil, .nil, .nil, .nil, .nil] := by kernel_rfl
theorem sh129 : shapeOf Tryz.prog 129 = some (false, 1) := by kernel_rfl
theorem sz129 : (Tryz.prog.info? 129).map (·.size) = some 1 := by kernel_rfl
theorem sh138 : shapeOf Tryz.prog 138 = some (false, 1) := by kernel_rfl
theorem sz138 : (Tryz.prog.info? 138).map (·.size) = some 1 := by kernel_rfl
theorem el138 : elemOf? Tryz.prog 138 = some (225, 4, 64) := by kernel_rfl
theorem ze138 : (Tryz.prog.info? 225).bind (fun i => i.zero.map (fun z => z.cells.size)) = some 4 := by kernel_rfl
theorem zr138 : zerosOf Tryz.prog 138 = some [.nil] := by kernel_rfl
theorem sh147 : shapeOf Tryz.prog 147 = some (true, 6) := by kernel_rfl
theorem sz147 : (Tryz.prog.info? 147).map (·.size) = some 6 := by kernel_rfl
theorem zr147 : zerosOf Tryz.prog 147 = some [.t (.leaf (.string ⟨#[]⟩)), .t (.leaf (.int .i64 0)), .t (.leaf (.string ⟨#[]⟩)), .nil, .t (.leaf (.int .i64 0)), .nil] := by kernel_rfl
theorem pl147 : placesOf Tryz.prog 147 = some [(0, 4), (4, 1), (5, 1)] := by kernel_rfl
theorem sh161 : shapeOf Tryz.prog 161 = some (false, 1) := by kernel_rfl
theorem sz161 : (Tryz.prog.info? 161).map (·.size) = some 1 := by kernel_rfl
theorem el161 : elemOf? Tryz.prog 161 = some (234, 5, 72) := by kernel_rfl
theorem ze161 : (Tryz.prog.info? 234).bind (fun i => i.zero.map (fun z => z.cells.size)) = some 5 := by kernel_rfl
theorem zr161 : zerosOf Tryz.prog 161 = some [.nil] := by kernel_rfl
theorem sh162 : shapeOf Tryz.prog 162 = some (false, 1) := by kernel_rfl
theorem sz162 : (Tryz.prog.info? 162).map (·.size) = some 1 := by kernel_rfl
theorem el162 : elemOf? Tryz.prog 162 = some (238, 3, 64) := by kernel_rfl
theorem ze162 : (Tryz.prog.info? 238).bind (fun i => i.zero.map (fun z => z.cells.size)) = some 3 := by kernel_rfl
theorem zr162 : zerosOf Tryz.prog 162 = some [.nil] := by kernel_rfl
theorem sh163 : shapeOf Tryz.prog 163 = some (false, 1) := by kernel_rfl
theorem sz163 : (Tryz.prog.info? 163).map (·.size) = some 1 := by kernel_rfl
theorem el163 : elemOf? Tryz.prog 163 = some (242, 12, 192) := by kernel_rfl
theorem ze163 : (Tryz.prog.info? 242).bind (fun i => i.zero.map (fun z => z.cells.size)) = some 12 := by kernel_rfl
theorem zr163 : zerosOf Tryz.prog 163 = some [.nil] := by kernel_rfl
theorem sh164 : shapeOf Tryz.prog 164 = some (false, 1) := by kernel_rfl
theorem sz164 : (Tryz.prog.info? 164).map (·.size) = some 1 := by kernel_rfl
theorem el164 : elemOf? Tryz.prog 164 = some (250, 16, 280) := by kernel_rfl
theorem ze164 : (Tryz.prog.info? 250).bind (fun i => i.zero.map (fun z => z.cells.size)) = some 16 := by kernel_rfl
theorem zr164 : zerosOf Tryz.prog 164 = some [.nil] := by kernel_rfl
theorem sh166 : shapeOf Tryz.prog 166 = some (true, 6) := by kernel_rfl
theorem sz166 : (Tryz.prog.info? 166).map (·.size) = some 6 := by kernel_rfl
theorem zr166 : zerosOf Tryz.prog 166 = some [.t (.leaf (.string ⟨#[]⟩)), .nil, .nil, .nil, .nil, .nil] := by kernel_rfl
theorem sh169 : shapeOf Tryz.prog 169 = some (false, 1) := by kernel_rfl
theorem sz169 : (Tryz.prog.info? 169).map (·.size) = some 1 := by kernel_rfl
theorem el169 : elemOf? Tryz.prog 169 = some (258, 2, 40) := by kernel_rfl
theorem ze169 : (Tryz.prog.info? 258).bind (fun i => i.zero.map (fun z => z.cells.size)) = some 2 := by kernel_rfl
theorem zr169 : zerosOf Tryz.prog 169 = some [.nil] := by kernel_rfl
theorem sh171 : shapeOf Tryz.prog 171 = some (true, 3) := by kernel_rfl
theorem sz171 : (Tryz.prog.info? 171).map (·.size) = some 3 := by kernel_rfl
theorem zr171 : zerosOf Tryz.prog 171 = some [.t (.leaf (.string ⟨#[]⟩)), .nil, .nil] := by kernel_rfl
theorem pl171 : placesOf Tryz.prog 171 = some [(0, 1), (1, 1), (2, 1)] := by kernel_rfl
theorem sh184 : shapeOf Tryz.prog 184 = some (false, 1) := by kernel_rfl
theorem sz184 : (Tryz.prog.info? 184).map (·.size) = some 1 := by kernel_rfl
theorem el184 : elemOf? Tryz.prog 184 = some (5, 1, 1) := by kernel_rfl
theorem ze184 : (Tryz.prog.info? 5).bind (fun i => i.zero.map (fun z => z.cells.size)) = some 1 := by kernel_rfl
theorem zr184 : zerosOf Tryz.prog 184 = some [.nil] := by kernel_rfl
theorem sh191 : shapeOf Tryz.prog 191 = some (true, 16) := by kernel_rfl
theorem sz191 : (Tryz.prog.info? 191).map (·.size) = some 16 := by kernel_rfl
theorem zr191 : zerosOf Tryz.prog 191 = some [.t (.leaf (.string ⟨#[]⟩)), .nil, .t (.leaf (.int .i64 0)), .t (.leaf (.string ⟨#[]⟩)), .nil, .t (.leaf (.bool false)), .nil, .t (.leaf (.int .i64 0)), .t (.leaf (.string ⟨#[]⟩)), .t (.leaf (.string ⟨#[]⟩)), .t (.leaf (.int .i64 0)), .t (.leaf (.int .i64 0)), .t (.leaf (.string ⟨#[]⟩)), .nil, .nil, .nil] := by kernel_rfl
theorem sh199 : shapeOf Tryz.prog 199 = some (true, 4) := by kernel_rfl
theorem sz199 : (Tryz.prog.info? 199).map (·.size) = some 4 := by kernel_rfl
theorem zr199 : zerosOf Tryz.prog 199 = some [.t (.leaf (.string ⟨#[]⟩)), .t (.leaf (.int .i64 0)), .t (.leaf (.string ⟨#[]⟩)), .nil] := by kernel_rfl
theorem pl199 : placesOf Tryz.prog 199 = some [(0, 1), (1, 3)] := by kernel_rfl
theorem sh219 : shapeOf Tryz.prog 219 = some (false, 1) := by kernel_rfl
theorem sz219 : (Tryz.prog.info? 219).map (·.size) = some 1 := by kernel_rfl
theorem sh225 : shapeOf Tryz.prog 225 = some (true, 4) := by kernel_rfl
theorem sz225 : (Tryz.prog.info? 225).map (·.size) = some 4 := by kernel_rfl
theorem zr225 : zerosOf Tryz.prog 225 = some [.t (.leaf (.string ⟨#[]⟩)), .t (.leaf (.int .i64 0)), .t (.leaf (.string ⟨#[]⟩)), .nil] := by kernel_rfl
theorem pl225 : placesOf Tryz.prog 225 = some [(0, 1), (1, 3)] := by kernel_rfl
theorem sh229 : shapeOf Tryz.prog 229 = some (true, 11) := by kernel_rfl
theorem sz229 : (Tryz.prog.info? 229).map (·.size) = some 11 := by kernel_rfl
theorem zr229 : zerosOf Tryz.prog 229 = some [.t (.leaf (.string ⟨#[]⟩)), .nil, .t (.leaf (.int .i64 0)), .t (.leaf (.string ⟨#[]⟩)), .t (.leaf (.string ⟨#[]⟩)), .t (.leaf (.int .i64 0)), .t (.leaf (.int .i64 0)), .t (.leaf (.string ⟨#[]⟩)), .nil, .nil, .nil] := by kernel_rfl
theorem pl229 : placesOf Tryz.prog 229 = some [(0, 1), (1, 1), (2, 9)] := by kernel_rfl
theorem sh232 : shapeOf Tryz.prog 232 = some (false, 1) := by kernel_rfl
theorem sz232 : (Tryz.prog.info? 232).map (·.size) = some 1 := by kernel_rfl
theorem el232 : elemOf? Tryz.prog 232 = some (277, 16, 264) := by kernel_rfl
theorem ze232 : (Tryz.prog.info? 277).bind (fun i => i.zero.map (fun z => z.cells.size)) = some 16 := by kernel_rfl
theorem zr232 : zerosOf Tryz.prog 232 = some [.nil] := by kernel_rfl
theorem sh234 : shapeOf Tryz.prog 234 = some (true, 5) := by kernel_rfl
theorem sz234 : (Tryz.prog.info? 234).map (·.size) = some 5 := by kernel_rfl
theorem zr234 : zerosOf Tryz.prog 234 = some [.t (.leaf (.string ⟨#[]⟩)), .nil, .t (.leaf (.bool false)), .t (.leaf (.bool false)), .nil] := by kernel_rfl
theorem sh236 : shapeOf Tryz.prog 236 = some (false, 1) := by kernel_rfl
theorem sz236 : (Tryz.prog.info? 236).map (·.size) = some 1 := by kernel_rfl
theorem el236 : elemOf? Tryz.prog 236 = some (280, 2, 40) := by kernel_rfl
theorem ze236 : (Tryz.prog.info? 280).bind (fun i => i.zero.map (fun z => z.cells.size)) = some 2 := by kernel_rfl
theorem zr236 : zerosOf Tryz.prog 236 = some [.nil] := by kernel_rfl
theorem sh238 : shapeOf Tryz.prog 238 = some (true, 3) := by kernel_rfl
theorem sz238 : (Tryz.prog.info? 238).map (·.size) = some 3 := by kernel_rfl
theorem zr238 : zerosOf Tryz.prog 238 = some [.t (.leaf (.string ⟨#[]⟩)), .nil, .nil] := by kernel_rfl
theorem sh240 : shapeOf Tryz.prog 240 = some (false, 1) := by kernel_rfl
theorem sz240 : (Tryz.prog.info? 240).map (·.size) = some 1 := by kernel_rfl
theorem el240 : elemOf? Tryz.prog 240 = some (283, 11, 184) := by kernel_rfl
theorem ze240 : (Tryz.prog.info? 283).bind (fun i => i.zero.map (fun z => z.cells.size)) = some 11 := by kernel_rfl
theorem zr240 : zerosOf Tryz.prog 240 = some [.nil] := by kernel_rfl
theorem sh242 : shapeOf Tryz.prog 242 = some (true, 12) := by kernel_rfl
theorem sz242 : (Tryz.prog.info? 242).map (·.size) = some 12 := by kernel_rfl
theorem zr242 : zerosOf Tryz.prog 242 = some [.t (.leaf (.string ⟨#[]⟩)), .nil, .t (.leaf (.int .i64 0)), .t (.leaf (.string ⟨#[]⟩)), .nil, .nil, .t (.leaf (.bool false)), .t (.leaf (.bool false)), .t (.leaf (.int .i64 0)), .t (.leaf (.string ⟨#[]⟩)), .nil, .nil] := by kernel_rfl
theorem sh244 : shapeOf Tryz.prog 244 = some (false, 1) := by kernel_rfl
theorem sz244 : (Tryz.prog.info? 244).map (·.size) = some 1 := by kernel_rfl
theorem el244 : elemOf? Tryz.prog 244 = some (286, 4, 64) := by kernel_rfl
theorem ze244 : (Tryz.prog.info? 286).bind (fun i => i.zero.map (fun z => z.cells.size)) = some 4 := by kernel_rfl
theorem zr244 : zerosOf Tryz.prog 244 = some [.nil] := by kernel_rfl
theorem sh245 : shapeOf Tryz.prog 245 = some (false, 1) := by kernel_rfl
theorem sz245 : (Tryz.prog.info? 245).map (·.size) = some 1 := by kernel_rfl
theorem el245 : elemOf? Tryz.prog 245 = some (248, 9, 144) := by kernel_rfl
theorem ze245 : (Tryz.prog.info? 248).bind (fun i => i.zero.map (fun z => z.cells.size)) = some 9 := by kernel_rfl
theorem zr245 : zerosOf Tryz.prog 245 = some [.nil] := by kernel_rfl
theorem sh246 : shapeOf Tryz.prog 246 = some (false, 1) := by kernel_rfl
theorem sz246 : (Tryz.prog.info? 246).map (·.size) = some 1 := by kernel_rfl
theorem el246 : elemOf? Tryz.prog 246 = some (299, 11, 184) := by kernel_rfl
theorem ze246 : (Tryz.prog.info? 299).bind (fun i => i.zero.map (fun z => z.cells.size)) = some 11 := by kernel_rfl
theorem zr246 : zerosOf Tryz.prog 246 = some [.nil] := by kernel_rfl
theorem sh248 : shapeOf Tryz.prog 248 = some (true, 9) := by kernel_rfl
theorem sz248 : (Tryz.prog.info? 248).map (·.size) = some 9 := by kernel_rfl
theorem zr248 : zerosOf Tryz.prog 248 = some [.t (.leaf (.int .i64 0)), .t (.leaf (.string ⟨#[]⟩)), .t (.leaf (.string ⟨#[]⟩)), .t (.leaf (.int .i64 0)), .t (.leaf (.int .i64 0)), .t (.leaf (.string ⟨#[]⟩)), .nil, .nil, .nil] := by kernel_rfl
theorem sh250 : shapeOf Tryz.prog 250 = some (true, 16) := by kernel_rfl
theorem sz250 : (Tryz.prog.info? 250).map (·.size) = some 16 := by kernel_rfl
theorem zr250 : zerosOf Tryz.prog 250 = some [.t (.leaf (.string ⟨#[]⟩)), .nil, .nil, .nil, .t (.leaf (.int .i64 0)), .t (.leaf (.string ⟨#[]⟩)), .nil, .t (.leaf (.int .i64 0)), .t (.leaf (.string ⟨#[]⟩)), .t (.leaf (.string ⟨#[]⟩)), .t (.leaf (.int .i64 0)), .t (.leaf (.int .i64 0)), .t (.leaf (.string ⟨#[]⟩)), .nil, .nil, .nil] := by kernel_rfl
theorem sh258 : shapeOf Tryz.prog 258 = some (true, 2) := by kernel_rfl
theorem sz258 : (Tryz.prog.info? 258).map (·.size) = some 2 := by kernel_rfl
theorem zr258 : zerosOf Tryz.prog 258 = some [.t (.leaf (.string ⟨#[]⟩)), .nil] := by kernel_rfl
theorem sh260 : shapeOf Tryz.prog 260 = some (true, 11) := by kernel_rfl
theorem sz260 : (Tryz.prog.info? 260).map (·.size) = some 11 := by kernel_rfl
theorem zr260 : zerosOf Tryz.prog 260 = some [.t (.leaf (.string ⟨#[]⟩)), .nil, .t (.leaf (.int .i64 0)), .t (.leaf (.string ⟨#[]⟩)), .t (.leaf (.string ⟨#[]⟩)), .t (.leaf (.int .i64 0)), .t (.leaf (.int .i64 0)), .t (.leaf (.string ⟨#[]⟩)), .nil, .nil, .nil] := by kernel_rfl
theorem sh277 : shapeOf Tryz.prog 277 = some (true, 16) := by kernel_rfl
theorem sz277 : (Tryz.prog.info? 277).map (·.size) = some 16 := by kernel_rfl
theorem zr277 : zerosOf Tryz.prog 277 = some [.t (.leaf (.string ⟨#[]⟩)), .nil, .t (.leaf (.int .i64 0)), .t (.leaf (.string ⟨#[]⟩)), .nil, .t (.leaf (.bool false)), .nil, .t (.leaf (.int .i64 0)), .t (.leaf (.string ⟨#[]⟩)), .t (.leaf (.string ⟨#[]⟩)), .t (.leaf (.int .i64 0)), .t (.leaf (.int .i64 0)), .t (.leaf (.string ⟨#[]⟩)), .nil, .nil, .nil] := by kernel_rfl
theorem sh280 : shapeOf Tryz.prog 280 = some (true, 2) := by kernel_rfl
theorem sz280 : (Tryz.prog.info? 280).map (·.size) = some 2 := by kernel_rfl
theorem zr280 : zerosOf Tryz.prog 280 = some [.t (.leaf (.string ⟨#[]⟩)), .nil] := by kernel_rfl
theorem sh283 : shapeOf Tryz.prog 283 = some (true, 11) := by kernel_rfl
theorem sz283 : (Tryz.prog.info? 283).map (·.size) = some 11 := by kernel_rfl
theorem zr283 : zerosOf Tryz.prog 283 = some [.t (.leaf (.string ⟨#[]⟩)), .nil, .t (.leaf (.int .i64 0)), .t (.leaf (.string ⟨#[]⟩)), .t (.leaf (.string ⟨#[]⟩)), .t (.leaf (.int .i64 0)), .t (.leaf (.int .i64 0)), .t (.leaf (.string ⟨#[]⟩)), .nil, .nil, .nil] := by kernel_rfl
theorem sh286 : shapeOf Tryz.prog 286 = some (true, 4) := by kernel_rfl
theorem sz286 : (Tryz.prog.info? 286).map (·.size) = some 4 := by kernel_rfl
theorem zr286 : zerosOf Tryz.prog 286 = some [.t (.leaf (.string ⟨#[]⟩)), .t (.leaf (.int .i64 0)), .t (.leaf (.string ⟨#[]⟩)), .nil] := by kernel_rfl
theorem sh299 : shapeOf Tryz.prog 299 = some (true, 11) := by kernel_rfl
theorem sz299 : (Tryz.prog.info? 299).map (·.size) = some 11 := by kernel_rfl
theorem zr299 : zerosOf Tryz.prog 299 = some [.t (.leaf (.string ⟨#[]⟩)), .nil, .t (.leaf (.int .i64 0)), .t (.leaf (.string ⟨#[]⟩)), .t (.leaf (.string ⟨#[]⟩)), .t (.leaf (.int .i64 0)), .t (.leaf (.int .i64 0)), .t (.leaf (.string ⟨#[]⟩)), .nil, .nil, .nil] := by kernel_rfl
theorem fo24_0 : fieldOff Tryz.prog 24 0 = some 0 := by kernel_rfl
theorem fo26_0 : fieldOff Tryz.prog 26 0 = some 0 := by kernel_rfl
theorem fo26_1 : fieldOff Tryz.prog 26 1 = some 1 := by kernel_rfl
theorem fo31_0 : fieldOff Tryz.prog 31 0 = some 0 := by kernel_rfl
theorem fo33_0 : fieldOff Tryz.prog 33 0 = some 0 := by kernel_rfl
theorem fo33_1 : fieldOff Tryz.prog 33 1 = some 1 := by kernel_rfl
theorem fo39_0 : fieldOff Tryz.prog 39 0 = some 0 := by kernel_rfl
theorem fo39_1 : fieldOff Tryz.prog 39 1 = some 1 := by kernel_rfl
theorem fo39_2 : fieldOff Tryz.prog 39 2 = some 2 := by kernel_rfl
theorem fo41_0 : fieldOff Tryz.prog 41 0 = some 0 := by kernel_rfl
theorem fo41_1 : fieldOff Tryz.prog 41 1 = some 1 := by kernel_rfl
theorem fo47_0 : fieldOff Tryz.prog 47 0 = some 0 := by kernel_rfl
theorem fo47_1 : fieldOff Tryz.prog 47 1 = some 1 := by kernel_rfl
theorem fo47_2 : fieldOff Tryz.prog 47 2 = some 2 := by kernel_rfl
theorem fo49_0 : fieldOff Tryz.prog 49 0 = some 0 := by kernel_rfl
theorem fo49_1 : fieldOff Tryz.prog 49 1 = some 1 := by kernel_rfl
theorem fo94_0 : fieldOff Tryz.prog 94 0 = some 0 := by kernel_rfl
theorem fo94_1 : fieldOff Tryz.prog 94 1 = some 1 := by kernel_rfl
theorem fo94_2 : fieldOff Tryz.prog 94 2 = some 2 := by kernel_rfl
theorem fo94_3 : fieldOff Tryz.prog 94 3 = some 3 := by kernel_rfl
theorem fo94_4 : fieldOff Tryz.prog 94 4 = some 4 := by kernel_rfl
theorem fo103_0 : fieldOff Tryz.prog 103 0 = some 0 := by kernel_rfl
theorem fo103_1 : fieldOff Tryz.prog 103 1 = some 1 := by kernel_rfl
theorem fo103_2 : fieldOff Tryz.prog 103 2 = some 2 := by kernel_rfl
theorem fo103_3 : fieldOff Tryz.prog 103 3 = some 3 := by kernel_rfl
theorem fo103_4 : fieldOff Tryz.prog 103 4 = some 4 := by kernel_rfl
theorem fo103_5 : fieldOff Tryz.prog 103 5 = some 7 := by kernel_rfl
theorem fo103_6 : fieldOff Tryz.prog 103 6 = some 8 := by kernel_rfl
theorem fo105_0 : fieldOff Tryz.prog 105 0 = some 0 := by kernel_rfl
theorem fo105_1 : fieldOff Tryz.prog 105 1 = some 1 := by kernel_rfl
theorem fo105_2 : fieldOff Tryz.prog 105 2 = some 2 := by kernel_rfl
theorem fo105_3 : fieldOff Tryz.prog 105 3 = some 3 := by kernel_rfl
theorem fo105_4 : fieldOff Tryz.prog 105 4 = some 4 := by kernel_rfl
theorem fo105_5 : fieldOff Tryz.prog 105 5 = some 7 := by kernel_rfl
theorem fo113_0 : fieldOff Tryz.prog 113 0 = some 0 := by kernel_rfl
theorem fo113_1 : fieldOff Tryz.prog 113 1 = some 1 := by kernel_rfl
theorem fo113_2 : fieldOff Tryz.prog 113 2 = some 2 := by kernel_rfl
theorem fo113_3 : fieldOff Tryz.prog 113 3 = some 5 := by kernel_rfl
theorem fo113_4 : fieldOff Tryz.prog 113 4 = some 6 := by kernel_rfl
theorem fo113_5 : fieldOff Tryz.prog 113 5 = some 7 := by kernel_rfl
theorem fo113_6 : fieldOff Tryz.prog 113 6 = some 8 := by kernel_rfl
theorem fo113_7 : fieldOff Tryz.prog 113 7 = some 11 := by kernel_rfl
theorem fo126_0 : fieldOff Tryz.prog 126 0 = some 0 := by kernel_rfl
theorem fo126_1 : fieldOff Tryz.prog 126 1 = some 1 := by kernel_rfl
theorem fo126_2 : fieldOff Tryz.prog 126 2 = some 2 := by kernel_rfl
theorem fo126_3 : fieldOff Tryz.prog 126 3 = some 3 := by kernel_rfl
theorem fo126_4 : fieldOff Tryz.prog 126 4 = some 4 := by kernel_rfl
theorem fo126_5 : fieldOff Tryz.prog 126 5 = some 5 := by kernel_rfl
theorem fo147_0 : fieldOff Tryz.prog 147 0 = some 0 := by kernel_rfl
theorem fo147_1 : fieldOff Tryz.prog 147 1 = some 4 := by kernel_rfl
theorem fo147_2 : fieldOff Tryz.prog 147 2 = some 5 := by kernel_rfl
theorem fo166_0 : fieldOff Tryz.prog 166 0 = some 0 := by kernel_rfl
theorem fo166_1 : fieldOff Tryz.prog 166 1 = some 1 := by kernel_rfl
theorem fo166_2 : fieldOff Tryz.prog 166 2 = some 2 := by kernel_rfl
theorem fo166_3 : fieldOff Tryz.prog 166 3 = some 3 := by kernel_rfl
theorem fo166_4 : fieldOff Tryz.prog 166 4 = some 4 := by kernel_rfl
theorem fo166_5 : fieldOff Tryz.prog 166 5 = some 5 := by kernel_rfl
theorem fo171_0 : fieldOff Tryz.prog 171 0 = some 0 := by kernel_rfl
theorem fo171_1 : fieldOff Tryz.prog 171 1 = some 1 := by kernel_rfl
theorem fo171_2 : fieldOff Tryz.prog 171 2 = some 2 := by kernel_rfl
theorem fo191_0 : fieldOff Tryz.prog 191 0 = some 0 := by kernel_rfl
theorem fo191_1 : fieldOff Tryz.prog 191 1 = some 1 := by kernel_rfl
theorem fo191_2 : fieldOff Tryz.prog 191 2 = some 2 := by kernel_rfl
theorem fo191_3 : fieldOff Tryz.prog 191 3 = some 5 := by kernel_rfl
theorem fo191_4 : fieldOff Tryz.prog 191 4 = some 6 := by kernel_rfl
theorem fo191_5 : fieldOff Tryz.prog 191 5 = some 7 := by kernel_rfl
theorem fo199_0 : fieldOff Tryz.prog 199 0 = some 0 := by kernel_rfl
theorem fo199_1 : fieldOff Tryz.prog 199 1 = some 1 := by kernel_rfl
theorem fo225_0 : fieldOff Tryz.prog 225 0 = some 0 := by kernel_rfl
theorem fo225_1 : fieldOff Tryz.prog 225 1 = some 1 := by kernel_rfl
theorem fo229_0 : fieldOff Tryz.prog 229 0 = some 0 := by kernel_rfl
theorem fo229_1 : fieldOff Tryz.prog 229 1 = some 1 := by kernel_rfl
theorem fo229_2 : fieldOff Tryz.prog 229 2 = some 2 := by kernel_rfl
theorem fo234_0 : fieldOff Tryz.prog 234 0 = some 0 := by kernel_rfl
theorem fo234_1 : fieldOff Tryz.prog 234 1 = some 1 := by kernel_rfl
theorem fo234_2 : fieldOff Tryz.prog 234 2 = some 2 := by kernel_rfl
theorem fo234_3 : fieldOff Tryz.prog 234 3 = some 3 := by kernel_rfl
theorem fo234_4 : fieldOff Tryz.prog 234 4 = some 4 := by kernel_rfl
theorem fo238_0 : fieldOff Tryz.prog 238 0 = some 0 := by kernel_rfl
theorem fo238_1 : fieldOff Tryz.prog 238 1 = some 1 := by kernel_rfl
theorem fo238_2 : fieldOff Tryz.prog 238 2 = some 2 := by kernel_rfl
theorem fo242_0 : fieldOff Tryz.prog 242 0 = some 0 := by kernel_rfl
theorem fo242_1 : fieldOff Tryz.prog 242 1 = some 1 := by kernel_rfl
theorem fo242_2 : fieldOff Tryz.prog 242 2 = some 2 := by kernel_rfl
theorem fo242_3 : fieldOff Tryz.prog 242 3 = some 5 := by kernel_rfl
theorem fo242_4 : fieldOff Tryz.prog 242 4 = some 6 := by kernel_rfl
theorem fo242_5 : fieldOff Tryz.prog 242 5 = some 7 := by kernel_rfl
theorem fo242_6 : fieldOff Tryz.prog 242 6 = some 8 := by kernel_rfl
theorem fo242_7 : fieldOff Tryz.prog 242 7 = some 11 := by kernel_rfl
theorem fo248_0 : fieldOff Tryz.prog 248 0 = some 0 := by kernel_rfl
theorem fo248_1 : fieldOff Tryz.prog 248 1 = some 1 := by kernel_rfl
theorem fo248_2 : fieldOff Tryz.prog 248 2 = some 2 := by kernel_rfl
theorem fo248_3 : fieldOff Tryz.prog 248 3 = some 3 := by kernel_rfl
theorem fo248_4 : fieldOff Tryz.prog 248 4 = some 4 := by kernel_rfl
theorem fo248_5 : fieldOff Tryz.prog 248 5 = some 7 := by kernel_rfl
theorem fo248_6 : fieldOff Tryz.prog 248 6 = some 8 := by kernel_rfl
theorem fo250_0 : fieldOff Tryz.prog 250 0 = some 0 := by kernel_rfl
theorem fo250_1 : fieldOff Tryz.prog 250 1 = some 1 := by kernel_rfl
theorem fo250_2 : fieldOff Tryz.prog 250 2 = some 2 := by kernel_rfl
theorem fo250_3 : fieldOff Tryz.prog 250 3 = some 3 := by kernel_rfl
theorem fo250_4 : fieldOff Tryz.prog 250 4 = some 4 := by kernel_rfl
theorem fo250_5 : fieldOff Tryz.prog 250 5 = some 7 := by kernel_rfl
theorem fo258_0 : fieldOff Tryz.prog 258 0 = some 0 := by kernel_rfl
theorem fo258_1 : fieldOff Tryz.prog 258 1 = some 1 := by kernel_rfl
theorem fo260_0 : fieldOff Tryz.prog 260 0 = some 0 := by kernel_rfl
theorem fo260_1 : fieldOff Tryz.prog 260 1 = some 1 := by kernel_rfl
theorem fo260_2 : fieldOff Tryz.prog 260 2 = some 2 := by kernel_rfl
theorem fo277_0 : fieldOff Tryz.prog 277 0 = some 0 := by kernel_rfl
theorem fo277_1 : fieldOff Tryz.prog 277 1 = some 1 := by kernel_rfl
theorem fo277_2 : fieldOff Tryz.prog 277 2 = some 2 := by kernel_rfl
theorem fo277_3 : fieldOff Tryz.prog 277 3 = some 5 := by kernel_rfl
theorem fo277_4 : fieldOff Tryz.prog 277 4 = some 6 := by kernel_rfl
theorem fo277_5 : fieldOff Tryz.prog 277 5 = some 7 := by kernel_rfl
theorem fo280_0 : fieldOff Tryz.prog 280 0 = some 0 := by kernel_rfl
theorem fo280_1 : fieldOff Tryz.prog 280 1 = some 1 := by kernel_rfl
theorem fo283_0 : fieldOff Tryz.prog 283 0 = some 0 := by kernel_rfl
theorem fo283_1 : fieldOff Tryz.prog 283 1 = some 1 := by kernel_rfl
theorem fo283_2 : fieldOff Tryz.prog 283 2 = some 2 := by kernel_rfl
theorem fo286_0 : fieldOff Tryz.prog 286 0 = some 0 := by kernel_rfl
theorem fo286_1 : fieldOff Tryz.prog 286 1 = some 1 := by kernel_rfl
theorem fo299_0 : fieldOff Tryz.prog 299 0 = some 0 := by kernel_rfl
theorem fo299_1 : fieldOff Tryz.prog 299 1 = some 1 := by kernel_rfl
theorem fo299_2 : fieldOff Tryz.prog 299 2 = some 2 := by kernel_rfl
theorem mixed : Tryz.prog.follows .mixedOrders = true := by kernel_rfl
end Go.Proofs.YtnakkelglbcecaaGreat

namespace Go.Proofs.YtnakkelglbcecaaGreat
open Go.RowKit Go.Proofs
set_option linter.unusedSimpArgs false
set_option linter.unusedVariables false

/-- The first item of a name in a list of packages, and its package's number. -/
def findP {α : Type} (key : α → ByteArray) (items : GPackage → List α) (s : ByteArray) : Nat → List GPackage → Option (α × Nat)
  | _, [] => none
  | i, p :: ps => match (items p).find? (fun x => decide (key x = s)) with
    | some x => some (x, i)
    | none => findP key items s (i + 1) ps
theorem findP_hit {α : Type} {key : α → ByteArray} {items : GPackage → List α} {s : ByteArray} {ps : List GPackage} {i k : Nat} (hi : i < ps.length) (hk : k < (items ps[i]).length) (h1 : findP key items s 0 ps = findP key items s i (ps.drop i)) (h2 : (items ps[i]).find? (fun x => decide (key x = s)) = ((items ps[i]).drop k).find? (fun x => decide (key x = s)))
    (h : key (items ps[i])[k] = s) : findP key items s 0 ps = some ((items ps[i])[k], i) := by
  rw [h1, List.drop_eq_getElem_cons hi, findP, h2, List.drop_eq_getElem_cons hk, List.find?_cons_of_pos (by simpa using h)]
theorem findP_next {α : Type} {key : α → ByteArray} {items : GPackage → List α} {s : ByteArray} {p : GPackage} {k : Nat} (hk : k < (items p).length) (h2 : (items p).find? (fun x => decide (key x = s)) = ((items p).drop k).find? (fun x => decide (key x = s)))
    (h : ¬ key (items p)[k] = s) : (items p).find? (fun x => decide (key x = s)) = ((items p).drop (k + 1)).find? (fun x => decide (key x = s)) := by
  rw [h2, List.drop_eq_getElem_cons hk, List.find?_cons_of_neg (by simpa using h)]
theorem findP_miss {α : Type} {key : α → ByteArray} {items : GPackage → List α} {s : ByteArray} {ps : List GPackage} {i k : Nat} (hi : i < ps.length) (h1 : findP key items s 0 ps = findP key items s i (ps.drop i)) (h2 : (items ps[i]).find? (fun x => decide (key x = s)) = ((items ps[i]).drop k).find? (fun x => decide (key x = s)))
    (hk : (items ps[i]).length ≤ k) : findP key items s 0 ps = findP key items s (i + 1) (ps.drop (i + 1)) := by
  rw [h1, List.drop_eq_getElem_cons hi, findP, h2, List.drop_eq_nil_of_le hk]
  rfl
theorem findP_end {α : Type} {key : α → ByteArray} {items : GPackage → List α} {s : ByteArray} {ps : List GPackage} {i : Nat} (h1 : findP key items s 0 ps = findP key items s i (ps.drop i)) (hi : ps.length ≤ i) : findP key items s 0 ps = none := by
  rw [h1, List.drop_eq_nil_of_le hi, findP]
def oInt {α : Type} (o : Option (α × Nat)) : Int := match o with | some (_, i) => (i : Int) | none => 0

def GProgram.traitAt (w : GProgram) (s : ByteArray) : Option (GTrait × Nat) := findP GTrait.gName GPackage.gTraits s 0 w.gPackages
def GTrait.zero : GTrait := .mk ⟨#[]⟩ [] false false []
def oTrait (o : Option (GTrait × Nat)) : GTrait := match o with | some (x, _) => x | none => GTrait.zero
abbrev optTrait (o : Option (GTrait × Nat)) : PV := .tup [GTrait.pv (oTrait o), .t (.leaf (.int .i64 (oInt o))), .t (.leaf (.bool o.isSome))]
theorem optTrait_some {o : Option (GTrait × Nat)} {x : GTrait} {i : Nat} (h : o = some (x, i)) : PV.tup [GTrait.pv x, .t (.leaf (.int .i64 (i : Int))), .t (.leaf (.bool true))] = optTrait o := by rw [h]; rfl
theorem optTrait_none {o : Option (GTrait × Nat)} (h : o = none) : PV.tup [GTrait.pv GTrait.zero, .t (.leaf (.int .i64 0)), .t (.leaf (.bool false))] = optTrait o := by rw [h]; rfl

set_option maxRecDepth 100000 in
set_option maxHeartbeats 4000000 in
theorem trait_impl (w : GProgram) (s : ByteArray) : AFun Tryz.prog 82 [(GProgram.pv w), .t (.leaf (.string (s)))] (.tup [(GTrait.pv (oTrait (w.traitAt s))), .t (.leaf (.int .i64 (oInt (w.traitAt s)))), .t (.leaf (.bool ((w.traitAt s).isSome)))]) := by
  refine ACalls.intro Tryz.func82 rfl (by first | decide | (simp; done) | (simp; decide)) ?_
  intro C hC
  refine AWP.seq ?_
  refine AWP.region_lit ?_
  refine AL.cons rfl (AOp.box (cs := [.t (.row 6 (GPackage.trs (w.gPackages)))]) rfl rfl rfl rfl rfl) ?_
  refine AL.cons rfl (AOp.alloc rfl rfl zr94) ?_
  refine AL.cons rfl (AOp.move (.inr rfl) rfl rfl) ?_
  refine AL.cons rfl (AOp.move (.inr rfl) rfl rfl) ?_
  refine AL.nil ?_
  refine AWP.seq ?_
  refine AWP.seq ?_
  refine AWP.region_lit ?_
  refine AL.cons rfl (AOp.fieldPtr (k := 0) (d := 0) (e := 0) rfl rfl rfl fo31_0) ?_
  refine AL.cons rfl (AOp.loadPtr1 rfl rfl rfl rfl sh29 rfl) ?_
  refine AL.fact (lk_lenN 12 rfl rfl (GPackage.trs_len _)) (fun hl1 => ?_)
  refine AL.cons rfl (AOp.lenN rfl rfl rfl rfl el29 (GPackage.trs_len _)) ?_
  refine AL.cons rfl (AOp.move (.inl rfl) rfl rfl) ?_
  refine AL.nil ?_
  refine AWP.block ?_
  refine AWP.loopJ (ι := Nat) (fun i => i ≤ w.gPackages.length ∧ findP GTrait.gName GPackage.gTraits s 0 w.gPackages = findP GTrait.gName GPackage.gTraits s i (w.gPackages.drop i)) (fun i => ⟨[(0, (GProgram.pv w)), (1, .t (.leaf (.string (s)))), (2, .ptr 0 0), (4, .ptr 1 0), (12, .t (.row 6 (GPackage.trs (w.gPackages)))), (13, .t (.leaf (.int .i64 (((w.gPackages.length : Nat) : Int))))), (14, .t (.leaf (.int .i64 (((i : Nat) : Int)))))], ⟨[some ⟨31, [.t (.row 6 (GPackage.trs (w.gPackages)))]⟩, some ⟨94, [.t (.leaf (.string (⟨#[]⟩))), .nil, .t (.leaf (.bool (false))), .t (.leaf (.bool (false))), .nil]⟩], []⟩⟩) (fun i => w.gPackages.length - i) 0 ?_ ?_ ?_
  · exact ⟨Nat.zero_le _, rfl⟩
  · skip
    exact Wk.mk (StLe.mk' ⟨⟨rfl, by (repeat' (first | exact PV.Le.refl _ | exact LeL.nil | exact PV.Le.nil _ | exact PV.Le.acc _ _ _ | apply LeL.cons | apply PV.Le.agg | apply PV.Le.tup)), rfl⟩, ⟨⟨rfl, by (repeat' (first | exact PV.Le.refl _ | exact LeL.nil | exact PV.Le.nil _ | exact PV.Le.acc _ _ _ | apply LeL.cons | apply PV.Le.agg | apply PV.Le.tup)), rfl⟩, trivial⟩⟩ rfl) (keeps_nil hC) ⟨⟨_, rfl, .refl _, rfl⟩, ⟨⟨_, rfl, .refl _, rfl⟩, ⟨⟨_, rfl, .refl _, rfl⟩, ⟨⟨_, rfl, .refl _, rfl⟩, ⟨⟨_, rfl, .refl _, rfl⟩, ⟨⟨_, rfl, .refl _, rfl⟩, ⟨⟨_, rfl, by (repeat' (first | exact PV.Le.refl _ | exact LeL.nil | exact PV.Le.nil _ | exact PV.Le.acc _ _ _ | apply LeL.cons | apply PV.Le.agg | apply PV.Le.tup)), rfl⟩, trivial⟩⟩⟩⟩⟩⟩⟩
  rintro i hJ2
  obtain ⟨hi1, hi2⟩ := hJ2
  refine AWP.seq ?_
  refine AWP.region_lit ?_
  refine AL.cons rfl (AOp.lss rfl rfl rfl rfl) ?_
  refine AL.nil ?_
  refine AWP.seq ?_
  refine AWP.cond rfl (fun h3 => ?_) (fun h3 => ?_)
  · skip
    have h3b := h3
    try simp only [Bool.and_eq_true, Bool.or_eq_true, Bool.and_eq_false_iff, Bool.or_eq_false_iff, decide_eq_true_eq, decide_eq_false_iff_not, Bool.not_eq_true', Bool.not_eq_false', Bool.not_eq_eq_eq_not, Bool.not_true, Bool.not_false, ge_iff_le, gt_iff_lt, Int.not_lt, Int.not_le] at h3b
    have h3n : i < w.gPackages.length := by omega
    refine AWP.skip ?_
    refine AWP.seq ?_
    refine AWP.block ?_
    refine AWP.seq ?_
    refine AWP.region_lit ?_
    refine AL.cons rfl (AOp.move (.inl rfl) rfl rfl) ?_
    refine AL.cons rfl (AOp.index (k := i) rfl rfl rfl rfl rfl (GPackage.trs_cs h3n) el29) ?_
    refine AL.cons rfl (AOp.loadEptr (ds := [.leaf (.string ((w.gPackages[i]).gName)), .row 1 (strTrs ((w.gPackages[i]).gDeps)), .row 5 (GTrait.trs ((w.gPackages[i]).gTraits)), .row 3 (GDataType.trs ((w.gPackages[i]).gDataTypes)), .row 12 (GInstance.trs ((w.gPackages[i]).gInstances)), .row 16 (GFunction.trs ((w.gPackages[i]).gFunctions))]) rfl rfl rfl sh126 rfl rfl) ?_
    refine AL.cons rfl (AOp.alloc rfl rfl zr126) ?_
    refine AL.cons rfl (AOp.move (.inr rfl) rfl rfl) ?_
    refine AL.cons rfl (AOp.storePtr (cs := [.t (.leaf (.string ((w.gPackages[i]).gName))), .t (.row 1 (strTrs ((w.gPackages[i]).gDeps))), .t (.row 5 (GTrait.trs ((w.gPackages[i]).gTraits))), .t (.row 3 (GDataType.trs ((w.gPackages[i]).gDataTypes))), .t (.row 12 (GInstance.trs ((w.gPackages[i]).gInstances))), .t (.row 16 (GFunction.trs ((w.gPackages[i]).gFunctions)))]) (ds := [.t (.leaf (.string ((w.gPackages[i]).gName))), .t (.row 1 (strTrs ((w.gPackages[i]).gDeps))), .t (.row 5 (GTrait.trs ((w.gPackages[i]).gTraits))), .t (.row 3 (GDataType.trs ((w.gPackages[i]).gDataTypes))), .t (.row 12 (GInstance.trs ((w.gPackages[i]).gInstances))), .t (.row 16 (GFunction.trs ((w.gPackages[i]).gFunctions)))]) rfl rfl rfl rfl rfl rfl rfl sz126 (Nat.le_of_ble_eq_true rfl) rfl) ?_
    refine AL.nil ?_
    refine AWP.seq ?_
    refine AWP.region_lit ?_
    refine AL.cons rfl (AOp.fieldPtr (k := 2) (d := 0) (e := 2) rfl rfl rfl fo126_2) ?_
    refine AL.cons rfl (AOp.loadPtr1 rfl rfl rfl rfl sh121 rfl) ?_
    refine AL.fact (lk_lenN 20 rfl rfl (GTrait.trs_len _)) (fun hl4 => ?_)
    refine AL.cons rfl (AOp.lenN rfl rfl rfl rfl el121 (GTrait.trs_len _)) ?_
    refine AL.cons rfl (AOp.move (.inl rfl) rfl rfl) ?_
    refine AL.nil ?_
    refine AWP.block ?_
    refine AWP.loopJ (ι := Nat) (fun k => k ≤ (w.gPackages[i]).gTraits.length ∧ (w.gPackages[i]).gTraits.find? (fun x => decide (GTrait.gName x = s)) = ((w.gPackages[i]).gTraits.drop k).find? (fun x => decide (GTrait.gName x = s))) (fun k => ⟨[(0, (GProgram.pv w)), (1, .t (.leaf (.string (s)))), (2, .ptr 0 0), (4, .ptr 1 0), (7, .t (.leaf (.int .i64 (((i : Nat) : Int))))), (8, .ptr 2 0), (12, .t (.row 6 (GPackage.trs (w.gPackages)))), (13, .t (.leaf (.int .i64 (((w.gPackages.length : Nat) : Int))))), (14, .t (.leaf (.int .i64 (((i : Nat) : Int))))), (20, .t (.row 5 (GTrait.trs ((w.gPackages[i]).gTraits)))), (21, .t (.leaf (.int .i64 (((((w.gPackages[i]).gTraits).length : Nat) : Int))))), (22, .t (.leaf (.int .i64 (((k : Nat) : Int)))))], ⟨[some ⟨31, [.t (.row 6 (GPackage.trs (w.gPackages)))]⟩, some ⟨94, [.t (.leaf (.string (⟨#[]⟩))), .nil, .t (.leaf (.bool (false))), .t (.leaf (.bool (false))), .nil]⟩, some ⟨126, [.t (.leaf (.string ((w.gPackages[i]).gName))), .t (.row 1 (strTrs ((w.gPackages[i]).gDeps))), .t (.row 5 (GTrait.trs ((w.gPackages[i]).gTraits))), .t (.row 3 (GDataType.trs ((w.gPackages[i]).gDataTypes))), .t (.row 12 (GInstance.trs ((w.gPackages[i]).gInstances))), .t (.row 16 (GFunction.trs ((w.gPackages[i]).gFunctions)))]⟩], []⟩⟩) (fun k => (w.gPackages[i]).gTraits.length - k) 0 ?_ ?_ ?_
    · exact ⟨Nat.zero_le _, rfl⟩
    · skip
      exact Wk.mk (StLe.mk' ⟨⟨rfl, by (repeat' (first | exact PV.Le.refl _ | exact LeL.nil | exact PV.Le.nil _ | exact PV.Le.acc _ _ _ | apply LeL.cons | apply PV.Le.agg | apply PV.Le.tup)), rfl⟩, ⟨⟨rfl, by (repeat' (first | exact PV.Le.refl _ | exact LeL.nil | exact PV.Le.nil _ | exact PV.Le.acc _ _ _ | apply LeL.cons | apply PV.Le.agg | apply PV.Le.tup)), rfl⟩, ⟨⟨rfl, by (repeat' (first | exact PV.Le.refl _ | exact LeL.nil | exact PV.Le.nil _ | exact PV.Le.acc _ _ _ | apply LeL.cons | apply PV.Le.agg | apply PV.Le.tup)), rfl⟩, trivial⟩⟩⟩ rfl) (keeps_nil hC) ⟨⟨_, rfl, .refl _, rfl⟩, ⟨⟨_, rfl, .refl _, rfl⟩, ⟨⟨_, rfl, .refl _, rfl⟩, ⟨⟨_, rfl, .refl _, rfl⟩, ⟨⟨_, rfl, .refl _, rfl⟩, ⟨⟨_, rfl, .refl _, rfl⟩, ⟨⟨_, rfl, .refl _, rfl⟩, ⟨⟨_, rfl, .refl _, rfl⟩, ⟨⟨_, rfl, .refl _, rfl⟩, ⟨⟨_, rfl, .refl _, rfl⟩, ⟨⟨_, rfl, .refl _, rfl⟩, ⟨⟨_, rfl, by (repeat' (first | exact PV.Le.refl _ | exact LeL.nil | exact PV.Le.nil _ | exact PV.Le.acc _ _ _ | apply LeL.cons | apply PV.Le.agg | apply PV.Le.tup)), rfl⟩, trivial⟩⟩⟩⟩⟩⟩⟩⟩⟩⟩⟩⟩
    rintro k hJ5
    obtain ⟨hk1, hk2⟩ := hJ5
    refine AWP.seq ?_
    refine AWP.region_lit ?_
    refine AL.cons rfl (AOp.lss rfl rfl rfl rfl) ?_
    refine AL.nil ?_
    refine AWP.seq ?_
    refine AWP.cond rfl (fun h6 => ?_) (fun h6 => ?_)
    · skip
      have h6b := h6
      try simp only [Bool.and_eq_true, Bool.or_eq_true, Bool.and_eq_false_iff, Bool.or_eq_false_iff, decide_eq_true_eq, decide_eq_false_iff_not, Bool.not_eq_true', Bool.not_eq_false', Bool.not_eq_eq_eq_not, Bool.not_true, Bool.not_false, ge_iff_le, gt_iff_lt, Int.not_lt, Int.not_le] at h6b
      have h6n : k < ((w.gPackages[i]).gTraits).length := by omega
      refine AWP.skip ?_
      refine AWP.seq ?_
      refine AWP.block ?_
      refine AWP.seq ?_
      refine AWP.region_lit ?_
      refine AL.cons rfl (AOp.index (k := k) rfl rfl rfl rfl rfl (GTrait.trs_cs h6n) el121) ?_
      refine AL.cons rfl (AOp.loadEptr (ds := [.leaf (.string ((((w.gPackages[i]).gTraits)[k]).gName)), .row 1 (strTrs ((((w.gPackages[i]).gTraits)[k]).gSupertraits)), .leaf (.bool ((((w.gPackages[i]).gTraits)[k]).gAuto)), .leaf (.bool ((((w.gPackages[i]).gTraits)[k]).gAssoc)), .row 16 (GSignature.trs ((((w.gPackages[i]).gTraits)[k]).gSignatures))]) rfl rfl rfl sh94 rfl rfl) ?_
      refine AL.cons rfl (AOp.alloc rfl rfl zr94) ?_
      refine AL.cons rfl (AOp.storePtr (cs := [.t (.leaf (.string ((((w.gPackages[i]).gTraits)[k]).gName))), .t (.row 1 (strTrs ((((w.gPackages[i]).gTraits)[k]).gSupertraits))), .t (.leaf (.bool ((((w.gPackages[i]).gTraits)[k]).gAuto))), .t (.leaf (.bool ((((w.gPackages[i]).gTraits)[k]).gAssoc))), .t (.row 16 (GSignature.trs ((((w.gPackages[i]).gTraits)[k]).gSignatures)))]) (ds := [.t (.leaf (.string ((((w.gPackages[i]).gTraits)[k]).gName))), .t (.row 1 (strTrs ((((w.gPackages[i]).gTraits)[k]).gSupertraits))), .t (.leaf (.bool ((((w.gPackages[i]).gTraits)[k]).gAuto))), .t (.leaf (.bool ((((w.gPackages[i]).gTraits)[k]).gAssoc))), .t (.row 16 (GSignature.trs ((((w.gPackages[i]).gTraits)[k]).gSignatures)))]) rfl rfl rfl rfl rfl rfl rfl sz94 (Nat.le_of_ble_eq_true rfl) rfl) ?_
      refine AL.nil ?_
      refine AWP.seq ?_
      refine AWP.region_lit ?_
      refine AL.cons rfl (AOp.fieldPtr (k := 3) (d := 0) (e := 0) rfl rfl rfl fo94_0) ?_
      refine AL.cons rfl (AOp.loadPtr1 rfl rfl rfl rfl sh9 rfl) ?_
      refine AL.cons rfl (AOp.move (.inl rfl) rfl rfl) ?_
      refine AL.cons rfl (AOp.eqlS rfl rfl rfl rfl) ?_
      refine AL.nil ?_
      refine AWP.cond rfl (fun h7 => ?_) (fun h7 => ?_)
      · skip
        have h7b := h7
        try simp only [Bool.and_eq_true, Bool.or_eq_true, Bool.and_eq_false_iff, Bool.or_eq_false_iff, decide_eq_true_eq, decide_eq_false_iff_not, Bool.not_eq_true', Bool.not_eq_false', Bool.not_eq_eq_eq_not, Bool.not_true, Bool.not_false, ge_iff_le, gt_iff_lt, Int.not_lt, Int.not_le] at h7b
        refine AWP.seq ?_
        refine AWP.region_lit ?_
        refine AL.cons rfl (AOp.loadPtr (cs := [.t (.leaf (.string ((((w.gPackages[i]).gTraits)[k]).gName))), .t (.row 1 (strTrs ((((w.gPackages[i]).gTraits)[k]).gSupertraits))), .t (.leaf (.bool ((((w.gPackages[i]).gTraits)[k]).gAuto))), .t (.leaf (.bool ((((w.gPackages[i]).gTraits)[k]).gAssoc))), .t (.row 16 (GSignature.trs ((((w.gPackages[i]).gTraits)[k]).gSignatures)))]) rfl rfl rfl rfl sh94 rfl rfl) ?_
        refine AL.cons rfl (AOp.move (.inl rfl) rfl rfl) ?_
        refine AL.cons rfl (AOp.storePtr (cs := [.t (.leaf (.string ((((w.gPackages[i]).gTraits)[k]).gName))), .t (.row 1 (strTrs ((((w.gPackages[i]).gTraits)[k]).gSupertraits))), .t (.leaf (.bool ((((w.gPackages[i]).gTraits)[k]).gAuto))), .t (.leaf (.bool ((((w.gPackages[i]).gTraits)[k]).gAssoc))), .t (.row 16 (GSignature.trs ((((w.gPackages[i]).gTraits)[k]).gSignatures)))]) (ds := [.t (.leaf (.string ((((w.gPackages[i]).gTraits)[k]).gName))), .t (.row 1 (strTrs ((((w.gPackages[i]).gTraits)[k]).gSupertraits))), .t (.leaf (.bool ((((w.gPackages[i]).gTraits)[k]).gAuto))), .t (.leaf (.bool ((((w.gPackages[i]).gTraits)[k]).gAssoc))), .t (.row 16 (GSignature.trs ((((w.gPackages[i]).gTraits)[k]).gSignatures)))]) rfl rfl rfl rfl rfl rfl rfl sz94 (Nat.le_of_ble_eq_true rfl) rfl) ?_
        refine AL.cons rfl (AOp.move (.inr rfl) rfl rfl) ?_
        refine AL.cons rfl (AOp.move (.inr rfl) rfl rfl) ?_
        refine AL.nil ?_
        refine AWP.ret ?_
        exact Ends.mk (ps := [_, _, _]) (.inr rfl) ⟨⟨_, _, _, rfl, rfl, sh94, rfl, rfl⟩, rfl, rfl, trivial⟩ rfl (StLe.mk' (st' := ⟨[], []⟩) trivial rfl) (keeps_nil hC) (q := (.tup [(GTrait.pv (((w.gPackages[i]).gTraits)[k])), .t (.leaf (.int .i64 (((i : Nat) : Int)))), .t (.leaf (.bool (true)))] : PV)) (by (repeat' (first | exact PV.Le.refl _ | exact LeL.nil | exact PV.Le.nil _ | exact PV.Le.acc _ _ _ | apply LeL.cons | apply PV.Le.agg | apply PV.Le.tup))) rfl ⟨by exact optTrait_some (findP_hit (by omega) (by omega) hi2 hk2 (by assumption)), rfl⟩
      · skip
        have h7b := h7
        try simp only [Bool.and_eq_true, Bool.or_eq_true, Bool.and_eq_false_iff, Bool.or_eq_false_iff, decide_eq_true_eq, decide_eq_false_iff_not, Bool.not_eq_true', Bool.not_eq_false', Bool.not_eq_eq_eq_not, Bool.not_true, Bool.not_false, ge_iff_le, gt_iff_lt, Int.not_lt, Int.not_le] at h7b
        refine AWP.skip ?_
        refine AWP.region_lit ?_
        refine AL.cons rfl (AOp.addI rfl rfl rfl rfl (c := ((k + 1 : Nat) : Int)) (by omega) (by omega)) ?_
        refine AL.cons rfl (AOp.move (.inl rfl) rfl rfl) ?_
        refine AL.nil ?_
        refine ⟨k + 1, ?_, ?_, ?_⟩
        · exact ⟨by omega, findP_next (by omega) hk2 (by assumption)⟩
        · skip
          exact Wk.mk (StLe.mk' ⟨⟨rfl, by (repeat' (first | exact PV.Le.refl _ | exact LeL.nil | exact PV.Le.nil _ | exact PV.Le.acc _ _ _ | apply LeL.cons | apply PV.Le.agg | apply PV.Le.tup)), rfl⟩, ⟨⟨rfl, by (repeat' (first | exact PV.Le.refl _ | exact LeL.nil | exact PV.Le.nil _ | exact PV.Le.acc _ _ _ | apply LeL.cons | apply PV.Le.agg | apply PV.Le.tup)), rfl⟩, ⟨⟨rfl, by (repeat' (first | exact PV.Le.refl _ | exact LeL.nil | exact PV.Le.nil _ | exact PV.Le.acc _ _ _ | apply LeL.cons | apply PV.Le.agg | apply PV.Le.tup)), rfl⟩, trivial⟩⟩⟩ rfl) (keeps_nil hC) ⟨⟨_, rfl, .refl _, rfl⟩, ⟨⟨_, rfl, .refl _, rfl⟩, ⟨⟨_, rfl, .refl _, rfl⟩, ⟨⟨_, rfl, .refl _, rfl⟩, ⟨⟨_, rfl, .refl _, rfl⟩, ⟨⟨_, rfl, .refl _, rfl⟩, ⟨⟨_, rfl, .refl _, rfl⟩, ⟨⟨_, rfl, .refl _, rfl⟩, ⟨⟨_, rfl, .refl _, rfl⟩, ⟨⟨_, rfl, .refl _, rfl⟩, ⟨⟨_, rfl, .refl _, rfl⟩, ⟨⟨_, rfl, by (repeat' (first | exact PV.Le.refl _ | exact LeL.nil | exact PV.Le.nil _ | exact PV.Le.acc _ _ _ | apply LeL.cons | apply PV.Le.agg | apply PV.Le.tup)), rfl⟩, trivial⟩⟩⟩⟩⟩⟩⟩⟩⟩⟩⟩⟩
        · omega
    · skip
      have h6b := h6
      try simp only [Bool.and_eq_true, Bool.or_eq_true, Bool.and_eq_false_iff, Bool.or_eq_false_iff, decide_eq_true_eq, decide_eq_false_iff_not, Bool.not_eq_true', Bool.not_eq_false', Bool.not_eq_eq_eq_not, Bool.not_true, Bool.not_false, ge_iff_le, gt_iff_lt, Int.not_lt, Int.not_le] at h6b
      have h6n : k ≥ ((w.gPackages[i]).gTraits).length := by omega
      refine AWP.exit ?_
      refine AWP.region_lit ?_
      refine AL.cons rfl (AOp.addI rfl rfl rfl rfl (c := ((i + 1 : Nat) : Int)) (by omega) (by omega)) ?_
      refine AL.cons rfl (AOp.move (.inl rfl) rfl rfl) ?_
      refine AL.nil ?_
      refine ⟨i + 1, ?_, ?_, ?_⟩
      · exact ⟨by omega, findP_miss (by omega) hi2 hk2 (by omega)⟩
      · skip
        exact Wk.mk (StLe.mk' ⟨⟨rfl, by (repeat' (first | exact PV.Le.refl _ | exact LeL.nil | exact PV.Le.nil _ | exact PV.Le.acc _ _ _ | apply LeL.cons | apply PV.Le.agg | apply PV.Le.tup)), rfl⟩, ⟨⟨rfl, by (repeat' (first | exact PV.Le.refl _ | exact LeL.nil | exact PV.Le.nil _ | exact PV.Le.acc _ _ _ | apply LeL.cons | apply PV.Le.agg | apply PV.Le.tup)), rfl⟩, trivial⟩⟩ rfl) (keeps_nil hC) ⟨⟨_, rfl, .refl _, rfl⟩, ⟨⟨_, rfl, .refl _, rfl⟩, ⟨⟨_, rfl, .refl _, rfl⟩, ⟨⟨_, rfl, .refl _, rfl⟩, ⟨⟨_, rfl, .refl _, rfl⟩, ⟨⟨_, rfl, .refl _, rfl⟩, ⟨⟨_, rfl, by (repeat' (first | exact PV.Le.refl _ | exact LeL.nil | exact PV.Le.nil _ | exact PV.Le.acc _ _ _ | apply LeL.cons | apply PV.Le.agg | apply PV.Le.tup)), rfl⟩, trivial⟩⟩⟩⟩⟩⟩⟩
      · omega
  · skip
    have h3b := h3
    try simp only [Bool.and_eq_true, Bool.or_eq_true, Bool.and_eq_false_iff, Bool.or_eq_false_iff, decide_eq_true_eq, decide_eq_false_iff_not, Bool.not_eq_true', Bool.not_eq_false', Bool.not_eq_eq_eq_not, Bool.not_true, Bool.not_false, ge_iff_le, gt_iff_lt, Int.not_lt, Int.not_le] at h3b
    have h3n : i ≥ w.gPackages.length := by omega
    refine AWP.exit ?_
    refine AWP.seq ?_
    refine AWP.region_lit ?_
    refine AL.cons rfl (AOp.build rfl rfl zr94 pl94 rfl rfl) ?_
    refine AL.cons rfl (AOp.storePtr (cs := [.t (.leaf (.string (⟨#[]⟩))), .nil, .t (.leaf (.bool (false))), .t (.leaf (.bool (false))), .nil]) (ds := [.t (.leaf (.string (⟨#[]⟩))), .nil, .t (.leaf (.bool (false))), .t (.leaf (.bool (false))), .nil]) rfl rfl rfl rfl rfl rfl rfl sz94 (Nat.le_of_ble_eq_true rfl) rfl) ?_
    refine AL.cons rfl (AOp.move (.inr rfl) rfl rfl) ?_
    refine AL.cons rfl (AOp.move (.inr rfl) rfl rfl) ?_
    refine AL.nil ?_
    refine AWP.ret ?_
    exact Ends.mk (ps := [_, _, _]) (.inr rfl) ⟨⟨_, _, _, rfl, rfl, sh94, rfl, rfl⟩, rfl, rfl, trivial⟩ rfl (StLe.mk' (st' := ⟨[], []⟩) trivial rfl) (keeps_nil hC) (q := PV.tup [GTrait.pv GTrait.zero, .t (.leaf (.int .i64 (0))), .t (.leaf (.bool (false)))]) (by (repeat' (first | exact PV.Le.refl _ | exact LeL.nil | exact PV.Le.nil _ | exact PV.Le.acc _ _ _ | apply LeL.cons | apply PV.Le.agg | apply PV.Le.tup))) rfl ⟨by exact optTrait_none (findP_end hi2 (by omega)), rfl⟩

set_option maxRecDepth 100000 in
set_option maxHeartbeats 4000000 in
theorem trait_spec (w : GProgram) (s : ByteArray) : AFun Tryz.prog 78 [(GProgram.pv w), .t (.leaf (.string (s)))] (.tup [(GTrait.pv (oTrait (w.traitAt s))), .t (.leaf (.int .i64 (oInt (w.traitAt s)))), .t (.leaf (.bool ((w.traitAt s).isSome)))]) := by
  refine ACalls.intro Tryz.func78 rfl (by first | decide | (simp; done) | (simp; decide)) ?_
  intro C hC
  refine AWP.seq ?_
  refine AWP.region_lit ?_
  refine AL.cons rfl (AOp.box (cs := [.t (.row 6 (GPackage.trs (w.gPackages)))]) rfl rfl rfl rfl rfl) ?_
  refine AL.cons rfl (AOp.alloc rfl rfl zr94) ?_
  refine AL.cons rfl (AOp.move (.inr rfl) rfl rfl) ?_
  refine AL.cons rfl (AOp.move (.inr rfl) rfl rfl) ?_
  refine AL.nil ?_
  refine AWP.seq ?_
  refine AWP.seq ?_
  refine AWP.region_lit ?_
  refine AL.cons rfl (AOp.move (.inr rfl) rfl rfl) ?_
  refine AL.nil ?_
  refine AWP.block ?_
  refine AWP.loopJ (ι := Nat) (fun i => i ≤ w.gPackages.length ∧ findP GTrait.gName GPackage.gTraits s 0 w.gPackages = findP GTrait.gName GPackage.gTraits s i (w.gPackages.drop i)) (fun i => ⟨[(0, (GProgram.pv w)), (1, .t (.leaf (.string (s)))), (2, .ptr 0 0), (4, .ptr 1 0), (7, .t (.leaf (.int .i64 (((i : Nat) : Int)))))], ⟨[some ⟨31, [.t (.row 6 (GPackage.trs (w.gPackages)))]⟩, some ⟨94, [.t (.leaf (.string (⟨#[]⟩))), .nil, .t (.leaf (.bool (false))), .t (.leaf (.bool (false))), .nil]⟩], []⟩⟩) (fun i => w.gPackages.length - i) 0 ?_ ?_ ?_
  · exact ⟨Nat.zero_le _, rfl⟩
  · skip
    exact Wk.mk (StLe.mk' ⟨⟨rfl, by (repeat' (first | exact PV.Le.refl _ | exact LeL.nil | exact PV.Le.nil _ | exact PV.Le.acc _ _ _ | apply LeL.cons | apply PV.Le.agg | apply PV.Le.tup)), rfl⟩, ⟨⟨rfl, by (repeat' (first | exact PV.Le.refl _ | exact LeL.nil | exact PV.Le.nil _ | exact PV.Le.acc _ _ _ | apply LeL.cons | apply PV.Le.agg | apply PV.Le.tup)), rfl⟩, trivial⟩⟩ rfl) (keeps_nil hC) ⟨⟨_, rfl, .refl _, rfl⟩, ⟨⟨_, rfl, .refl _, rfl⟩, ⟨⟨_, rfl, .refl _, rfl⟩, ⟨⟨_, rfl, .refl _, rfl⟩, ⟨⟨_, rfl, by (repeat' (first | exact PV.Le.refl _ | exact LeL.nil | exact PV.Le.nil _ | exact PV.Le.acc _ _ _ | apply LeL.cons | apply PV.Le.agg | apply PV.Le.tup)), rfl⟩, trivial⟩⟩⟩⟩⟩
  rintro i hJ1
  obtain ⟨hi1, hi2⟩ := hJ1
  refine AWP.seq ?_
  refine AWP.seq ?_
  refine AWP.region_lit ?_
  refine AL.cons rfl (AOp.move (.inl rfl) rfl rfl) ?_
  refine AL.cons rfl (AOp.fieldPtr (k := 0) (d := 0) (e := 0) rfl rfl rfl fo31_0) ?_
  refine AL.cons rfl (AOp.loadPtr1 rfl rfl rfl rfl sh29 rfl) ?_
  refine AL.fact (lk_lenN 11 rfl rfl (GPackage.trs_len _)) (fun hl2 => ?_)
  refine AL.cons rfl (AOp.lenN rfl rfl rfl rfl el29 (GPackage.trs_len _)) ?_
  refine AL.cons rfl (AOp.lss rfl rfl rfl rfl) ?_
  refine AL.nil ?_
  refine AWP.cond rfl (fun h3 => ?_) (fun h3 => ?_)
  · skip
    have h3b := h3
    try simp only [Bool.and_eq_true, Bool.or_eq_true, Bool.and_eq_false_iff, Bool.or_eq_false_iff, decide_eq_true_eq, decide_eq_false_iff_not, Bool.not_eq_true', Bool.not_eq_false', Bool.not_eq_eq_eq_not, Bool.not_true, Bool.not_false, ge_iff_le, gt_iff_lt, Int.not_lt, Int.not_le] at h3b
    have h3n : i < w.gPackages.length := by omega
    refine AWP.skip ?_
    refine AWP.seq ?_
    refine AWP.block ?_
    refine AWP.seq ?_
    refine AWP.region_lit ?_
    refine AL.cons rfl (AOp.move (.inr rfl) rfl rfl) ?_
    refine AL.nil ?_
    refine AWP.block ?_
    refine AWP.loopJ (ι := Nat) (fun k => k ≤ (w.gPackages[i]).gTraits.length ∧ (w.gPackages[i]).gTraits.find? (fun x => decide (GTrait.gName x = s)) = ((w.gPackages[i]).gTraits.drop k).find? (fun x => decide (GTrait.gName x = s))) (fun k => ⟨[(0, (GProgram.pv w)), (1, .t (.leaf (.string (s)))), (2, .ptr 0 0), (4, .ptr 1 0), (7, .t (.leaf (.int .i64 (((i : Nat) : Int))))), (8, .t (.leaf (.int .i64 (((k : Nat) : Int)))))], ⟨[some ⟨31, [.t (.row 6 (GPackage.trs (w.gPackages)))]⟩, some ⟨94, [.t (.leaf (.string (⟨#[]⟩))), .nil, .t (.leaf (.bool (false))), .t (.leaf (.bool (false))), .nil]⟩], []⟩⟩) (fun k => (w.gPackages[i]).gTraits.length - k) 0 ?_ ?_ ?_
    · exact ⟨Nat.zero_le _, rfl⟩
    · skip
      exact Wk.mk (StLe.mk' ⟨⟨rfl, by (repeat' (first | exact PV.Le.refl _ | exact LeL.nil | exact PV.Le.nil _ | exact PV.Le.acc _ _ _ | apply LeL.cons | apply PV.Le.agg | apply PV.Le.tup)), rfl⟩, ⟨⟨rfl, by (repeat' (first | exact PV.Le.refl _ | exact LeL.nil | exact PV.Le.nil _ | exact PV.Le.acc _ _ _ | apply LeL.cons | apply PV.Le.agg | apply PV.Le.tup)), rfl⟩, trivial⟩⟩ rfl) (keeps_nil hC) ⟨⟨_, rfl, .refl _, rfl⟩, ⟨⟨_, rfl, .refl _, rfl⟩, ⟨⟨_, rfl, .refl _, rfl⟩, ⟨⟨_, rfl, .refl _, rfl⟩, ⟨⟨_, rfl, .refl _, rfl⟩, ⟨⟨_, rfl, by (repeat' (first | exact PV.Le.refl _ | exact LeL.nil | exact PV.Le.nil _ | exact PV.Le.acc _ _ _ | apply LeL.cons | apply PV.Le.agg | apply PV.Le.tup)), rfl⟩, trivial⟩⟩⟩⟩⟩⟩
    rintro k hJ4
    obtain ⟨hk1, hk2⟩ := hJ4
    refine AWP.seq ?_
    refine AWP.seq ?_
    refine AWP.region_lit ?_
    refine AL.cons rfl (AOp.move (.inl rfl) rfl rfl) ?_
    refine AL.cons rfl (AOp.fieldPtr (k := 0) (d := 0) (e := 0) rfl rfl rfl fo31_0) ?_
    refine AL.cons rfl (AOp.loadPtr1 rfl rfl rfl rfl sh29 rfl) ?_
    refine AL.cons rfl (AOp.move (.inl rfl) rfl rfl) ?_
    refine AL.cons rfl (AOp.index (k := i) rfl rfl rfl rfl rfl (GPackage.trs_cs h3n) el29) ?_
    refine AL.cons rfl (AOp.fieldEptr (cs := (GPackage.cs (w.gPackages[i]))) (e := 2) rfl rfl rfl fo126_2) ?_
    refine AL.cons rfl (AOp.loadEptr1 (d := .row 5 (GTrait.trs ((w.gPackages[i]).gTraits))) rfl rfl rfl sh121 rfl) ?_
    refine AL.fact (lk_lenN 22 rfl rfl (GTrait.trs_len _)) (fun hl5 => ?_)
    refine AL.cons rfl (AOp.lenN rfl rfl rfl rfl el121 (GTrait.trs_len _)) ?_
    refine AL.cons rfl (AOp.lss rfl rfl rfl rfl) ?_
    refine AL.nil ?_
    refine AWP.cond rfl (fun h6 => ?_) (fun h6 => ?_)
    · skip
      have h6b := h6
      try simp only [Bool.and_eq_true, Bool.or_eq_true, Bool.and_eq_false_iff, Bool.or_eq_false_iff, decide_eq_true_eq, decide_eq_false_iff_not, Bool.not_eq_true', Bool.not_eq_false', Bool.not_eq_eq_eq_not, Bool.not_true, Bool.not_false, ge_iff_le, gt_iff_lt, Int.not_lt, Int.not_le] at h6b
      have h6n : k < ((w.gPackages[i]).gTraits).length := by omega
      refine AWP.skip ?_
      refine AWP.seq ?_
      refine AWP.block ?_
      refine AWP.seq ?_
      refine AWP.region_lit ?_
      refine AL.cons rfl (AOp.fieldPtr (k := 0) (d := 0) (e := 0) rfl rfl rfl fo31_0) ?_
      refine AL.cons rfl (AOp.loadPtr1 rfl rfl rfl rfl sh29 rfl) ?_
      refine AL.cons rfl (AOp.move (.inl rfl) rfl rfl) ?_
      refine AL.cons rfl (AOp.index (k := i) rfl rfl rfl rfl rfl (GPackage.trs_cs h3n) el29) ?_
      refine AL.cons rfl (AOp.fieldEptr (cs := (GPackage.cs (w.gPackages[i]))) (e := 2) rfl rfl rfl fo126_2) ?_
      refine AL.cons rfl (AOp.loadEptr1 (d := .row 5 (GTrait.trs ((w.gPackages[i]).gTraits))) rfl rfl rfl sh121 rfl) ?_
      refine AL.cons rfl (AOp.move (.inl rfl) rfl rfl) ?_
      refine AL.cons rfl (AOp.index (k := k) rfl rfl rfl rfl rfl (GTrait.trs_cs h6n) el121) ?_
      refine AL.cons rfl (AOp.fieldEptr (cs := (GTrait.cs (((w.gPackages[i]).gTraits)[k]))) (e := 0) rfl rfl rfl fo94_0) ?_
      refine AL.cons rfl (AOp.loadEptr1 (d := .leaf (.string ((((w.gPackages[i]).gTraits)[k]).gName))) rfl rfl rfl sh9 rfl) ?_
      refine AL.cons rfl (AOp.move (.inl rfl) rfl rfl) ?_
      refine AL.cons rfl (AOp.eqlS rfl rfl rfl rfl) ?_
      refine AL.nil ?_
      refine AWP.cond rfl (fun h7 => ?_) (fun h7 => ?_)
      · skip
        have h7b := h7
        try simp only [Bool.and_eq_true, Bool.or_eq_true, Bool.and_eq_false_iff, Bool.or_eq_false_iff, decide_eq_true_eq, decide_eq_false_iff_not, Bool.not_eq_true', Bool.not_eq_false', Bool.not_eq_eq_eq_not, Bool.not_true, Bool.not_false, ge_iff_le, gt_iff_lt, Int.not_lt, Int.not_le] at h7b
        refine AWP.seq ?_
        refine AWP.region_lit ?_
        refine AL.cons rfl (AOp.fieldPtr (k := 0) (d := 0) (e := 0) rfl rfl rfl fo31_0) ?_
        refine AL.cons rfl (AOp.loadPtr1 rfl rfl rfl rfl sh29 rfl) ?_
        refine AL.cons rfl (AOp.move (.inl rfl) rfl rfl) ?_
        refine AL.cons rfl (AOp.index (k := i) rfl rfl rfl rfl rfl (GPackage.trs_cs h3n) el29) ?_
        refine AL.cons rfl (AOp.fieldEptr (cs := (GPackage.cs (w.gPackages[i]))) (e := 2) rfl rfl rfl fo126_2) ?_
        refine AL.cons rfl (AOp.loadEptr1 (d := .row 5 (GTrait.trs ((w.gPackages[i]).gTraits))) rfl rfl rfl sh121 rfl) ?_
        refine AL.cons rfl (AOp.move (.inl rfl) rfl rfl) ?_
        refine AL.cons rfl (AOp.index (k := k) rfl rfl rfl rfl rfl (GTrait.trs_cs h6n) el121) ?_
        refine AL.cons rfl (AOp.loadEptr (ds := [.leaf (.string ((((w.gPackages[i]).gTraits)[k]).gName)), .row 1 (strTrs ((((w.gPackages[i]).gTraits)[k]).gSupertraits)), .leaf (.bool ((((w.gPackages[i]).gTraits)[k]).gAuto)), .leaf (.bool ((((w.gPackages[i]).gTraits)[k]).gAssoc)), .row 16 (GSignature.trs ((((w.gPackages[i]).gTraits)[k]).gSignatures))]) rfl rfl rfl sh94 rfl rfl) ?_
        refine AL.cons rfl (AOp.move (.inl rfl) rfl rfl) ?_
        refine AL.cons rfl (AOp.storePtr (cs := [.t (.leaf (.string ((((w.gPackages[i]).gTraits)[k]).gName))), .t (.row 1 (strTrs ((((w.gPackages[i]).gTraits)[k]).gSupertraits))), .t (.leaf (.bool ((((w.gPackages[i]).gTraits)[k]).gAuto))), .t (.leaf (.bool ((((w.gPackages[i]).gTraits)[k]).gAssoc))), .t (.row 16 (GSignature.trs ((((w.gPackages[i]).gTraits)[k]).gSignatures)))]) (ds := [.t (.leaf (.string ((((w.gPackages[i]).gTraits)[k]).gName))), .t (.row 1 (strTrs ((((w.gPackages[i]).gTraits)[k]).gSupertraits))), .t (.leaf (.bool ((((w.gPackages[i]).gTraits)[k]).gAuto))), .t (.leaf (.bool ((((w.gPackages[i]).gTraits)[k]).gAssoc))), .t (.row 16 (GSignature.trs ((((w.gPackages[i]).gTraits)[k]).gSignatures)))]) rfl rfl rfl rfl rfl rfl rfl sz94 (Nat.le_of_ble_eq_true rfl) rfl) ?_
        refine AL.cons rfl (AOp.move (.inr rfl) rfl rfl) ?_
        refine AL.cons rfl (AOp.move (.inr rfl) rfl rfl) ?_
        refine AL.nil ?_
        refine AWP.ret ?_
        exact Ends.mk (ps := [_, _, _]) (.inr rfl) ⟨⟨_, _, _, rfl, rfl, sh94, rfl, rfl⟩, rfl, rfl, trivial⟩ rfl (StLe.mk' (st' := ⟨[], []⟩) trivial rfl) (keeps_nil hC) (q := (.tup [(GTrait.pv (((w.gPackages[i]).gTraits)[k])), .t (.leaf (.int .i64 (((i : Nat) : Int)))), .t (.leaf (.bool (true)))] : PV)) (by (repeat' (first | exact PV.Le.refl _ | exact LeL.nil | exact PV.Le.nil _ | exact PV.Le.acc _ _ _ | apply LeL.cons | apply PV.Le.agg | apply PV.Le.tup))) rfl ⟨by exact optTrait_some (findP_hit (by omega) (by omega) hi2 hk2 (by assumption)), rfl⟩
      · skip
        have h7b := h7
        try simp only [Bool.and_eq_true, Bool.or_eq_true, Bool.and_eq_false_iff, Bool.or_eq_false_iff, decide_eq_true_eq, decide_eq_false_iff_not, Bool.not_eq_true', Bool.not_eq_false', Bool.not_eq_eq_eq_not, Bool.not_true, Bool.not_false, ge_iff_le, gt_iff_lt, Int.not_lt, Int.not_le] at h7b
        refine AWP.skip ?_
        refine AWP.region_lit ?_
        refine AL.cons rfl (AOp.move (.inl rfl) rfl rfl) ?_
        refine AL.cons rfl (AOp.addI rfl rfl rfl rfl (c := ((k + 1 : Nat) : Int)) (by omega) (by omega)) ?_
        refine AL.cons rfl (AOp.move (.inr rfl) rfl rfl) ?_
        refine AL.nil ?_
        refine ⟨k + 1, ?_, ?_, ?_⟩
        · exact ⟨by omega, findP_next (by omega) hk2 (by assumption)⟩
        · skip
          exact Wk.mk (StLe.mk' ⟨⟨rfl, by (repeat' (first | exact PV.Le.refl _ | exact LeL.nil | exact PV.Le.nil _ | exact PV.Le.acc _ _ _ | apply LeL.cons | apply PV.Le.agg | apply PV.Le.tup)), rfl⟩, ⟨⟨rfl, by (repeat' (first | exact PV.Le.refl _ | exact LeL.nil | exact PV.Le.nil _ | exact PV.Le.acc _ _ _ | apply LeL.cons | apply PV.Le.agg | apply PV.Le.tup)), rfl⟩, trivial⟩⟩ rfl) (keeps_nil hC) ⟨⟨_, rfl, .refl _, rfl⟩, ⟨⟨_, rfl, .refl _, rfl⟩, ⟨⟨_, rfl, .refl _, rfl⟩, ⟨⟨_, rfl, .refl _, rfl⟩, ⟨⟨_, rfl, .refl _, rfl⟩, ⟨⟨_, rfl, by (repeat' (first | exact PV.Le.refl _ | exact LeL.nil | exact PV.Le.nil _ | exact PV.Le.acc _ _ _ | apply LeL.cons | apply PV.Le.agg | apply PV.Le.tup)), rfl⟩, trivial⟩⟩⟩⟩⟩⟩
        · omega
    · skip
      have h6b := h6
      try simp only [Bool.and_eq_true, Bool.or_eq_true, Bool.and_eq_false_iff, Bool.or_eq_false_iff, decide_eq_true_eq, decide_eq_false_iff_not, Bool.not_eq_true', Bool.not_eq_false', Bool.not_eq_eq_eq_not, Bool.not_true, Bool.not_false, ge_iff_le, gt_iff_lt, Int.not_lt, Int.not_le] at h6b
      have h6n : k ≥ ((w.gPackages[i]).gTraits).length := by omega
      refine AWP.exit ?_
      refine AWP.region_lit ?_
      refine AL.cons rfl (AOp.move (.inl rfl) rfl rfl) ?_
      refine AL.cons rfl (AOp.addI rfl rfl rfl rfl (c := ((i + 1 : Nat) : Int)) (by omega) (by omega)) ?_
      refine AL.cons rfl (AOp.move (.inr rfl) rfl rfl) ?_
      refine AL.nil ?_
      refine ⟨i + 1, ?_, ?_, ?_⟩
      · exact ⟨by omega, findP_miss (by omega) hi2 hk2 (by omega)⟩
      · skip
        exact Wk.mk (StLe.mk' ⟨⟨rfl, by (repeat' (first | exact PV.Le.refl _ | exact LeL.nil | exact PV.Le.nil _ | exact PV.Le.acc _ _ _ | apply LeL.cons | apply PV.Le.agg | apply PV.Le.tup)), rfl⟩, ⟨⟨rfl, by (repeat' (first | exact PV.Le.refl _ | exact LeL.nil | exact PV.Le.nil _ | exact PV.Le.acc _ _ _ | apply LeL.cons | apply PV.Le.agg | apply PV.Le.tup)), rfl⟩, trivial⟩⟩ rfl) (keeps_nil hC) ⟨⟨_, rfl, .refl _, rfl⟩, ⟨⟨_, rfl, .refl _, rfl⟩, ⟨⟨_, rfl, .refl _, rfl⟩, ⟨⟨_, rfl, .refl _, rfl⟩, ⟨⟨_, rfl, by (repeat' (first | exact PV.Le.refl _ | exact LeL.nil | exact PV.Le.nil _ | exact PV.Le.acc _ _ _ | apply LeL.cons | apply PV.Le.agg | apply PV.Le.tup)), rfl⟩, trivial⟩⟩⟩⟩⟩
      · omega
  · skip
    have h3b := h3
    try simp only [Bool.and_eq_true, Bool.or_eq_true, Bool.and_eq_false_iff, Bool.or_eq_false_iff, decide_eq_true_eq, decide_eq_false_iff_not, Bool.not_eq_true', Bool.not_eq_false', Bool.not_eq_eq_eq_not, Bool.not_true, Bool.not_false, ge_iff_le, gt_iff_lt, Int.not_lt, Int.not_le] at h3b
    have h3n : i ≥ w.gPackages.length := by omega
    refine AWP.exit ?_
    refine AWP.seq ?_
    refine AWP.region_lit ?_
    refine AL.cons rfl (AOp.build rfl rfl zr94 pl94 rfl rfl) ?_
    refine AL.cons rfl (AOp.storePtr (cs := [.t (.leaf (.string (⟨#[]⟩))), .nil, .t (.leaf (.bool (false))), .t (.leaf (.bool (false))), .nil]) (ds := [.t (.leaf (.string (⟨#[]⟩))), .nil, .t (.leaf (.bool (false))), .t (.leaf (.bool (false))), .nil]) rfl rfl rfl rfl rfl rfl rfl sz94 (Nat.le_of_ble_eq_true rfl) rfl) ?_
    refine AL.cons rfl (AOp.move (.inr rfl) rfl rfl) ?_
    refine AL.cons rfl (AOp.move (.inr rfl) rfl rfl) ?_
    refine AL.nil ?_
    refine AWP.ret ?_
    exact Ends.mk (ps := [_, _, _]) (.inr rfl) ⟨⟨_, _, _, rfl, rfl, sh94, rfl, rfl⟩, rfl, rfl, trivial⟩ rfl (StLe.mk' (st' := ⟨[], []⟩) trivial rfl) (keeps_nil hC) (q := PV.tup [GTrait.pv GTrait.zero, .t (.leaf (.int .i64 (0))), .t (.leaf (.bool (false)))]) (by (repeat' (first | exact PV.Le.refl _ | exact LeL.nil | exact PV.Le.nil _ | exact PV.Le.acc _ _ _ | apply LeL.cons | apply PV.Le.agg | apply PV.Le.tup))) rfl ⟨by exact optTrait_none (findP_end hi2 (by omega)), rfl⟩

def GProgram.dataAt (w : GProgram) (s : ByteArray) : Option (GDataType × Nat) := findP GDataType.gName GPackage.gDataTypes s 0 w.gPackages
def GDataType.zero : GDataType := .mk ⟨#[]⟩ [] []
def oDataType (o : Option (GDataType × Nat)) : GDataType := match o with | some (x, _) => x | none => GDataType.zero
abbrev optDataType (o : Option (GDataType × Nat)) : PV := .tup [GDataType.pv (oDataType o), .t (.leaf (.int .i64 (oInt o))), .t (.leaf (.bool o.isSome))]
theorem optDataType_some {o : Option (GDataType × Nat)} {x : GDataType} {i : Nat} (h : o = some (x, i)) : PV.tup [GDataType.pv x, .t (.leaf (.int .i64 (i : Int))), .t (.leaf (.bool true))] = optDataType o := by rw [h]; rfl
theorem optDataType_none {o : Option (GDataType × Nat)} (h : o = none) : PV.tup [GDataType.pv GDataType.zero, .t (.leaf (.int .i64 0)), .t (.leaf (.bool false))] = optDataType o := by rw [h]; rfl

set_option maxRecDepth 100000 in
set_option maxHeartbeats 4000000 in
theorem data_impl (w : GProgram) (s : ByteArray) : AFun Tryz.prog 142 [(GProgram.pv w), .t (.leaf (.string (s)))] (.tup [(GDataType.pv (oDataType (w.dataAt s))), .t (.leaf (.int .i64 (oInt (w.dataAt s)))), .t (.leaf (.bool ((w.dataAt s).isSome)))]) := by
  refine ACalls.intro Tryz.func142 rfl (by first | decide | (simp; done) | (simp; decide)) ?_
  intro C hC
  refine AWP.seq ?_
  refine AWP.region_lit ?_
  refine AL.cons rfl (AOp.box (cs := [.t (.row 6 (GPackage.trs (w.gPackages)))]) rfl rfl rfl rfl rfl) ?_
  refine AL.cons rfl (AOp.alloc rfl rfl zr171) ?_
  refine AL.cons rfl (AOp.move (.inr rfl) rfl rfl) ?_
  refine AL.cons rfl (AOp.move (.inr rfl) rfl rfl) ?_
  refine AL.nil ?_
  refine AWP.seq ?_
  refine AWP.seq ?_
  refine AWP.region_lit ?_
  refine AL.cons rfl (AOp.fieldPtr (k := 0) (d := 0) (e := 0) rfl rfl rfl fo31_0) ?_
  refine AL.cons rfl (AOp.loadPtr1 rfl rfl rfl rfl sh29 rfl) ?_
  refine AL.fact (lk_lenN 12 rfl rfl (GPackage.trs_len _)) (fun hl1 => ?_)
  refine AL.cons rfl (AOp.lenN rfl rfl rfl rfl el29 (GPackage.trs_len _)) ?_
  refine AL.cons rfl (AOp.move (.inl rfl) rfl rfl) ?_
  refine AL.nil ?_
  refine AWP.block ?_
  refine AWP.loopJ (ι := Nat) (fun i => i ≤ w.gPackages.length ∧ findP GDataType.gName GPackage.gDataTypes s 0 w.gPackages = findP GDataType.gName GPackage.gDataTypes s i (w.gPackages.drop i)) (fun i => ⟨[(0, (GProgram.pv w)), (1, .t (.leaf (.string (s)))), (2, .ptr 0 0), (4, .ptr 1 0), (12, .t (.row 6 (GPackage.trs (w.gPackages)))), (13, .t (.leaf (.int .i64 (((w.gPackages.length : Nat) : Int))))), (14, .t (.leaf (.int .i64 (((i : Nat) : Int)))))], ⟨[some ⟨31, [.t (.row 6 (GPackage.trs (w.gPackages)))]⟩, some ⟨171, [.t (.leaf (.string (⟨#[]⟩))), .nil, .nil]⟩], []⟩⟩) (fun i => w.gPackages.length - i) 0 ?_ ?_ ?_
  · exact ⟨Nat.zero_le _, rfl⟩
  · skip
    exact Wk.mk (StLe.mk' ⟨⟨rfl, by (repeat' (first | exact PV.Le.refl _ | exact LeL.nil | exact PV.Le.nil _ | exact PV.Le.acc _ _ _ | apply LeL.cons | apply PV.Le.agg | apply PV.Le.tup)), rfl⟩, ⟨⟨rfl, by (repeat' (first | exact PV.Le.refl _ | exact LeL.nil | exact PV.Le.nil _ | exact PV.Le.acc _ _ _ | apply LeL.cons | apply PV.Le.agg | apply PV.Le.tup)), rfl⟩, trivial⟩⟩ rfl) (keeps_nil hC) ⟨⟨_, rfl, .refl _, rfl⟩, ⟨⟨_, rfl, .refl _, rfl⟩, ⟨⟨_, rfl, .refl _, rfl⟩, ⟨⟨_, rfl, .refl _, rfl⟩, ⟨⟨_, rfl, .refl _, rfl⟩, ⟨⟨_, rfl, .refl _, rfl⟩, ⟨⟨_, rfl, by (repeat' (first | exact PV.Le.refl _ | exact LeL.nil | exact PV.Le.nil _ | exact PV.Le.acc _ _ _ | apply LeL.cons | apply PV.Le.agg | apply PV.Le.tup)), rfl⟩, trivial⟩⟩⟩⟩⟩⟩⟩
  rintro i hJ2
  obtain ⟨hi1, hi2⟩ := hJ2
  refine AWP.seq ?_
  refine AWP.region_lit ?_
  refine AL.cons rfl (AOp.lss rfl rfl rfl rfl) ?_
  refine AL.nil ?_
  refine AWP.seq ?_
  refine AWP.cond rfl (fun h3 => ?_) (fun h3 => ?_)
  · skip
    have h3b := h3
    try simp only [Bool.and_eq_true, Bool.or_eq_true, Bool.and_eq_false_iff, Bool.or_eq_false_iff, decide_eq_true_eq, decide_eq_false_iff_not, Bool.not_eq_true', Bool.not_eq_false', Bool.not_eq_eq_eq_not, Bool.not_true, Bool.not_false, ge_iff_le, gt_iff_lt, Int.not_lt, Int.not_le] at h3b
    have h3n : i < w.gPackages.length := by omega
    refine AWP.skip ?_
    refine AWP.seq ?_
    refine AWP.block ?_
    refine AWP.seq ?_
    refine AWP.region_lit ?_
    refine AL.cons rfl (AOp.move (.inl rfl) rfl rfl) ?_
    refine AL.cons rfl (AOp.index (k := i) rfl rfl rfl rfl rfl (GPackage.trs_cs h3n) el29) ?_
    refine AL.cons rfl (AOp.loadEptr (ds := [.leaf (.string ((w.gPackages[i]).gName)), .row 1 (strTrs ((w.gPackages[i]).gDeps)), .row 5 (GTrait.trs ((w.gPackages[i]).gTraits)), .row 3 (GDataType.trs ((w.gPackages[i]).gDataTypes)), .row 12 (GInstance.trs ((w.gPackages[i]).gInstances)), .row 16 (GFunction.trs ((w.gPackages[i]).gFunctions))]) rfl rfl rfl sh126 rfl rfl) ?_
    refine AL.cons rfl (AOp.alloc rfl rfl zr126) ?_
    refine AL.cons rfl (AOp.move (.inr rfl) rfl rfl) ?_
    refine AL.cons rfl (AOp.storePtr (cs := [.t (.leaf (.string ((w.gPackages[i]).gName))), .t (.row 1 (strTrs ((w.gPackages[i]).gDeps))), .t (.row 5 (GTrait.trs ((w.gPackages[i]).gTraits))), .t (.row 3 (GDataType.trs ((w.gPackages[i]).gDataTypes))), .t (.row 12 (GInstance.trs ((w.gPackages[i]).gInstances))), .t (.row 16 (GFunction.trs ((w.gPackages[i]).gFunctions)))]) (ds := [.t (.leaf (.string ((w.gPackages[i]).gName))), .t (.row 1 (strTrs ((w.gPackages[i]).gDeps))), .t (.row 5 (GTrait.trs ((w.gPackages[i]).gTraits))), .t (.row 3 (GDataType.trs ((w.gPackages[i]).gDataTypes))), .t (.row 12 (GInstance.trs ((w.gPackages[i]).gInstances))), .t (.row 16 (GFunction.trs ((w.gPackages[i]).gFunctions)))]) rfl rfl rfl rfl rfl rfl rfl sz126 (Nat.le_of_ble_eq_true rfl) rfl) ?_
    refine AL.nil ?_
    refine AWP.seq ?_
    refine AWP.region_lit ?_
    refine AL.cons rfl (AOp.fieldPtr (k := 2) (d := 0) (e := 3) rfl rfl rfl fo126_3) ?_
    refine AL.cons rfl (AOp.loadPtr1 rfl rfl rfl rfl sh122 rfl) ?_
    refine AL.fact (lk_lenN 20 rfl rfl (GDataType.trs_len _)) (fun hl4 => ?_)
    refine AL.cons rfl (AOp.lenN rfl rfl rfl rfl el122 (GDataType.trs_len _)) ?_
    refine AL.cons rfl (AOp.move (.inl rfl) rfl rfl) ?_
    refine AL.nil ?_
    refine AWP.block ?_
    refine AWP.loopJ (ι := Nat) (fun k => k ≤ (w.gPackages[i]).gDataTypes.length ∧ (w.gPackages[i]).gDataTypes.find? (fun x => decide (GDataType.gName x = s)) = ((w.gPackages[i]).gDataTypes.drop k).find? (fun x => decide (GDataType.gName x = s))) (fun k => ⟨[(0, (GProgram.pv w)), (1, .t (.leaf (.string (s)))), (2, .ptr 0 0), (4, .ptr 1 0), (7, .t (.leaf (.int .i64 (((i : Nat) : Int))))), (8, .ptr 2 0), (12, .t (.row 6 (GPackage.trs (w.gPackages)))), (13, .t (.leaf (.int .i64 (((w.gPackages.length : Nat) : Int))))), (14, .t (.leaf (.int .i64 (((i : Nat) : Int))))), (20, .t (.row 3 (GDataType.trs ((w.gPackages[i]).gDataTypes)))), (21, .t (.leaf (.int .i64 (((((w.gPackages[i]).gDataTypes).length : Nat) : Int))))), (22, .t (.leaf (.int .i64 (((k : Nat) : Int)))))], ⟨[some ⟨31, [.t (.row 6 (GPackage.trs (w.gPackages)))]⟩, some ⟨171, [.t (.leaf (.string (⟨#[]⟩))), .nil, .nil]⟩, some ⟨126, [.t (.leaf (.string ((w.gPackages[i]).gName))), .t (.row 1 (strTrs ((w.gPackages[i]).gDeps))), .t (.row 5 (GTrait.trs ((w.gPackages[i]).gTraits))), .t (.row 3 (GDataType.trs ((w.gPackages[i]).gDataTypes))), .t (.row 12 (GInstance.trs ((w.gPackages[i]).gInstances))), .t (.row 16 (GFunction.trs ((w.gPackages[i]).gFunctions)))]⟩], []⟩⟩) (fun k => (w.gPackages[i]).gDataTypes.length - k) 0 ?_ ?_ ?_
    · exact ⟨Nat.zero_le _, rfl⟩
    · skip
      exact Wk.mk (StLe.mk' ⟨⟨rfl, by (repeat' (first | exact PV.Le.refl _ | exact LeL.nil | exact PV.Le.nil _ | exact PV.Le.acc _ _ _ | apply LeL.cons | apply PV.Le.agg | apply PV.Le.tup)), rfl⟩, ⟨⟨rfl, by (repeat' (first | exact PV.Le.refl _ | exact LeL.nil | exact PV.Le.nil _ | exact PV.Le.acc _ _ _ | apply LeL.cons | apply PV.Le.agg | apply PV.Le.tup)), rfl⟩, ⟨⟨rfl, by (repeat' (first | exact PV.Le.refl _ | exact LeL.nil | exact PV.Le.nil _ | exact PV.Le.acc _ _ _ | apply LeL.cons | apply PV.Le.agg | apply PV.Le.tup)), rfl⟩, trivial⟩⟩⟩ rfl) (keeps_nil hC) ⟨⟨_, rfl, .refl _, rfl⟩, ⟨⟨_, rfl, .refl _, rfl⟩, ⟨⟨_, rfl, .refl _, rfl⟩, ⟨⟨_, rfl, .refl _, rfl⟩, ⟨⟨_, rfl, .refl _, rfl⟩, ⟨⟨_, rfl, .refl _, rfl⟩, ⟨⟨_, rfl, .refl _, rfl⟩, ⟨⟨_, rfl, .refl _, rfl⟩, ⟨⟨_, rfl, .refl _, rfl⟩, ⟨⟨_, rfl, .refl _, rfl⟩, ⟨⟨_, rfl, .refl _, rfl⟩, ⟨⟨_, rfl, by (repeat' (first | exact PV.Le.refl _ | exact LeL.nil | exact PV.Le.nil _ | exact PV.Le.acc _ _ _ | apply LeL.cons | apply PV.Le.agg | apply PV.Le.tup)), rfl⟩, trivial⟩⟩⟩⟩⟩⟩⟩⟩⟩⟩⟩⟩
    rintro k hJ5
    obtain ⟨hk1, hk2⟩ := hJ5
    refine AWP.seq ?_
    refine AWP.region_lit ?_
    refine AL.cons rfl (AOp.lss rfl rfl rfl rfl) ?_
    refine AL.nil ?_
    refine AWP.seq ?_
    refine AWP.cond rfl (fun h6 => ?_) (fun h6 => ?_)
    · skip
      have h6b := h6
      try simp only [Bool.and_eq_true, Bool.or_eq_true, Bool.and_eq_false_iff, Bool.or_eq_false_iff, decide_eq_true_eq, decide_eq_false_iff_not, Bool.not_eq_true', Bool.not_eq_false', Bool.not_eq_eq_eq_not, Bool.not_true, Bool.not_false, ge_iff_le, gt_iff_lt, Int.not_lt, Int.not_le] at h6b
      have h6n : k < ((w.gPackages[i]).gDataTypes).length := by omega
      refine AWP.skip ?_
      refine AWP.seq ?_
      refine AWP.block ?_
      refine AWP.seq ?_
      refine AWP.region_lit ?_
      refine AL.cons rfl (AOp.index (k := k) rfl rfl rfl rfl rfl (GDataType.trs_cs h6n) el122) ?_
      refine AL.cons rfl (AOp.loadEptr (ds := [.leaf (.string ((((w.gPackages[i]).gDataTypes)[k]).gName)), .row 1 (strTrs ((((w.gPackages[i]).gDataTypes)[k]).gVars)), .row 2 (GConstructor.trs ((((w.gPackages[i]).gDataTypes)[k]).gConstructors))]) rfl rfl rfl sh171 rfl rfl) ?_
      refine AL.cons rfl (AOp.alloc rfl rfl zr171) ?_
      refine AL.cons rfl (AOp.storePtr (cs := [.t (.leaf (.string ((((w.gPackages[i]).gDataTypes)[k]).gName))), .t (.row 1 (strTrs ((((w.gPackages[i]).gDataTypes)[k]).gVars))), .t (.row 2 (GConstructor.trs ((((w.gPackages[i]).gDataTypes)[k]).gConstructors)))]) (ds := [.t (.leaf (.string ((((w.gPackages[i]).gDataTypes)[k]).gName))), .t (.row 1 (strTrs ((((w.gPackages[i]).gDataTypes)[k]).gVars))), .t (.row 2 (GConstructor.trs ((((w.gPackages[i]).gDataTypes)[k]).gConstructors)))]) rfl rfl rfl rfl rfl rfl rfl sz171 (Nat.le_of_ble_eq_true rfl) rfl) ?_
      refine AL.nil ?_
      refine AWP.seq ?_
      refine AWP.region_lit ?_
      refine AL.cons rfl (AOp.fieldPtr (k := 3) (d := 0) (e := 0) rfl rfl rfl fo171_0) ?_
      refine AL.cons rfl (AOp.loadPtr1 rfl rfl rfl rfl sh9 rfl) ?_
      refine AL.cons rfl (AOp.move (.inl rfl) rfl rfl) ?_
      refine AL.cons rfl (AOp.eqlS rfl rfl rfl rfl) ?_
      refine AL.nil ?_
      refine AWP.cond rfl (fun h7 => ?_) (fun h7 => ?_)
      · skip
        have h7b := h7
        try simp only [Bool.and_eq_true, Bool.or_eq_true, Bool.and_eq_false_iff, Bool.or_eq_false_iff, decide_eq_true_eq, decide_eq_false_iff_not, Bool.not_eq_true', Bool.not_eq_false', Bool.not_eq_eq_eq_not, Bool.not_true, Bool.not_false, ge_iff_le, gt_iff_lt, Int.not_lt, Int.not_le] at h7b
        refine AWP.seq ?_
        refine AWP.region_lit ?_
        refine AL.cons rfl (AOp.loadPtr (cs := [.t (.leaf (.string ((((w.gPackages[i]).gDataTypes)[k]).gName))), .t (.row 1 (strTrs ((((w.gPackages[i]).gDataTypes)[k]).gVars))), .t (.row 2 (GConstructor.trs ((((w.gPackages[i]).gDataTypes)[k]).gConstructors)))]) rfl rfl rfl rfl sh171 rfl rfl) ?_
        refine AL.cons rfl (AOp.move (.inl rfl) rfl rfl) ?_
        refine AL.cons rfl (AOp.storePtr (cs := [.t (.leaf (.string ((((w.gPackages[i]).gDataTypes)[k]).gName))), .t (.row 1 (strTrs ((((w.gPackages[i]).gDataTypes)[k]).gVars))), .t (.row 2 (GConstructor.trs ((((w.gPackages[i]).gDataTypes)[k]).gConstructors)))]) (ds := [.t (.leaf (.string ((((w.gPackages[i]).gDataTypes)[k]).gName))), .t (.row 1 (strTrs ((((w.gPackages[i]).gDataTypes)[k]).gVars))), .t (.row 2 (GConstructor.trs ((((w.gPackages[i]).gDataTypes)[k]).gConstructors)))]) rfl rfl rfl rfl rfl rfl rfl sz171 (Nat.le_of_ble_eq_true rfl) rfl) ?_
        refine AL.cons rfl (AOp.move (.inr rfl) rfl rfl) ?_
        refine AL.cons rfl (AOp.move (.inr rfl) rfl rfl) ?_
        refine AL.nil ?_
        refine AWP.ret ?_
        exact Ends.mk (ps := [_, _, _]) (.inr rfl) ⟨⟨_, _, _, rfl, rfl, sh171, rfl, rfl⟩, rfl, rfl, trivial⟩ rfl (StLe.mk' (st' := ⟨[], []⟩) trivial rfl) (keeps_nil hC) (q := (.tup [(GDataType.pv (((w.gPackages[i]).gDataTypes)[k])), .t (.leaf (.int .i64 (((i : Nat) : Int)))), .t (.leaf (.bool (true)))] : PV)) (by (repeat' (first | exact PV.Le.refl _ | exact LeL.nil | exact PV.Le.nil _ | exact PV.Le.acc _ _ _ | apply LeL.cons | apply PV.Le.agg | apply PV.Le.tup))) rfl ⟨by exact optDataType_some (findP_hit (by omega) (by omega) hi2 hk2 (by assumption)), rfl⟩
      · skip
        have h7b := h7
        try simp only [Bool.and_eq_true, Bool.or_eq_true, Bool.and_eq_false_iff, Bool.or_eq_false_iff, decide_eq_true_eq, decide_eq_false_iff_not, Bool.not_eq_true', Bool.not_eq_false', Bool.not_eq_eq_eq_not, Bool.not_true, Bool.not_false, ge_iff_le, gt_iff_lt, Int.not_lt, Int.not_le] at h7b
        refine AWP.skip ?_
        refine AWP.region_lit ?_
        refine AL.cons rfl (AOp.addI rfl rfl rfl rfl (c := ((k + 1 : Nat) : Int)) (by omega) (by omega)) ?_
        refine AL.cons rfl (AOp.move (.inl rfl) rfl rfl) ?_
        refine AL.nil ?_
        refine ⟨k + 1, ?_, ?_, ?_⟩
        · exact ⟨by omega, findP_next (by omega) hk2 (by assumption)⟩
        · skip
          exact Wk.mk (StLe.mk' ⟨⟨rfl, by (repeat' (first | exact PV.Le.refl _ | exact LeL.nil | exact PV.Le.nil _ | exact PV.Le.acc _ _ _ | apply LeL.cons | apply PV.Le.agg | apply PV.Le.tup)), rfl⟩, ⟨⟨rfl, by (repeat' (first | exact PV.Le.refl _ | exact LeL.nil | exact PV.Le.nil _ | exact PV.Le.acc _ _ _ | apply LeL.cons | apply PV.Le.agg | apply PV.Le.tup)), rfl⟩, ⟨⟨rfl, by (repeat' (first | exact PV.Le.refl _ | exact LeL.nil | exact PV.Le.nil _ | exact PV.Le.acc _ _ _ | apply LeL.cons | apply PV.Le.agg | apply PV.Le.tup)), rfl⟩, trivial⟩⟩⟩ rfl) (keeps_nil hC) ⟨⟨_, rfl, .refl _, rfl⟩, ⟨⟨_, rfl, .refl _, rfl⟩, ⟨⟨_, rfl, .refl _, rfl⟩, ⟨⟨_, rfl, .refl _, rfl⟩, ⟨⟨_, rfl, .refl _, rfl⟩, ⟨⟨_, rfl, .refl _, rfl⟩, ⟨⟨_, rfl, .refl _, rfl⟩, ⟨⟨_, rfl, .refl _, rfl⟩, ⟨⟨_, rfl, .refl _, rfl⟩, ⟨⟨_, rfl, .refl _, rfl⟩, ⟨⟨_, rfl, .refl _, rfl⟩, ⟨⟨_, rfl, by (repeat' (first | exact PV.Le.refl _ | exact LeL.nil | exact PV.Le.nil _ | exact PV.Le.acc _ _ _ | apply LeL.cons | apply PV.Le.agg | apply PV.Le.tup)), rfl⟩, trivial⟩⟩⟩⟩⟩⟩⟩⟩⟩⟩⟩⟩
        · omega
    · skip
      have h6b := h6
      try simp only [Bool.and_eq_true, Bool.or_eq_true, Bool.and_eq_false_iff, Bool.or_eq_false_iff, decide_eq_true_eq, decide_eq_false_iff_not, Bool.not_eq_true', Bool.not_eq_false', Bool.not_eq_eq_eq_not, Bool.not_true, Bool.not_false, ge_iff_le, gt_iff_lt, Int.not_lt, Int.not_le] at h6b
      have h6n : k ≥ ((w.gPackages[i]).gDataTypes).length := by omega
      refine AWP.exit ?_
      refine AWP.region_lit ?_
      refine AL.cons rfl (AOp.addI rfl rfl rfl rfl (c := ((i + 1 : Nat) : Int)) (by omega) (by omega)) ?_
      refine AL.cons rfl (AOp.move (.inl rfl) rfl rfl) ?_
      refine AL.nil ?_
      refine ⟨i + 1, ?_, ?_, ?_⟩
      · exact ⟨by omega, findP_miss (by omega) hi2 hk2 (by omega)⟩
      · skip
        exact Wk.mk (StLe.mk' ⟨⟨rfl, by (repeat' (first | exact PV.Le.refl _ | exact LeL.nil | exact PV.Le.nil _ | exact PV.Le.acc _ _ _ | apply LeL.cons | apply PV.Le.agg | apply PV.Le.tup)), rfl⟩, ⟨⟨rfl, by (repeat' (first | exact PV.Le.refl _ | exact LeL.nil | exact PV.Le.nil _ | exact PV.Le.acc _ _ _ | apply LeL.cons | apply PV.Le.agg | apply PV.Le.tup)), rfl⟩, trivial⟩⟩ rfl) (keeps_nil hC) ⟨⟨_, rfl, .refl _, rfl⟩, ⟨⟨_, rfl, .refl _, rfl⟩, ⟨⟨_, rfl, .refl _, rfl⟩, ⟨⟨_, rfl, .refl _, rfl⟩, ⟨⟨_, rfl, .refl _, rfl⟩, ⟨⟨_, rfl, .refl _, rfl⟩, ⟨⟨_, rfl, by (repeat' (first | exact PV.Le.refl _ | exact LeL.nil | exact PV.Le.nil _ | exact PV.Le.acc _ _ _ | apply LeL.cons | apply PV.Le.agg | apply PV.Le.tup)), rfl⟩, trivial⟩⟩⟩⟩⟩⟩⟩
      · omega
  · skip
    have h3b := h3
    try simp only [Bool.and_eq_true, Bool.or_eq_true, Bool.and_eq_false_iff, Bool.or_eq_false_iff, decide_eq_true_eq, decide_eq_false_iff_not, Bool.not_eq_true', Bool.not_eq_false', Bool.not_eq_eq_eq_not, Bool.not_true, Bool.not_false, ge_iff_le, gt_iff_lt, Int.not_lt, Int.not_le] at h3b
    have h3n : i ≥ w.gPackages.length := by omega
    refine AWP.exit ?_
    refine AWP.seq ?_
    refine AWP.region_lit ?_
    refine AL.cons rfl (AOp.build rfl rfl zr171 pl171 rfl rfl) ?_
    refine AL.cons rfl (AOp.storePtr (cs := [.t (.leaf (.string (⟨#[]⟩))), .nil, .nil]) (ds := [.t (.leaf (.string (⟨#[]⟩))), .nil, .nil]) rfl rfl rfl rfl rfl rfl rfl sz171 (Nat.le_of_ble_eq_true rfl) rfl) ?_
    refine AL.cons rfl (AOp.move (.inr rfl) rfl rfl) ?_
    refine AL.cons rfl (AOp.move (.inr rfl) rfl rfl) ?_
    refine AL.nil ?_
    refine AWP.ret ?_
    exact Ends.mk (ps := [_, _, _]) (.inr rfl) ⟨⟨_, _, _, rfl, rfl, sh171, rfl, rfl⟩, rfl, rfl, trivial⟩ rfl (StLe.mk' (st' := ⟨[], []⟩) trivial rfl) (keeps_nil hC) (q := PV.tup [GDataType.pv GDataType.zero, .t (.leaf (.int .i64 (0))), .t (.leaf (.bool (false)))]) (by (repeat' (first | exact PV.Le.refl _ | exact LeL.nil | exact PV.Le.nil _ | exact PV.Le.acc _ _ _ | apply LeL.cons | apply PV.Le.agg | apply PV.Le.tup))) rfl ⟨by exact optDataType_none (findP_end hi2 (by omega)), rfl⟩

set_option maxRecDepth 100000 in
set_option maxHeartbeats 4000000 in
theorem data_spec (w : GProgram) (s : ByteArray) : AFun Tryz.prog 139 [(GProgram.pv w), .t (.leaf (.string (s)))] (.tup [(GDataType.pv (oDataType (w.dataAt s))), .t (.leaf (.int .i64 (oInt (w.dataAt s)))), .t (.leaf (.bool ((w.dataAt s).isSome)))]) := by
  refine ACalls.intro Tryz.func139 rfl (by first | decide | (simp; done) | (simp; decide)) ?_
  intro C hC
  refine AWP.seq ?_
  refine AWP.region_lit ?_
  refine AL.cons rfl (AOp.box (cs := [.t (.row 6 (GPackage.trs (w.gPackages)))]) rfl rfl rfl rfl rfl) ?_
  refine AL.cons rfl (AOp.alloc rfl rfl zr171) ?_
  refine AL.cons rfl (AOp.move (.inr rfl) rfl rfl) ?_
  refine AL.cons rfl (AOp.move (.inr rfl) rfl rfl) ?_
  refine AL.nil ?_
  refine AWP.seq ?_
  refine AWP.seq ?_
  refine AWP.region_lit ?_
  refine AL.cons rfl (AOp.move (.inr rfl) rfl rfl) ?_
  refine AL.nil ?_
  refine AWP.block ?_
  refine AWP.loopJ (ι := Nat) (fun i => i ≤ w.gPackages.length ∧ findP GDataType.gName GPackage.gDataTypes s 0 w.gPackages = findP GDataType.gName GPackage.gDataTypes s i (w.gPackages.drop i)) (fun i => ⟨[(0, (GProgram.pv w)), (1, .t (.leaf (.string (s)))), (2, .ptr 0 0), (4, .ptr 1 0), (7, .t (.leaf (.int .i64 (((i : Nat) : Int)))))], ⟨[some ⟨31, [.t (.row 6 (GPackage.trs (w.gPackages)))]⟩, some ⟨171, [.t (.leaf (.string (⟨#[]⟩))), .nil, .nil]⟩], []⟩⟩) (fun i => w.gPackages.length - i) 0 ?_ ?_ ?_
  · exact ⟨Nat.zero_le _, rfl⟩
  · skip
    exact Wk.mk (StLe.mk' ⟨⟨rfl, by (repeat' (first | exact PV.Le.refl _ | exact LeL.nil | exact PV.Le.nil _ | exact PV.Le.acc _ _ _ | apply LeL.cons | apply PV.Le.agg | apply PV.Le.tup)), rfl⟩, ⟨⟨rfl, by (repeat' (first | exact PV.Le.refl _ | exact LeL.nil | exact PV.Le.nil _ | exact PV.Le.acc _ _ _ | apply LeL.cons | apply PV.Le.agg | apply PV.Le.tup)), rfl⟩, trivial⟩⟩ rfl) (keeps_nil hC) ⟨⟨_, rfl, .refl _, rfl⟩, ⟨⟨_, rfl, .refl _, rfl⟩, ⟨⟨_, rfl, .refl _, rfl⟩, ⟨⟨_, rfl, .refl _, rfl⟩, ⟨⟨_, rfl, by (repeat' (first | exact PV.Le.refl _ | exact LeL.nil | exact PV.Le.nil _ | exact PV.Le.acc _ _ _ | apply LeL.cons | apply PV.Le.agg | apply PV.Le.tup)), rfl⟩, trivial⟩⟩⟩⟩⟩
  rintro i hJ1
  obtain ⟨hi1, hi2⟩ := hJ1
  refine AWP.seq ?_
  refine AWP.seq ?_
  refine AWP.region_lit ?_
  refine AL.cons rfl (AOp.move (.inl rfl) rfl rfl) ?_
  refine AL.cons rfl (AOp.fieldPtr (k := 0) (d := 0) (e := 0) rfl rfl rfl fo31_0) ?_
  refine AL.cons rfl (AOp.loadPtr1 rfl rfl rfl rfl sh29 rfl) ?_
  refine AL.fact (lk_lenN 11 rfl rfl (GPackage.trs_len _)) (fun hl2 => ?_)
  refine AL.cons rfl (AOp.lenN rfl rfl rfl rfl el29 (GPackage.trs_len _)) ?_
  refine AL.cons rfl (AOp.lss rfl rfl rfl rfl) ?_
  refine AL.nil ?_
  refine AWP.cond rfl (fun h3 => ?_) (fun h3 => ?_)
  · skip
    have h3b := h3
    try simp only [Bool.and_eq_true, Bool.or_eq_true, Bool.and_eq_false_iff, Bool.or_eq_false_iff, decide_eq_true_eq, decide_eq_false_iff_not, Bool.not_eq_true', Bool.not_eq_false', Bool.not_eq_eq_eq_not, Bool.not_true, Bool.not_false, ge_iff_le, gt_iff_lt, Int.not_lt, Int.not_le] at h3b
    have h3n : i < w.gPackages.length := by omega
    refine AWP.skip ?_
    refine AWP.seq ?_
    refine AWP.block ?_
    refine AWP.seq ?_
    refine AWP.region_lit ?_
    refine AL.cons rfl (AOp.move (.inr rfl) rfl rfl) ?_
    refine AL.nil ?_
    refine AWP.block ?_
    refine AWP.loopJ (ι := Nat) (fun k => k ≤ (w.gPackages[i]).gDataTypes.length ∧ (w.gPackages[i]).gDataTypes.find? (fun x => decide (GDataType.gName x = s)) = ((w.gPackages[i]).gDataTypes.drop k).find? (fun x => decide (GDataType.gName x = s))) (fun k => ⟨[(0, (GProgram.pv w)), (1, .t (.leaf (.string (s)))), (2, .ptr 0 0), (4, .ptr 1 0), (7, .t (.leaf (.int .i64 (((i : Nat) : Int))))), (8, .t (.leaf (.int .i64 (((k : Nat) : Int)))))], ⟨[some ⟨31, [.t (.row 6 (GPackage.trs (w.gPackages)))]⟩, some ⟨171, [.t (.leaf (.string (⟨#[]⟩))), .nil, .nil]⟩], []⟩⟩) (fun k => (w.gPackages[i]).gDataTypes.length - k) 0 ?_ ?_ ?_
    · exact ⟨Nat.zero_le _, rfl⟩
    · skip
      exact Wk.mk (StLe.mk' ⟨⟨rfl, by (repeat' (first | exact PV.Le.refl _ | exact LeL.nil | exact PV.Le.nil _ | exact PV.Le.acc _ _ _ | apply LeL.cons | apply PV.Le.agg | apply PV.Le.tup)), rfl⟩, ⟨⟨rfl, by (repeat' (first | exact PV.Le.refl _ | exact LeL.nil | exact PV.Le.nil _ | exact PV.Le.acc _ _ _ | apply LeL.cons | apply PV.Le.agg | apply PV.Le.tup)), rfl⟩, trivial⟩⟩ rfl) (keeps_nil hC) ⟨⟨_, rfl, .refl _, rfl⟩, ⟨⟨_, rfl, .refl _, rfl⟩, ⟨⟨_, rfl, .refl _, rfl⟩, ⟨⟨_, rfl, .refl _, rfl⟩, ⟨⟨_, rfl, .refl _, rfl⟩, ⟨⟨_, rfl, by (repeat' (first | exact PV.Le.refl _ | exact LeL.nil | exact PV.Le.nil _ | exact PV.Le.acc _ _ _ | apply LeL.cons | apply PV.Le.agg | apply PV.Le.tup)), rfl⟩, trivial⟩⟩⟩⟩⟩⟩
    rintro k hJ4
    obtain ⟨hk1, hk2⟩ := hJ4
    refine AWP.seq ?_
    refine AWP.seq ?_
    refine AWP.region_lit ?_
    refine AL.cons rfl (AOp.move (.inl rfl) rfl rfl) ?_
    refine AL.cons rfl (AOp.fieldPtr (k := 0) (d := 0) (e := 0) rfl rfl rfl fo31_0) ?_
    refine AL.cons rfl (AOp.loadPtr1 rfl rfl rfl rfl sh29 rfl) ?_
    refine AL.cons rfl (AOp.move (.inl rfl) rfl rfl) ?_
    refine AL.cons rfl (AOp.index (k := i) rfl rfl rfl rfl rfl (GPackage.trs_cs h3n) el29) ?_
    refine AL.cons rfl (AOp.fieldEptr (cs := (GPackage.cs (w.gPackages[i]))) (e := 3) rfl rfl rfl fo126_3) ?_
    refine AL.cons rfl (AOp.loadEptr1 (d := .row 3 (GDataType.trs ((w.gPackages[i]).gDataTypes))) rfl rfl rfl sh122 rfl) ?_
    refine AL.fact (lk_lenN 22 rfl rfl (GDataType.trs_len _)) (fun hl5 => ?_)
    refine AL.cons rfl (AOp.lenN rfl rfl rfl rfl el122 (GDataType.trs_len _)) ?_
    refine AL.cons rfl (AOp.lss rfl rfl rfl rfl) ?_
    refine AL.nil ?_
    refine AWP.cond rfl (fun h6 => ?_) (fun h6 => ?_)
    · skip
      have h6b := h6
      try simp only [Bool.and_eq_true, Bool.or_eq_true, Bool.and_eq_false_iff, Bool.or_eq_false_iff, decide_eq_true_eq, decide_eq_false_iff_not, Bool.not_eq_true', Bool.not_eq_false', Bool.not_eq_eq_eq_not, Bool.not_true, Bool.not_false, ge_iff_le, gt_iff_lt, Int.not_lt, Int.not_le] at h6b
      have h6n : k < ((w.gPackages[i]).gDataTypes).length := by omega
      refine AWP.skip ?_
      refine AWP.seq ?_
      refine AWP.block ?_
      refine AWP.seq ?_
      refine AWP.region_lit ?_
      refine AL.cons rfl (AOp.fieldPtr (k := 0) (d := 0) (e := 0) rfl rfl rfl fo31_0) ?_
      refine AL.cons rfl (AOp.loadPtr1 rfl rfl rfl rfl sh29 rfl) ?_
      refine AL.cons rfl (AOp.move (.inl rfl) rfl rfl) ?_
      refine AL.cons rfl (AOp.index (k := i) rfl rfl rfl rfl rfl (GPackage.trs_cs h3n) el29) ?_
      refine AL.cons rfl (AOp.fieldEptr (cs := (GPackage.cs (w.gPackages[i]))) (e := 3) rfl rfl rfl fo126_3) ?_
      refine AL.cons rfl (AOp.loadEptr1 (d := .row 3 (GDataType.trs ((w.gPackages[i]).gDataTypes))) rfl rfl rfl sh122 rfl) ?_
      refine AL.cons rfl (AOp.move (.inl rfl) rfl rfl) ?_
      refine AL.cons rfl (AOp.index (k := k) rfl rfl rfl rfl rfl (GDataType.trs_cs h6n) el122) ?_
      refine AL.cons rfl (AOp.fieldEptr (cs := (GDataType.cs (((w.gPackages[i]).gDataTypes)[k]))) (e := 0) rfl rfl rfl fo171_0) ?_
      refine AL.cons rfl (AOp.loadEptr1 (d := .leaf (.string ((((w.gPackages[i]).gDataTypes)[k]).gName))) rfl rfl rfl sh9 rfl) ?_
      refine AL.cons rfl (AOp.move (.inl rfl) rfl rfl) ?_
      refine AL.cons rfl (AOp.eqlS rfl rfl rfl rfl) ?_
      refine AL.nil ?_
      refine AWP.cond rfl (fun h7 => ?_) (fun h7 => ?_)
      · skip
        have h7b := h7
        try simp only [Bool.and_eq_true, Bool.or_eq_true, Bool.and_eq_false_iff, Bool.or_eq_false_iff, decide_eq_true_eq, decide_eq_false_iff_not, Bool.not_eq_true', Bool.not_eq_false', Bool.not_eq_eq_eq_not, Bool.not_true, Bool.not_false, ge_iff_le, gt_iff_lt, Int.not_lt, Int.not_le] at h7b
        refine AWP.seq ?_
        refine AWP.region_lit ?_
        refine AL.cons rfl (AOp.fieldPtr (k := 0) (d := 0) (e := 0) rfl rfl rfl fo31_0) ?_
        refine AL.cons rfl (AOp.loadPtr1 rfl rfl rfl rfl sh29 rfl) ?_
        refine AL.cons rfl (AOp.move (.inl rfl) rfl rfl) ?_
        refine AL.cons rfl (AOp.index (k := i) rfl rfl rfl rfl rfl (GPackage.trs_cs h3n) el29) ?_
        refine AL.cons rfl (AOp.fieldEptr (cs := (GPackage.cs (w.gPackages[i]))) (e := 3) rfl rfl rfl fo126_3) ?_
        refine AL.cons rfl (AOp.loadEptr1 (d := .row 3 (GDataType.trs ((w.gPackages[i]).gDataTypes))) rfl rfl rfl sh122 rfl) ?_
        refine AL.cons rfl (AOp.move (.inl rfl) rfl rfl) ?_
        refine AL.cons rfl (AOp.index (k := k) rfl rfl rfl rfl rfl (GDataType.trs_cs h6n) el122) ?_
        refine AL.cons rfl (AOp.loadEptr (ds := [.leaf (.string ((((w.gPackages[i]).gDataTypes)[k]).gName)), .row 1 (strTrs ((((w.gPackages[i]).gDataTypes)[k]).gVars)), .row 2 (GConstructor.trs ((((w.gPackages[i]).gDataTypes)[k]).gConstructors))]) rfl rfl rfl sh171 rfl rfl) ?_
        refine AL.cons rfl (AOp.move (.inl rfl) rfl rfl) ?_
        refine AL.cons rfl (AOp.storePtr (cs := [.t (.leaf (.string ((((w.gPackages[i]).gDataTypes)[k]).gName))), .t (.row 1 (strTrs ((((w.gPackages[i]).gDataTypes)[k]).gVars))), .t (.row 2 (GConstructor.trs ((((w.gPackages[i]).gDataTypes)[k]).gConstructors)))]) (ds := [.t (.leaf (.string ((((w.gPackages[i]).gDataTypes)[k]).gName))), .t (.row 1 (strTrs ((((w.gPackages[i]).gDataTypes)[k]).gVars))), .t (.row 2 (GConstructor.trs ((((w.gPackages[i]).gDataTypes)[k]).gConstructors)))]) rfl rfl rfl rfl rfl rfl rfl sz171 (Nat.le_of_ble_eq_true rfl) rfl) ?_
        refine AL.cons rfl (AOp.move (.inr rfl) rfl rfl) ?_
        refine AL.cons rfl (AOp.move (.inr rfl) rfl rfl) ?_
        refine AL.nil ?_
        refine AWP.ret ?_
        exact Ends.mk (ps := [_, _, _]) (.inr rfl) ⟨⟨_, _, _, rfl, rfl, sh171, rfl, rfl⟩, rfl, rfl, trivial⟩ rfl (StLe.mk' (st' := ⟨[], []⟩) trivial rfl) (keeps_nil hC) (q := (.tup [(GDataType.pv (((w.gPackages[i]).gDataTypes)[k])), .t (.leaf (.int .i64 (((i : Nat) : Int)))), .t (.leaf (.bool (true)))] : PV)) (by (repeat' (first | exact PV.Le.refl _ | exact LeL.nil | exact PV.Le.nil _ | exact PV.Le.acc _ _ _ | apply LeL.cons | apply PV.Le.agg | apply PV.Le.tup))) rfl ⟨by exact optDataType_some (findP_hit (by omega) (by omega) hi2 hk2 (by assumption)), rfl⟩
      · skip
        have h7b := h7
        try simp only [Bool.and_eq_true, Bool.or_eq_true, Bool.and_eq_false_iff, Bool.or_eq_false_iff, decide_eq_true_eq, decide_eq_false_iff_not, Bool.not_eq_true', Bool.not_eq_false', Bool.not_eq_eq_eq_not, Bool.not_true, Bool.not_false, ge_iff_le, gt_iff_lt, Int.not_lt, Int.not_le] at h7b
        refine AWP.skip ?_
        refine AWP.region_lit ?_
        refine AL.cons rfl (AOp.move (.inl rfl) rfl rfl) ?_
        refine AL.cons rfl (AOp.addI rfl rfl rfl rfl (c := ((k + 1 : Nat) : Int)) (by omega) (by omega)) ?_
        refine AL.cons rfl (AOp.move (.inr rfl) rfl rfl) ?_
        refine AL.nil ?_
        refine ⟨k + 1, ?_, ?_, ?_⟩
        · exact ⟨by omega, findP_next (by omega) hk2 (by assumption)⟩
        · skip
          exact Wk.mk (StLe.mk' ⟨⟨rfl, by (repeat' (first | exact PV.Le.refl _ | exact LeL.nil | exact PV.Le.nil _ | exact PV.Le.acc _ _ _ | apply LeL.cons | apply PV.Le.agg | apply PV.Le.tup)), rfl⟩, ⟨⟨rfl, by (repeat' (first | exact PV.Le.refl _ | exact LeL.nil | exact PV.Le.nil _ | exact PV.Le.acc _ _ _ | apply LeL.cons | apply PV.Le.agg | apply PV.Le.tup)), rfl⟩, trivial⟩⟩ rfl) (keeps_nil hC) ⟨⟨_, rfl, .refl _, rfl⟩, ⟨⟨_, rfl, .refl _, rfl⟩, ⟨⟨_, rfl, .refl _, rfl⟩, ⟨⟨_, rfl, .refl _, rfl⟩, ⟨⟨_, rfl, .refl _, rfl⟩, ⟨⟨_, rfl, by (repeat' (first | exact PV.Le.refl _ | exact LeL.nil | exact PV.Le.nil _ | exact PV.Le.acc _ _ _ | apply LeL.cons | apply PV.Le.agg | apply PV.Le.tup)), rfl⟩, trivial⟩⟩⟩⟩⟩⟩
        · omega
    · skip
      have h6b := h6
      try simp only [Bool.and_eq_true, Bool.or_eq_true, Bool.and_eq_false_iff, Bool.or_eq_false_iff, decide_eq_true_eq, decide_eq_false_iff_not, Bool.not_eq_true', Bool.not_eq_false', Bool.not_eq_eq_eq_not, Bool.not_true, Bool.not_false, ge_iff_le, gt_iff_lt, Int.not_lt, Int.not_le] at h6b
      have h6n : k ≥ ((w.gPackages[i]).gDataTypes).length := by omega
      refine AWP.exit ?_
      refine AWP.region_lit ?_
      refine AL.cons rfl (AOp.move (.inl rfl) rfl rfl) ?_
      refine AL.cons rfl (AOp.addI rfl rfl rfl rfl (c := ((i + 1 : Nat) : Int)) (by omega) (by omega)) ?_
      refine AL.cons rfl (AOp.move (.inr rfl) rfl rfl) ?_
      refine AL.nil ?_
      refine ⟨i + 1, ?_, ?_, ?_⟩
      · exact ⟨by omega, findP_miss (by omega) hi2 hk2 (by omega)⟩
      · skip
        exact Wk.mk (StLe.mk' ⟨⟨rfl, by (repeat' (first | exact PV.Le.refl _ | exact LeL.nil | exact PV.Le.nil _ | exact PV.Le.acc _ _ _ | apply LeL.cons | apply PV.Le.agg | apply PV.Le.tup)), rfl⟩, ⟨⟨rfl, by (repeat' (first | exact PV.Le.refl _ | exact LeL.nil | exact PV.Le.nil _ | exact PV.Le.acc _ _ _ | apply LeL.cons | apply PV.Le.agg | apply PV.Le.tup)), rfl⟩, trivial⟩⟩ rfl) (keeps_nil hC) ⟨⟨_, rfl, .refl _, rfl⟩, ⟨⟨_, rfl, .refl _, rfl⟩, ⟨⟨_, rfl, .refl _, rfl⟩, ⟨⟨_, rfl, .refl _, rfl⟩, ⟨⟨_, rfl, by (repeat' (first | exact PV.Le.refl _ | exact LeL.nil | exact PV.Le.nil _ | exact PV.Le.acc _ _ _ | apply LeL.cons | apply PV.Le.agg | apply PV.Le.tup)), rfl⟩, trivial⟩⟩⟩⟩⟩
      · omega
  · skip
    have h3b := h3
    try simp only [Bool.and_eq_true, Bool.or_eq_true, Bool.and_eq_false_iff, Bool.or_eq_false_iff, decide_eq_true_eq, decide_eq_false_iff_not, Bool.not_eq_true', Bool.not_eq_false', Bool.not_eq_eq_eq_not, Bool.not_true, Bool.not_false, ge_iff_le, gt_iff_lt, Int.not_lt, Int.not_le] at h3b
    have h3n : i ≥ w.gPackages.length := by omega
    refine AWP.exit ?_
    refine AWP.seq ?_
    refine AWP.region_lit ?_
    refine AL.cons rfl (AOp.build rfl rfl zr171 pl171 rfl rfl) ?_
    refine AL.cons rfl (AOp.storePtr (cs := [.t (.leaf (.string (⟨#[]⟩))), .nil, .nil]) (ds := [.t (.leaf (.string (⟨#[]⟩))), .nil, .nil]) rfl rfl rfl rfl rfl rfl rfl sz171 (Nat.le_of_ble_eq_true rfl) rfl) ?_
    refine AL.cons rfl (AOp.move (.inr rfl) rfl rfl) ?_
    refine AL.cons rfl (AOp.move (.inr rfl) rfl rfl) ?_
    refine AL.nil ?_
    refine AWP.ret ?_
    exact Ends.mk (ps := [_, _, _]) (.inr rfl) ⟨⟨_, _, _, rfl, rfl, sh171, rfl, rfl⟩, rfl, rfl, trivial⟩ rfl (StLe.mk' (st' := ⟨[], []⟩) trivial rfl) (keeps_nil hC) (q := PV.tup [GDataType.pv GDataType.zero, .t (.leaf (.int .i64 (0))), .t (.leaf (.bool (false)))]) (by (repeat' (first | exact PV.Le.refl _ | exact LeL.nil | exact PV.Le.nil _ | exact PV.Le.acc _ _ _ | apply LeL.cons | apply PV.Le.agg | apply PV.Le.tup))) rfl ⟨by exact optDataType_none (findP_end hi2 (by omega)), rfl⟩

def GProgram.functionAt (w : GProgram) (s : ByteArray) : Option (GFunction × Nat) := findP GFunction.gName GPackage.gFunctions s 0 w.gPackages
def GFunction.zero : GFunction := .mk ⟨#[]⟩ [] [] [] (.mk 0 ⟨#[]⟩ []) (.mk 0 ⟨#[]⟩ ⟨#[]⟩ 0 (.mk 0 ⟨#[]⟩ []) [] [])
def oFunction (o : Option (GFunction × Nat)) : GFunction := match o with | some (x, _) => x | none => GFunction.zero
abbrev optFunction (o : Option (GFunction × Nat)) : PV := .tup [GFunction.pv (oFunction o), .t (.leaf (.int .i64 (oInt o))), .t (.leaf (.bool o.isSome))]
theorem optFunction_some {o : Option (GFunction × Nat)} {x : GFunction} {i : Nat} (h : o = some (x, i)) : PV.tup [GFunction.pv x, .t (.leaf (.int .i64 (i : Int))), .t (.leaf (.bool true))] = optFunction o := by rw [h]; rfl
theorem optFunction_none {o : Option (GFunction × Nat)} (h : o = none) : PV.tup [GFunction.pv GFunction.zero, .t (.leaf (.int .i64 0)), .t (.leaf (.bool false))] = optFunction o := by rw [h]; rfl

set_option maxRecDepth 100000 in
set_option maxHeartbeats 4000000 in
theorem function_impl (w : GProgram) (s : ByteArray) : AFun Tryz.prog 127 [(GProgram.pv w), .t (.leaf (.string (s)))] (.tup [(GFunction.pv (oFunction (w.functionAt s))), .t (.leaf (.int .i64 (oInt (w.functionAt s)))), .t (.leaf (.bool ((w.functionAt s).isSome)))]) := by
  refine ACalls.intro Tryz.func127 rfl (by first | decide | (simp; done) | (simp; decide)) ?_
  intro C hC
  refine AWP.seq ?_
  refine AWP.region_lit ?_
  refine AL.cons rfl (AOp.box (cs := [.t (.row 6 (GPackage.trs (w.gPackages)))]) rfl rfl rfl rfl rfl) ?_
  refine AL.cons rfl (AOp.alloc rfl rfl zr105) ?_
  refine AL.cons rfl (AOp.move (.inr rfl) rfl rfl) ?_
  refine AL.cons rfl (AOp.move (.inr rfl) rfl rfl) ?_
  refine AL.nil ?_
  refine AWP.seq ?_
  refine AWP.seq ?_
  refine AWP.region_lit ?_
  refine AL.cons rfl (AOp.fieldPtr (k := 0) (d := 0) (e := 0) rfl rfl rfl fo31_0) ?_
  refine AL.cons rfl (AOp.loadPtr1 rfl rfl rfl rfl sh29 rfl) ?_
  refine AL.fact (lk_lenN 12 rfl rfl (GPackage.trs_len _)) (fun hl1 => ?_)
  refine AL.cons rfl (AOp.lenN rfl rfl rfl rfl el29 (GPackage.trs_len _)) ?_
  refine AL.cons rfl (AOp.move (.inl rfl) rfl rfl) ?_
  refine AL.nil ?_
  refine AWP.block ?_
  refine AWP.loopJ (ι := Nat) (fun i => i ≤ w.gPackages.length ∧ findP GFunction.gName GPackage.gFunctions s 0 w.gPackages = findP GFunction.gName GPackage.gFunctions s i (w.gPackages.drop i)) (fun i => ⟨[(0, (GProgram.pv w)), (1, .t (.leaf (.string (s)))), (2, .ptr 0 0), (4, .ptr 1 0), (12, .t (.row 6 (GPackage.trs (w.gPackages)))), (13, .t (.leaf (.int .i64 (((w.gPackages.length : Nat) : Int))))), (14, .t (.leaf (.int .i64 (((i : Nat) : Int)))))], ⟨[some ⟨31, [.t (.row 6 (GPackage.trs (w.gPackages)))]⟩, some ⟨105, [.t (.leaf (.string (⟨#[]⟩))), .nil, .nil, .nil, .t (.leaf (.int .i64 (0))), .t (.leaf (.string (⟨#[]⟩))), .nil, .t (.leaf (.int .i64 (0))), .t (.leaf (.string (⟨#[]⟩))), .t (.leaf (.string (⟨#[]⟩))), .t (.leaf (.int .i64 (0))), .t (.leaf (.int .i64 (0))), .t (.leaf (.string (⟨#[]⟩))), .nil, .nil, .nil]⟩], []⟩⟩) (fun i => w.gPackages.length - i) 0 ?_ ?_ ?_
  · exact ⟨Nat.zero_le _, rfl⟩
  · skip
    exact Wk.mk (StLe.mk' ⟨⟨rfl, by (repeat' (first | exact PV.Le.refl _ | exact LeL.nil | exact PV.Le.nil _ | exact PV.Le.acc _ _ _ | apply LeL.cons | apply PV.Le.agg | apply PV.Le.tup)), rfl⟩, ⟨⟨rfl, by (repeat' (first | exact PV.Le.refl _ | exact LeL.nil | exact PV.Le.nil _ | exact PV.Le.acc _ _ _ | apply LeL.cons | apply PV.Le.agg | apply PV.Le.tup)), rfl⟩, trivial⟩⟩ rfl) (keeps_nil hC) ⟨⟨_, rfl, .refl _, rfl⟩, ⟨⟨_, rfl, .refl _, rfl⟩, ⟨⟨_, rfl, .refl _, rfl⟩, ⟨⟨_, rfl, .refl _, rfl⟩, ⟨⟨_, rfl, .refl _, rfl⟩, ⟨⟨_, rfl, .refl _, rfl⟩, ⟨⟨_, rfl, by (repeat' (first | exact PV.Le.refl _ | exact LeL.nil | exact PV.Le.nil _ | exact PV.Le.acc _ _ _ | apply LeL.cons | apply PV.Le.agg | apply PV.Le.tup)), rfl⟩, trivial⟩⟩⟩⟩⟩⟩⟩
  rintro i hJ2
  obtain ⟨hi1, hi2⟩ := hJ2
  refine AWP.seq ?_
  refine AWP.region_lit ?_
  refine AL.cons rfl (AOp.lss rfl rfl rfl rfl) ?_
  refine AL.nil ?_
  refine AWP.seq ?_
  refine AWP.cond rfl (fun h3 => ?_) (fun h3 => ?_)
  · skip
    have h3b := h3
    try simp only [Bool.and_eq_true, Bool.or_eq_true, Bool.and_eq_false_iff, Bool.or_eq_false_iff, decide_eq_true_eq, decide_eq_false_iff_not, Bool.not_eq_true', Bool.not_eq_false', Bool.not_eq_eq_eq_not, Bool.not_true, Bool.not_false, ge_iff_le, gt_iff_lt, Int.not_lt, Int.not_le] at h3b
    have h3n : i < w.gPackages.length := by omega
    refine AWP.skip ?_
    refine AWP.seq ?_
    refine AWP.block ?_
    refine AWP.seq ?_
    refine AWP.region_lit ?_
    refine AL.cons rfl (AOp.move (.inl rfl) rfl rfl) ?_
    refine AL.cons rfl (AOp.index (k := i) rfl rfl rfl rfl rfl (GPackage.trs_cs h3n) el29) ?_
    refine AL.cons rfl (AOp.loadEptr (ds := [.leaf (.string ((w.gPackages[i]).gName)), .row 1 (strTrs ((w.gPackages[i]).gDeps)), .row 5 (GTrait.trs ((w.gPackages[i]).gTraits)), .row 3 (GDataType.trs ((w.gPackages[i]).gDataTypes)), .row 12 (GInstance.trs ((w.gPackages[i]).gInstances)), .row 16 (GFunction.trs ((w.gPackages[i]).gFunctions))]) rfl rfl rfl sh126 rfl rfl) ?_
    refine AL.cons rfl (AOp.alloc rfl rfl zr126) ?_
    refine AL.cons rfl (AOp.move (.inr rfl) rfl rfl) ?_
    refine AL.cons rfl (AOp.storePtr (cs := [.t (.leaf (.string ((w.gPackages[i]).gName))), .t (.row 1 (strTrs ((w.gPackages[i]).gDeps))), .t (.row 5 (GTrait.trs ((w.gPackages[i]).gTraits))), .t (.row 3 (GDataType.trs ((w.gPackages[i]).gDataTypes))), .t (.row 12 (GInstance.trs ((w.gPackages[i]).gInstances))), .t (.row 16 (GFunction.trs ((w.gPackages[i]).gFunctions)))]) (ds := [.t (.leaf (.string ((w.gPackages[i]).gName))), .t (.row 1 (strTrs ((w.gPackages[i]).gDeps))), .t (.row 5 (GTrait.trs ((w.gPackages[i]).gTraits))), .t (.row 3 (GDataType.trs ((w.gPackages[i]).gDataTypes))), .t (.row 12 (GInstance.trs ((w.gPackages[i]).gInstances))), .t (.row 16 (GFunction.trs ((w.gPackages[i]).gFunctions)))]) rfl rfl rfl rfl rfl rfl rfl sz126 (Nat.le_of_ble_eq_true rfl) rfl) ?_
    refine AL.nil ?_
    refine AWP.seq ?_
    refine AWP.region_lit ?_
    refine AL.cons rfl (AOp.fieldPtr (k := 2) (d := 0) (e := 5) rfl rfl rfl fo126_5) ?_
    refine AL.cons rfl (AOp.loadPtr1 rfl rfl rfl rfl sh124 rfl) ?_
    refine AL.fact (lk_lenN 20 rfl rfl (GFunction.trs_len _)) (fun hl4 => ?_)
    refine AL.cons rfl (AOp.lenN rfl rfl rfl rfl el124 (GFunction.trs_len _)) ?_
    refine AL.cons rfl (AOp.move (.inl rfl) rfl rfl) ?_
    refine AL.nil ?_
    refine AWP.block ?_
    refine AWP.loopJ (ι := Nat) (fun k => k ≤ (w.gPackages[i]).gFunctions.length ∧ (w.gPackages[i]).gFunctions.find? (fun x => decide (GFunction.gName x = s)) = ((w.gPackages[i]).gFunctions.drop k).find? (fun x => decide (GFunction.gName x = s))) (fun k => ⟨[(0, (GProgram.pv w)), (1, .t (.leaf (.string (s)))), (2, .ptr 0 0), (4, .ptr 1 0), (7, .t (.leaf (.int .i64 (((i : Nat) : Int))))), (8, .ptr 2 0), (12, .t (.row 6 (GPackage.trs (w.gPackages)))), (13, .t (.leaf (.int .i64 (((w.gPackages.length : Nat) : Int))))), (14, .t (.leaf (.int .i64 (((i : Nat) : Int))))), (20, .t (.row 16 (GFunction.trs ((w.gPackages[i]).gFunctions)))), (21, .t (.leaf (.int .i64 (((((w.gPackages[i]).gFunctions).length : Nat) : Int))))), (22, .t (.leaf (.int .i64 (((k : Nat) : Int)))))], ⟨[some ⟨31, [.t (.row 6 (GPackage.trs (w.gPackages)))]⟩, some ⟨105, [.t (.leaf (.string (⟨#[]⟩))), .nil, .nil, .nil, .t (.leaf (.int .i64 (0))), .t (.leaf (.string (⟨#[]⟩))), .nil, .t (.leaf (.int .i64 (0))), .t (.leaf (.string (⟨#[]⟩))), .t (.leaf (.string (⟨#[]⟩))), .t (.leaf (.int .i64 (0))), .t (.leaf (.int .i64 (0))), .t (.leaf (.string (⟨#[]⟩))), .nil, .nil, .nil]⟩, some ⟨126, [.t (.leaf (.string ((w.gPackages[i]).gName))), .t (.row 1 (strTrs ((w.gPackages[i]).gDeps))), .t (.row 5 (GTrait.trs ((w.gPackages[i]).gTraits))), .t (.row 3 (GDataType.trs ((w.gPackages[i]).gDataTypes))), .t (.row 12 (GInstance.trs ((w.gPackages[i]).gInstances))), .t (.row 16 (GFunction.trs ((w.gPackages[i]).gFunctions)))]⟩], []⟩⟩) (fun k => (w.gPackages[i]).gFunctions.length - k) 0 ?_ ?_ ?_
    · exact ⟨Nat.zero_le _, rfl⟩
    · skip
      exact Wk.mk (StLe.mk' ⟨⟨rfl, by (repeat' (first | exact PV.Le.refl _ | exact LeL.nil | exact PV.Le.nil _ | exact PV.Le.acc _ _ _ | apply LeL.cons | apply PV.Le.agg | apply PV.Le.tup)), rfl⟩, ⟨⟨rfl, by (repeat' (first | exact PV.Le.refl _ | exact LeL.nil | exact PV.Le.nil _ | exact PV.Le.acc _ _ _ | apply LeL.cons | apply PV.Le.agg | apply PV.Le.tup)), rfl⟩, ⟨⟨rfl, by (repeat' (first | exact PV.Le.refl _ | exact LeL.nil | exact PV.Le.nil _ | exact PV.Le.acc _ _ _ | apply LeL.cons | apply PV.Le.agg | apply PV.Le.tup)), rfl⟩, trivial⟩⟩⟩ rfl) (keeps_nil hC) ⟨⟨_, rfl, .refl _, rfl⟩, ⟨⟨_, rfl, .refl _, rfl⟩, ⟨⟨_, rfl, .refl _, rfl⟩, ⟨⟨_, rfl, .refl _, rfl⟩, ⟨⟨_, rfl, .refl _, rfl⟩, ⟨⟨_, rfl, .refl _, rfl⟩, ⟨⟨_, rfl, .refl _, rfl⟩, ⟨⟨_, rfl, .refl _, rfl⟩, ⟨⟨_, rfl, .refl _, rfl⟩, ⟨⟨_, rfl, .refl _, rfl⟩, ⟨⟨_, rfl, .refl _, rfl⟩, ⟨⟨_, rfl, by (repeat' (first | exact PV.Le.refl _ | exact LeL.nil | exact PV.Le.nil _ | exact PV.Le.acc _ _ _ | apply LeL.cons | apply PV.Le.agg | apply PV.Le.tup)), rfl⟩, trivial⟩⟩⟩⟩⟩⟩⟩⟩⟩⟩⟩⟩
    rintro k hJ5
    obtain ⟨hk1, hk2⟩ := hJ5
    refine AWP.seq ?_
    refine AWP.region_lit ?_
    refine AL.cons rfl (AOp.lss rfl rfl rfl rfl) ?_
    refine AL.nil ?_
    refine AWP.seq ?_
    refine AWP.cond rfl (fun h6 => ?_) (fun h6 => ?_)
    · skip
      have h6b := h6
      try simp only [Bool.and_eq_true, Bool.or_eq_true, Bool.and_eq_false_iff, Bool.or_eq_false_iff, decide_eq_true_eq, decide_eq_false_iff_not, Bool.not_eq_true', Bool.not_eq_false', Bool.not_eq_eq_eq_not, Bool.not_true, Bool.not_false, ge_iff_le, gt_iff_lt, Int.not_lt, Int.not_le] at h6b
      have h6n : k < ((w.gPackages[i]).gFunctions).length := by omega
      refine AWP.skip ?_
      refine AWP.seq ?_
      refine AWP.block ?_
      refine AWP.seq ?_
      refine AWP.region_lit ?_
      refine AL.cons rfl (AOp.index (k := k) rfl rfl rfl rfl rfl (GFunction.trs_cs h6n) el124) ?_
      refine AL.cons rfl (AOp.loadEptr (ds := [.leaf (.string ((((w.gPackages[i]).gFunctions)[k]).gName)), .row 1 (strTrs ((((w.gPackages[i]).gFunctions)[k]).gVars)), .row 4 (GBound.trs ((((w.gPackages[i]).gFunctions)[k]).gWhere)), .row 4 (GParam.trs ((((w.gPackages[i]).gFunctions)[k]).gParams)), .leaf (.int .i64 ((((w.gPackages[i]).gFunctions)[k]).gResult.gKind)), .leaf (.string ((((w.gPackages[i]).gFunctions)[k]).gResult.gName)), .row 3 (GType.trs ((((w.gPackages[i]).gFunctions)[k]).gResult.gArgs)), .leaf (.int .i64 ((((w.gPackages[i]).gFunctions)[k]).gBody.gKind)), .leaf (.string ((((w.gPackages[i]).gFunctions)[k]).gBody.gTrait)), .leaf (.string ((((w.gPackages[i]).gFunctions)[k]).gBody.gName)), .leaf (.int .i64 ((((w.gPackages[i]).gFunctions)[k]).gBody.gN)), .leaf (.int .i64 ((((w.gPackages[i]).gFunctions)[k]).gBody.gType.gKind)), .leaf (.string ((((w.gPackages[i]).gFunctions)[k]).gBody.gType.gName)), .row 3 (GType.trs ((((w.gPackages[i]).gFunctions)[k]).gBody.gType.gArgs)), .row 9 (GExpr.trs ((((w.gPackages[i]).gFunctions)[k]).gBody.gArgs)), .row 11 (GArm.trs ((((w.gPackages[i]).gFunctions)[k]).gBody.gArms))]) rfl rfl rfl sh105 rfl rfl) ?_
      refine AL.cons rfl (AOp.alloc rfl rfl zr105) ?_
      refine AL.cons rfl (AOp.storePtr (cs := [.t (.leaf (.string ((((w.gPackages[i]).gFunctions)[k]).gName))), .t (.row 1 (strTrs ((((w.gPackages[i]).gFunctions)[k]).gVars))), .t (.row 4 (GBound.trs ((((w.gPackages[i]).gFunctions)[k]).gWhere))), .t (.row 4 (GParam.trs ((((w.gPackages[i]).gFunctions)[k]).gParams))), .t (.leaf (.int .i64 ((((w.gPackages[i]).gFunctions)[k]).gResult.gKind))), .t (.leaf (.string ((((w.gPackages[i]).gFunctions)[k]).gResult.gName))), .t (.row 3 (GType.trs ((((w.gPackages[i]).gFunctions)[k]).gResult.gArgs))), .t (.leaf (.int .i64 ((((w.gPackages[i]).gFunctions)[k]).gBody.gKind))), .t (.leaf (.string ((((w.gPackages[i]).gFunctions)[k]).gBody.gTrait))), .t (.leaf (.string ((((w.gPackages[i]).gFunctions)[k]).gBody.gName))), .t (.leaf (.int .i64 ((((w.gPackages[i]).gFunctions)[k]).gBody.gN))), .t (.leaf (.int .i64 ((((w.gPackages[i]).gFunctions)[k]).gBody.gType.gKind))), .t (.leaf (.string ((((w.gPackages[i]).gFunctions)[k]).gBody.gType.gName))), .t (.row 3 (GType.trs ((((w.gPackages[i]).gFunctions)[k]).gBody.gType.gArgs))), .t (.row 9 (GExpr.trs ((((w.gPackages[i]).gFunctions)[k]).gBody.gArgs))), .t (.row 11 (GArm.trs ((((w.gPackages[i]).gFunctions)[k]).gBody.gArms)))]) (ds := [.t (.leaf (.string ((((w.gPackages[i]).gFunctions)[k]).gName))), .t (.row 1 (strTrs ((((w.gPackages[i]).gFunctions)[k]).gVars))), .t (.row 4 (GBound.trs ((((w.gPackages[i]).gFunctions)[k]).gWhere))), .t (.row 4 (GParam.trs ((((w.gPackages[i]).gFunctions)[k]).gParams))), .t (.leaf (.int .i64 ((((w.gPackages[i]).gFunctions)[k]).gResult.gKind))), .t (.leaf (.string ((((w.gPackages[i]).gFunctions)[k]).gResult.gName))), .t (.row 3 (GType.trs ((((w.gPackages[i]).gFunctions)[k]).gResult.gArgs))), .t (.leaf (.int .i64 ((((w.gPackages[i]).gFunctions)[k]).gBody.gKind))), .t (.leaf (.string ((((w.gPackages[i]).gFunctions)[k]).gBody.gTrait))), .t (.leaf (.string ((((w.gPackages[i]).gFunctions)[k]).gBody.gName))), .t (.leaf (.int .i64 ((((w.gPackages[i]).gFunctions)[k]).gBody.gN))), .t (.leaf (.int .i64 ((((w.gPackages[i]).gFunctions)[k]).gBody.gType.gKind))), .t (.leaf (.string ((((w.gPackages[i]).gFunctions)[k]).gBody.gType.gName))), .t (.row 3 (GType.trs ((((w.gPackages[i]).gFunctions)[k]).gBody.gType.gArgs))), .t (.row 9 (GExpr.trs ((((w.gPackages[i]).gFunctions)[k]).gBody.gArgs))), .t (.row 11 (GArm.trs ((((w.gPackages[i]).gFunctions)[k]).gBody.gArms)))]) rfl rfl rfl rfl rfl rfl rfl sz105 (Nat.le_of_ble_eq_true rfl) rfl) ?_
      refine AL.nil ?_
      refine AWP.seq ?_
      refine AWP.region_lit ?_
      refine AL.cons rfl (AOp.fieldPtr (k := 3) (d := 0) (e := 0) rfl rfl rfl fo105_0) ?_
      refine AL.cons rfl (AOp.loadPtr1 rfl rfl rfl rfl sh9 rfl) ?_
      refine AL.cons rfl (AOp.move (.inl rfl) rfl rfl) ?_
      refine AL.cons rfl (AOp.eqlS rfl rfl rfl rfl) ?_
      refine AL.nil ?_
      refine AWP.cond rfl (fun h7 => ?_) (fun h7 => ?_)
      · skip
        have h7b := h7
        try simp only [Bool.and_eq_true, Bool.or_eq_true, Bool.and_eq_false_iff, Bool.or_eq_false_iff, decide_eq_true_eq, decide_eq_false_iff_not, Bool.not_eq_true', Bool.not_eq_false', Bool.not_eq_eq_eq_not, Bool.not_true, Bool.not_false, ge_iff_le, gt_iff_lt, Int.not_lt, Int.not_le] at h7b
        refine AWP.seq ?_
        refine AWP.region_lit ?_
        refine AL.cons rfl (AOp.loadPtr (cs := [.t (.leaf (.string ((((w.gPackages[i]).gFunctions)[k]).gName))), .t (.row 1 (strTrs ((((w.gPackages[i]).gFunctions)[k]).gVars))), .t (.row 4 (GBound.trs ((((w.gPackages[i]).gFunctions)[k]).gWhere))), .t (.row 4 (GParam.trs ((((w.gPackages[i]).gFunctions)[k]).gParams))), .t (.leaf (.int .i64 ((((w.gPackages[i]).gFunctions)[k]).gResult.gKind))), .t (.leaf (.string ((((w.gPackages[i]).gFunctions)[k]).gResult.gName))), .t (.row 3 (GType.trs ((((w.gPackages[i]).gFunctions)[k]).gResult.gArgs))), .t (.leaf (.int .i64 ((((w.gPackages[i]).gFunctions)[k]).gBody.gKind))), .t (.leaf (.string ((((w.gPackages[i]).gFunctions)[k]).gBody.gTrait))), .t (.leaf (.string ((((w.gPackages[i]).gFunctions)[k]).gBody.gName))), .t (.leaf (.int .i64 ((((w.gPackages[i]).gFunctions)[k]).gBody.gN))), .t (.leaf (.int .i64 ((((w.gPackages[i]).gFunctions)[k]).gBody.gType.gKind))), .t (.leaf (.string ((((w.gPackages[i]).gFunctions)[k]).gBody.gType.gName))), .t (.row 3 (GType.trs ((((w.gPackages[i]).gFunctions)[k]).gBody.gType.gArgs))), .t (.row 9 (GExpr.trs ((((w.gPackages[i]).gFunctions)[k]).gBody.gArgs))), .t (.row 11 (GArm.trs ((((w.gPackages[i]).gFunctions)[k]).gBody.gArms)))]) rfl rfl rfl rfl sh105 rfl rfl) ?_
        refine AL.cons rfl (AOp.move (.inl rfl) rfl rfl) ?_
        refine AL.cons rfl (AOp.storePtr (cs := [.t (.leaf (.string ((((w.gPackages[i]).gFunctions)[k]).gName))), .t (.row 1 (strTrs ((((w.gPackages[i]).gFunctions)[k]).gVars))), .t (.row 4 (GBound.trs ((((w.gPackages[i]).gFunctions)[k]).gWhere))), .t (.row 4 (GParam.trs ((((w.gPackages[i]).gFunctions)[k]).gParams))), .t (.leaf (.int .i64 ((((w.gPackages[i]).gFunctions)[k]).gResult.gKind))), .t (.leaf (.string ((((w.gPackages[i]).gFunctions)[k]).gResult.gName))), .t (.row 3 (GType.trs ((((w.gPackages[i]).gFunctions)[k]).gResult.gArgs))), .t (.leaf (.int .i64 ((((w.gPackages[i]).gFunctions)[k]).gBody.gKind))), .t (.leaf (.string ((((w.gPackages[i]).gFunctions)[k]).gBody.gTrait))), .t (.leaf (.string ((((w.gPackages[i]).gFunctions)[k]).gBody.gName))), .t (.leaf (.int .i64 ((((w.gPackages[i]).gFunctions)[k]).gBody.gN))), .t (.leaf (.int .i64 ((((w.gPackages[i]).gFunctions)[k]).gBody.gType.gKind))), .t (.leaf (.string ((((w.gPackages[i]).gFunctions)[k]).gBody.gType.gName))), .t (.row 3 (GType.trs ((((w.gPackages[i]).gFunctions)[k]).gBody.gType.gArgs))), .t (.row 9 (GExpr.trs ((((w.gPackages[i]).gFunctions)[k]).gBody.gArgs))), .t (.row 11 (GArm.trs ((((w.gPackages[i]).gFunctions)[k]).gBody.gArms)))]) (ds := [.t (.leaf (.string ((((w.gPackages[i]).gFunctions)[k]).gName))), .t (.row 1 (strTrs ((((w.gPackages[i]).gFunctions)[k]).gVars))), .t (.row 4 (GBound.trs ((((w.gPackages[i]).gFunctions)[k]).gWhere))), .t (.row 4 (GParam.trs ((((w.gPackages[i]).gFunctions)[k]).gParams))), .t (.leaf (.int .i64 ((((w.gPackages[i]).gFunctions)[k]).gResult.gKind))), .t (.leaf (.string ((((w.gPackages[i]).gFunctions)[k]).gResult.gName))), .t (.row 3 (GType.trs ((((w.gPackages[i]).gFunctions)[k]).gResult.gArgs))), .t (.leaf (.int .i64 ((((w.gPackages[i]).gFunctions)[k]).gBody.gKind))), .t (.leaf (.string ((((w.gPackages[i]).gFunctions)[k]).gBody.gTrait))), .t (.leaf (.string ((((w.gPackages[i]).gFunctions)[k]).gBody.gName))), .t (.leaf (.int .i64 ((((w.gPackages[i]).gFunctions)[k]).gBody.gN))), .t (.leaf (.int .i64 ((((w.gPackages[i]).gFunctions)[k]).gBody.gType.gKind))), .t (.leaf (.string ((((w.gPackages[i]).gFunctions)[k]).gBody.gType.gName))), .t (.row 3 (GType.trs ((((w.gPackages[i]).gFunctions)[k]).gBody.gType.gArgs))), .t (.row 9 (GExpr.trs ((((w.gPackages[i]).gFunctions)[k]).gBody.gArgs))), .t (.row 11 (GArm.trs ((((w.gPackages[i]).gFunctions)[k]).gBody.gArms)))]) rfl rfl rfl rfl rfl rfl rfl sz105 (Nat.le_of_ble_eq_true rfl) rfl) ?_
        refine AL.cons rfl (AOp.move (.inr rfl) rfl rfl) ?_
        refine AL.cons rfl (AOp.move (.inr rfl) rfl rfl) ?_
        refine AL.nil ?_
        refine AWP.ret ?_
        exact Ends.mk (ps := [_, _, _]) (.inr rfl) ⟨⟨_, _, _, rfl, rfl, sh105, rfl, rfl⟩, rfl, rfl, trivial⟩ rfl (StLe.mk' (st' := ⟨[], []⟩) trivial rfl) (keeps_nil hC) (q := (.tup [(GFunction.pv (((w.gPackages[i]).gFunctions)[k])), .t (.leaf (.int .i64 (((i : Nat) : Int)))), .t (.leaf (.bool (true)))] : PV)) (by (repeat' (first | exact PV.Le.refl _ | exact LeL.nil | exact PV.Le.nil _ | exact PV.Le.acc _ _ _ | apply LeL.cons | apply PV.Le.agg | apply PV.Le.tup))) rfl ⟨by exact optFunction_some (findP_hit (by omega) (by omega) hi2 hk2 (by assumption)), rfl⟩
      · skip
        have h7b := h7
        try simp only [Bool.and_eq_true, Bool.or_eq_true, Bool.and_eq_false_iff, Bool.or_eq_false_iff, decide_eq_true_eq, decide_eq_false_iff_not, Bool.not_eq_true', Bool.not_eq_false', Bool.not_eq_eq_eq_not, Bool.not_true, Bool.not_false, ge_iff_le, gt_iff_lt, Int.not_lt, Int.not_le] at h7b
        refine AWP.skip ?_
        refine AWP.region_lit ?_
        refine AL.cons rfl (AOp.addI rfl rfl rfl rfl (c := ((k + 1 : Nat) : Int)) (by omega) (by omega)) ?_
        refine AL.cons rfl (AOp.move (.inl rfl) rfl rfl) ?_
        refine AL.nil ?_
        refine ⟨k + 1, ?_, ?_, ?_⟩
        · exact ⟨by omega, findP_next (by omega) hk2 (by assumption)⟩
        · skip
          exact Wk.mk (StLe.mk' ⟨⟨rfl, by (repeat' (first | exact PV.Le.refl _ | exact LeL.nil | exact PV.Le.nil _ | exact PV.Le.acc _ _ _ | apply LeL.cons | apply PV.Le.agg | apply PV.Le.tup)), rfl⟩, ⟨⟨rfl, by (repeat' (first | exact PV.Le.refl _ | exact LeL.nil | exact PV.Le.nil _ | exact PV.Le.acc _ _ _ | apply LeL.cons | apply PV.Le.agg | apply PV.Le.tup)), rfl⟩, ⟨⟨rfl, by (repeat' (first | exact PV.Le.refl _ | exact LeL.nil | exact PV.Le.nil _ | exact PV.Le.acc _ _ _ | apply LeL.cons | apply PV.Le.agg | apply PV.Le.tup)), rfl⟩, trivial⟩⟩⟩ rfl) (keeps_nil hC) ⟨⟨_, rfl, .refl _, rfl⟩, ⟨⟨_, rfl, .refl _, rfl⟩, ⟨⟨_, rfl, .refl _, rfl⟩, ⟨⟨_, rfl, .refl _, rfl⟩, ⟨⟨_, rfl, .refl _, rfl⟩, ⟨⟨_, rfl, .refl _, rfl⟩, ⟨⟨_, rfl, .refl _, rfl⟩, ⟨⟨_, rfl, .refl _, rfl⟩, ⟨⟨_, rfl, .refl _, rfl⟩, ⟨⟨_, rfl, .refl _, rfl⟩, ⟨⟨_, rfl, .refl _, rfl⟩, ⟨⟨_, rfl, by (repeat' (first | exact PV.Le.refl _ | exact LeL.nil | exact PV.Le.nil _ | exact PV.Le.acc _ _ _ | apply LeL.cons | apply PV.Le.agg | apply PV.Le.tup)), rfl⟩, trivial⟩⟩⟩⟩⟩⟩⟩⟩⟩⟩⟩⟩
        · omega
    · skip
      have h6b := h6
      try simp only [Bool.and_eq_true, Bool.or_eq_true, Bool.and_eq_false_iff, Bool.or_eq_false_iff, decide_eq_true_eq, decide_eq_false_iff_not, Bool.not_eq_true', Bool.not_eq_false', Bool.not_eq_eq_eq_not, Bool.not_true, Bool.not_false, ge_iff_le, gt_iff_lt, Int.not_lt, Int.not_le] at h6b
      have h6n : k ≥ ((w.gPackages[i]).gFunctions).length := by omega
      refine AWP.exit ?_
      refine AWP.region_lit ?_
      refine AL.cons rfl (AOp.addI rfl rfl rfl rfl (c := ((i + 1 : Nat) : Int)) (by omega) (by omega)) ?_
      refine AL.cons rfl (AOp.move (.inl rfl) rfl rfl) ?_
      refine AL.nil ?_
      refine ⟨i + 1, ?_, ?_, ?_⟩
      · exact ⟨by omega, findP_miss (by omega) hi2 hk2 (by omega)⟩
      · skip
        exact Wk.mk (StLe.mk' ⟨⟨rfl, by (repeat' (first | exact PV.Le.refl _ | exact LeL.nil | exact PV.Le.nil _ | exact PV.Le.acc _ _ _ | apply LeL.cons | apply PV.Le.agg | apply PV.Le.tup)), rfl⟩, ⟨⟨rfl, by (repeat' (first | exact PV.Le.refl _ | exact LeL.nil | exact PV.Le.nil _ | exact PV.Le.acc _ _ _ | apply LeL.cons | apply PV.Le.agg | apply PV.Le.tup)), rfl⟩, trivial⟩⟩ rfl) (keeps_nil hC) ⟨⟨_, rfl, .refl _, rfl⟩, ⟨⟨_, rfl, .refl _, rfl⟩, ⟨⟨_, rfl, .refl _, rfl⟩, ⟨⟨_, rfl, .refl _, rfl⟩, ⟨⟨_, rfl, .refl _, rfl⟩, ⟨⟨_, rfl, .refl _, rfl⟩, ⟨⟨_, rfl, by (repeat' (first | exact PV.Le.refl _ | exact LeL.nil | exact PV.Le.nil _ | exact PV.Le.acc _ _ _ | apply LeL.cons | apply PV.Le.agg | apply PV.Le.tup)), rfl⟩, trivial⟩⟩⟩⟩⟩⟩⟩
      · omega
  · skip
    have h3b := h3
    try simp only [Bool.and_eq_true, Bool.or_eq_true, Bool.and_eq_false_iff, Bool.or_eq_false_iff, decide_eq_true_eq, decide_eq_false_iff_not, Bool.not_eq_true', Bool.not_eq_false', Bool.not_eq_eq_eq_not, Bool.not_true, Bool.not_false, ge_iff_le, gt_iff_lt, Int.not_lt, Int.not_le] at h3b
    have h3n : i ≥ w.gPackages.length := by omega
    refine AWP.exit ?_
    refine AWP.seq ?_
    refine AWP.region_lit ?_
    refine AL.cons rfl (AOp.build rfl rfl zr105 pl105 rfl rfl) ?_
    refine AL.cons rfl (AOp.storePtr (cs := [.t (.leaf (.string (⟨#[]⟩))), .nil, .nil, .nil, .t (.leaf (.int .i64 (0))), .t (.leaf (.string (⟨#[]⟩))), .nil, .t (.leaf (.int .i64 (0))), .t (.leaf (.string (⟨#[]⟩))), .t (.leaf (.string (⟨#[]⟩))), .t (.leaf (.int .i64 (0))), .t (.leaf (.int .i64 (0))), .t (.leaf (.string (⟨#[]⟩))), .nil, .nil, .nil]) (ds := [.t (.leaf (.string (⟨#[]⟩))), .nil, .nil, .nil, .t (.leaf (.int .i64 (0))), .t (.leaf (.string (⟨#[]⟩))), .nil, .t (.leaf (.int .i64 (0))), .t (.leaf (.string (⟨#[]⟩))), .t (.leaf (.string (⟨#[]⟩))), .t (.leaf (.int .i64 (0))), .t (.leaf (.int .i64 (0))), .t (.leaf (.string (⟨#[]⟩))), .nil, .nil, .nil]) rfl rfl rfl rfl rfl rfl rfl sz105 (Nat.le_of_ble_eq_true rfl) rfl) ?_
    refine AL.cons rfl (AOp.move (.inr rfl) rfl rfl) ?_
    refine AL.cons rfl (AOp.move (.inr rfl) rfl rfl) ?_
    refine AL.nil ?_
    refine AWP.ret ?_
    exact Ends.mk (ps := [_, _, _]) (.inr rfl) ⟨⟨_, _, _, rfl, rfl, sh105, rfl, rfl⟩, rfl, rfl, trivial⟩ rfl (StLe.mk' (st' := ⟨[], []⟩) trivial rfl) (keeps_nil hC) (q := PV.tup [GFunction.pv GFunction.zero, .t (.leaf (.int .i64 (0))), .t (.leaf (.bool (false)))]) (by (repeat' (first | exact PV.Le.refl _ | exact LeL.nil | exact PV.Le.nil _ | exact PV.Le.acc _ _ _ | apply LeL.cons | apply PV.Le.agg | apply PV.Le.tup))) rfl ⟨by exact optFunction_none (findP_end hi2 (by omega)), rfl⟩

set_option maxRecDepth 100000 in
set_option maxHeartbeats 4000000 in
theorem function_spec (w : GProgram) (s : ByteArray) : AFun Tryz.prog 125 [(GProgram.pv w), .t (.leaf (.string (s)))] (.tup [(GFunction.pv (oFunction (w.functionAt s))), .t (.leaf (.int .i64 (oInt (w.functionAt s)))), .t (.leaf (.bool ((w.functionAt s).isSome)))]) := by
  refine ACalls.intro Tryz.func125 rfl (by first | decide | (simp; done) | (simp; decide)) ?_
  intro C hC
  refine AWP.seq ?_
  refine AWP.region_lit ?_
  refine AL.cons rfl (AOp.box (cs := [.t (.row 6 (GPackage.trs (w.gPackages)))]) rfl rfl rfl rfl rfl) ?_
  refine AL.cons rfl (AOp.alloc rfl rfl zr105) ?_
  refine AL.cons rfl (AOp.move (.inr rfl) rfl rfl) ?_
  refine AL.cons rfl (AOp.move (.inr rfl) rfl rfl) ?_
  refine AL.nil ?_
  refine AWP.seq ?_
  refine AWP.seq ?_
  refine AWP.region_lit ?_
  refine AL.cons rfl (AOp.move (.inr rfl) rfl rfl) ?_
  refine AL.nil ?_
  refine AWP.block ?_
  refine AWP.loopJ (ι := Nat) (fun i => i ≤ w.gPackages.length ∧ findP GFunction.gName GPackage.gFunctions s 0 w.gPackages = findP GFunction.gName GPackage.gFunctions s i (w.gPackages.drop i)) (fun i => ⟨[(0, (GProgram.pv w)), (1, .t (.leaf (.string (s)))), (2, .ptr 0 0), (4, .ptr 1 0), (7, .t (.leaf (.int .i64 (((i : Nat) : Int)))))], ⟨[some ⟨31, [.t (.row 6 (GPackage.trs (w.gPackages)))]⟩, some ⟨105, [.t (.leaf (.string (⟨#[]⟩))), .nil, .nil, .nil, .t (.leaf (.int .i64 (0))), .t (.leaf (.string (⟨#[]⟩))), .nil, .t (.leaf (.int .i64 (0))), .t (.leaf (.string (⟨#[]⟩))), .t (.leaf (.string (⟨#[]⟩))), .t (.leaf (.int .i64 (0))), .t (.leaf (.int .i64 (0))), .t (.leaf (.string (⟨#[]⟩))), .nil, .nil, .nil]⟩], []⟩⟩) (fun i => w.gPackages.length - i) 0 ?_ ?_ ?_
  · exact ⟨Nat.zero_le _, rfl⟩
  · skip
    exact Wk.mk (StLe.mk' ⟨⟨rfl, by (repeat' (first | exact PV.Le.refl _ | exact LeL.nil | exact PV.Le.nil _ | exact PV.Le.acc _ _ _ | apply LeL.cons | apply PV.Le.agg | apply PV.Le.tup)), rfl⟩, ⟨⟨rfl, by (repeat' (first | exact PV.Le.refl _ | exact LeL.nil | exact PV.Le.nil _ | exact PV.Le.acc _ _ _ | apply LeL.cons | apply PV.Le.agg | apply PV.Le.tup)), rfl⟩, trivial⟩⟩ rfl) (keeps_nil hC) ⟨⟨_, rfl, .refl _, rfl⟩, ⟨⟨_, rfl, .refl _, rfl⟩, ⟨⟨_, rfl, .refl _, rfl⟩, ⟨⟨_, rfl, .refl _, rfl⟩, ⟨⟨_, rfl, by (repeat' (first | exact PV.Le.refl _ | exact LeL.nil | exact PV.Le.nil _ | exact PV.Le.acc _ _ _ | apply LeL.cons | apply PV.Le.agg | apply PV.Le.tup)), rfl⟩, trivial⟩⟩⟩⟩⟩
  rintro i hJ1
  obtain ⟨hi1, hi2⟩ := hJ1
  refine AWP.seq ?_
  refine AWP.seq ?_
  refine AWP.region_lit ?_
  refine AL.cons rfl (AOp.move (.inl rfl) rfl rfl) ?_
  refine AL.cons rfl (AOp.fieldPtr (k := 0) (d := 0) (e := 0) rfl rfl rfl fo31_0) ?_
  refine AL.cons rfl (AOp.loadPtr1 rfl rfl rfl rfl sh29 rfl) ?_
  refine AL.fact (lk_lenN 11 rfl rfl (GPackage.trs_len _)) (fun hl2 => ?_)
  refine AL.cons rfl (AOp.lenN rfl rfl rfl rfl el29 (GPackage.trs_len _)) ?_
  refine AL.cons rfl (AOp.lss rfl rfl rfl rfl) ?_
  refine AL.nil ?_
  refine AWP.cond rfl (fun h3 => ?_) (fun h3 => ?_)
  · skip
    have h3b := h3
    try simp only [Bool.and_eq_true, Bool.or_eq_true, Bool.and_eq_false_iff, Bool.or_eq_false_iff, decide_eq_true_eq, decide_eq_false_iff_not, Bool.not_eq_true', Bool.not_eq_false', Bool.not_eq_eq_eq_not, Bool.not_true, Bool.not_false, ge_iff_le, gt_iff_lt, Int.not_lt, Int.not_le] at h3b
    have h3n : i < w.gPackages.length := by omega
    refine AWP.skip ?_
    refine AWP.seq ?_
    refine AWP.block ?_
    refine AWP.seq ?_
    refine AWP.region_lit ?_
    refine AL.cons rfl (AOp.move (.inr rfl) rfl rfl) ?_
    refine AL.nil ?_
    refine AWP.block ?_
    refine AWP.loopJ (ι := Nat) (fun k => k ≤ (w.gPackages[i]).gFunctions.length ∧ (w.gPackages[i]).gFunctions.find? (fun x => decide (GFunction.gName x = s)) = ((w.gPackages[i]).gFunctions.drop k).find? (fun x => decide (GFunction.gName x = s))) (fun k => ⟨[(0, (GProgram.pv w)), (1, .t (.leaf (.string (s)))), (2, .ptr 0 0), (4, .ptr 1 0), (7, .t (.leaf (.int .i64 (((i : Nat) : Int))))), (8, .t (.leaf (.int .i64 (((k : Nat) : Int)))))], ⟨[some ⟨31, [.t (.row 6 (GPackage.trs (w.gPackages)))]⟩, some ⟨105, [.t (.leaf (.string (⟨#[]⟩))), .nil, .nil, .nil, .t (.leaf (.int .i64 (0))), .t (.leaf (.string (⟨#[]⟩))), .nil, .t (.leaf (.int .i64 (0))), .t (.leaf (.string (⟨#[]⟩))), .t (.leaf (.string (⟨#[]⟩))), .t (.leaf (.int .i64 (0))), .t (.leaf (.int .i64 (0))), .t (.leaf (.string (⟨#[]⟩))), .nil, .nil, .nil]⟩], []⟩⟩) (fun k => (w.gPackages[i]).gFunctions.length - k) 0 ?_ ?_ ?_
    · exact ⟨Nat.zero_le _, rfl⟩
    · skip
      exact Wk.mk (StLe.mk' ⟨⟨rfl, by (repeat' (first | exact PV.Le.refl _ | exact LeL.nil | exact PV.Le.nil _ | exact PV.Le.acc _ _ _ | apply LeL.cons | apply PV.Le.agg | apply PV.Le.tup)), rfl⟩, ⟨⟨rfl, by (repeat' (first | exact PV.Le.refl _ | exact LeL.nil | exact PV.Le.nil _ | exact PV.Le.acc _ _ _ | apply LeL.cons | apply PV.Le.agg | apply PV.Le.tup)), rfl⟩, trivial⟩⟩ rfl) (keeps_nil hC) ⟨⟨_, rfl, .refl _, rfl⟩, ⟨⟨_, rfl, .refl _, rfl⟩, ⟨⟨_, rfl, .refl _, rfl⟩, ⟨⟨_, rfl, .refl _, rfl⟩, ⟨⟨_, rfl, .refl _, rfl⟩, ⟨⟨_, rfl, by (repeat' (first | exact PV.Le.refl _ | exact LeL.nil | exact PV.Le.nil _ | exact PV.Le.acc _ _ _ | apply LeL.cons | apply PV.Le.agg | apply PV.Le.tup)), rfl⟩, trivial⟩⟩⟩⟩⟩⟩
    rintro k hJ4
    obtain ⟨hk1, hk2⟩ := hJ4
    refine AWP.seq ?_
    refine AWP.seq ?_
    refine AWP.region_lit ?_
    refine AL.cons rfl (AOp.move (.inl rfl) rfl rfl) ?_
    refine AL.cons rfl (AOp.fieldPtr (k := 0) (d := 0) (e := 0) rfl rfl rfl fo31_0) ?_
    refine AL.cons rfl (AOp.loadPtr1 rfl rfl rfl rfl sh29 rfl) ?_
    refine AL.cons rfl (AOp.move (.inl rfl) rfl rfl) ?_
    refine AL.cons rfl (AOp.index (k := i) rfl rfl rfl rfl rfl (GPackage.trs_cs h3n) el29) ?_
    refine AL.cons rfl (AOp.fieldEptr (cs := (GPackage.cs (w.gPackages[i]))) (e := 5) rfl rfl rfl fo126_5) ?_
    refine AL.cons rfl (AOp.loadEptr1 (d := .row 16 (GFunction.trs ((w.gPackages[i]).gFunctions))) rfl rfl rfl sh124 rfl) ?_
    refine AL.fact (lk_lenN 22 rfl rfl (GFunction.trs_len _)) (fun hl5 => ?_)
    refine AL.cons rfl (AOp.lenN rfl rfl rfl rfl el124 (GFunction.trs_len _)) ?_
    refine AL.cons rfl (AOp.lss rfl rfl rfl rfl) ?_
    refine AL.nil ?_
    refine AWP.cond rfl (fun h6 => ?_) (fun h6 => ?_)
    · skip
      have h6b := h6
      try simp only [Bool.and_eq_true, Bool.or_eq_true, Bool.and_eq_false_iff, Bool.or_eq_false_iff, decide_eq_true_eq, decide_eq_false_iff_not, Bool.not_eq_true', Bool.not_eq_false', Bool.not_eq_eq_eq_not, Bool.not_true, Bool.not_false, ge_iff_le, gt_iff_lt, Int.not_lt, Int.not_le] at h6b
      have h6n : k < ((w.gPackages[i]).gFunctions).length := by omega
      refine AWP.skip ?_
      refine AWP.seq ?_
      refine AWP.block ?_
      refine AWP.seq ?_
      refine AWP.region_lit ?_
      refine AL.cons rfl (AOp.fieldPtr (k := 0) (d := 0) (e := 0) rfl rfl rfl fo31_0) ?_
      refine AL.cons rfl (AOp.loadPtr1 rfl rfl rfl rfl sh29 rfl) ?_
      refine AL.cons rfl (AOp.move (.inl rfl) rfl rfl) ?_
      refine AL.cons rfl (AOp.index (k := i) rfl rfl rfl rfl rfl (GPackage.trs_cs h3n) el29) ?_
      refine AL.cons rfl (AOp.fieldEptr (cs := (GPackage.cs (w.gPackages[i]))) (e := 5) rfl rfl rfl fo126_5) ?_
      refine AL.cons rfl (AOp.loadEptr1 (d := .row 16 (GFunction.trs ((w.gPackages[i]).gFunctions))) rfl rfl rfl sh124 rfl) ?_
      refine AL.cons rfl (AOp.move (.inl rfl) rfl rfl) ?_
      refine AL.cons rfl (AOp.index (k := k) rfl rfl rfl rfl rfl (GFunction.trs_cs h6n) el124) ?_
      refine AL.cons rfl (AOp.fieldEptr (cs := (GFunction.cs (((w.gPackages[i]).gFunctions)[k]))) (e := 0) rfl rfl rfl fo105_0) ?_
      refine AL.cons rfl (AOp.loadEptr1 (d := .leaf (.string ((((w.gPackages[i]).gFunctions)[k]).gName))) rfl rfl rfl sh9 rfl) ?_
      refine AL.cons rfl (AOp.move (.inl rfl) rfl rfl) ?_
      refine AL.cons rfl (AOp.eqlS rfl rfl rfl rfl) ?_
      refine AL.nil ?_
      refine AWP.cond rfl (fun h7 => ?_) (fun h7 => ?_)
      · skip
        have h7b := h7
        try simp only [Bool.and_eq_true, Bool.or_eq_true, Bool.and_eq_false_iff, Bool.or_eq_false_iff, decide_eq_true_eq, decide_eq_false_iff_not, Bool.not_eq_true', Bool.not_eq_false', Bool.not_eq_eq_eq_not, Bool.not_true, Bool.not_false, ge_iff_le, gt_iff_lt, Int.not_lt, Int.not_le] at h7b
        refine AWP.seq ?_
        refine AWP.region_lit ?_
        refine AL.cons rfl (AOp.fieldPtr (k := 0) (d := 0) (e := 0) rfl rfl rfl fo31_0) ?_
        refine AL.cons rfl (AOp.loadPtr1 rfl rfl rfl rfl sh29 rfl) ?_
        refine AL.cons rfl (AOp.move (.inl rfl) rfl rfl) ?_
        refine AL.cons rfl (AOp.index (k := i) rfl rfl rfl rfl rfl (GPackage.trs_cs h3n) el29) ?_
        refine AL.cons rfl (AOp.fieldEptr (cs := (GPackage.cs (w.gPackages[i]))) (e := 5) rfl rfl rfl fo126_5) ?_
        refine AL.cons rfl (AOp.loadEptr1 (d := .row 16 (GFunction.trs ((w.gPackages[i]).gFunctions))) rfl rfl rfl sh124 rfl) ?_
        refine AL.cons rfl (AOp.move (.inl rfl) rfl rfl) ?_
        refine AL.cons rfl (AOp.index (k := k) rfl rfl rfl rfl rfl (GFunction.trs_cs h6n) el124) ?_
        refine AL.cons rfl (AOp.loadEptr (ds := [.leaf (.string ((((w.gPackages[i]).gFunctions)[k]).gName)), .row 1 (strTrs ((((w.gPackages[i]).gFunctions)[k]).gVars)), .row 4 (GBound.trs ((((w.gPackages[i]).gFunctions)[k]).gWhere)), .row 4 (GParam.trs ((((w.gPackages[i]).gFunctions)[k]).gParams)), .leaf (.int .i64 ((((w.gPackages[i]).gFunctions)[k]).gResult.gKind)), .leaf (.string ((((w.gPackages[i]).gFunctions)[k]).gResult.gName)), .row 3 (GType.trs ((((w.gPackages[i]).gFunctions)[k]).gResult.gArgs)), .leaf (.int .i64 ((((w.gPackages[i]).gFunctions)[k]).gBody.gKind)), .leaf (.string ((((w.gPackages[i]).gFunctions)[k]).gBody.gTrait)), .leaf (.string ((((w.gPackages[i]).gFunctions)[k]).gBody.gName)), .leaf (.int .i64 ((((w.gPackages[i]).gFunctions)[k]).gBody.gN)), .leaf (.int .i64 ((((w.gPackages[i]).gFunctions)[k]).gBody.gType.gKind)), .leaf (.string ((((w.gPackages[i]).gFunctions)[k]).gBody.gType.gName)), .row 3 (GType.trs ((((w.gPackages[i]).gFunctions)[k]).gBody.gType.gArgs)), .row 9 (GExpr.trs ((((w.gPackages[i]).gFunctions)[k]).gBody.gArgs)), .row 11 (GArm.trs ((((w.gPackages[i]).gFunctions)[k]).gBody.gArms))]) rfl rfl rfl sh105 rfl rfl) ?_
        refine AL.cons rfl (AOp.move (.inl rfl) rfl rfl) ?_
        refine AL.cons rfl (AOp.storePtr (cs := [.t (.leaf (.string ((((w.gPackages[i]).gFunctions)[k]).gName))), .t (.row 1 (strTrs ((((w.gPackages[i]).gFunctions)[k]).gVars))), .t (.row 4 (GBound.trs ((((w.gPackages[i]).gFunctions)[k]).gWhere))), .t (.row 4 (GParam.trs ((((w.gPackages[i]).gFunctions)[k]).gParams))), .t (.leaf (.int .i64 ((((w.gPackages[i]).gFunctions)[k]).gResult.gKind))), .t (.leaf (.string ((((w.gPackages[i]).gFunctions)[k]).gResult.gName))), .t (.row 3 (GType.trs ((((w.gPackages[i]).gFunctions)[k]).gResult.gArgs))), .t (.leaf (.int .i64 ((((w.gPackages[i]).gFunctions)[k]).gBody.gKind))), .t (.leaf (.string ((((w.gPackages[i]).gFunctions)[k]).gBody.gTrait))), .t (.leaf (.string ((((w.gPackages[i]).gFunctions)[k]).gBody.gName))), .t (.leaf (.int .i64 ((((w.gPackages[i]).gFunctions)[k]).gBody.gN))), .t (.leaf (.int .i64 ((((w.gPackages[i]).gFunctions)[k]).gBody.gType.gKind))), .t (.leaf (.string ((((w.gPackages[i]).gFunctions)[k]).gBody.gType.gName))), .t (.row 3 (GType.trs ((((w.gPackages[i]).gFunctions)[k]).gBody.gType.gArgs))), .t (.row 9 (GExpr.trs ((((w.gPackages[i]).gFunctions)[k]).gBody.gArgs))), .t (.row 11 (GArm.trs ((((w.gPackages[i]).gFunctions)[k]).gBody.gArms)))]) (ds := [.t (.leaf (.string ((((w.gPackages[i]).gFunctions)[k]).gName))), .t (.row 1 (strTrs ((((w.gPackages[i]).gFunctions)[k]).gVars))), .t (.row 4 (GBound.trs ((((w.gPackages[i]).gFunctions)[k]).gWhere))), .t (.row 4 (GParam.trs ((((w.gPackages[i]).gFunctions)[k]).gParams))), .t (.leaf (.int .i64 ((((w.gPackages[i]).gFunctions)[k]).gResult.gKind))), .t (.leaf (.string ((((w.gPackages[i]).gFunctions)[k]).gResult.gName))), .t (.row 3 (GType.trs ((((w.gPackages[i]).gFunctions)[k]).gResult.gArgs))), .t (.leaf (.int .i64 ((((w.gPackages[i]).gFunctions)[k]).gBody.gKind))), .t (.leaf (.string ((((w.gPackages[i]).gFunctions)[k]).gBody.gTrait))), .t (.leaf (.string ((((w.gPackages[i]).gFunctions)[k]).gBody.gName))), .t (.leaf (.int .i64 ((((w.gPackages[i]).gFunctions)[k]).gBody.gN))), .t (.leaf (.int .i64 ((((w.gPackages[i]).gFunctions)[k]).gBody.gType.gKind))), .t (.leaf (.string ((((w.gPackages[i]).gFunctions)[k]).gBody.gType.gName))), .t (.row 3 (GType.trs ((((w.gPackages[i]).gFunctions)[k]).gBody.gType.gArgs))), .t (.row 9 (GExpr.trs ((((w.gPackages[i]).gFunctions)[k]).gBody.gArgs))), .t (.row 11 (GArm.trs ((((w.gPackages[i]).gFunctions)[k]).gBody.gArms)))]) rfl rfl rfl rfl rfl rfl rfl sz105 (Nat.le_of_ble_eq_true rfl) rfl) ?_
        refine AL.cons rfl (AOp.move (.inr rfl) rfl rfl) ?_
        refine AL.cons rfl (AOp.move (.inr rfl) rfl rfl) ?_
        refine AL.nil ?_
        refine AWP.ret ?_
        exact Ends.mk (ps := [_, _, _]) (.inr rfl) ⟨⟨_, _, _, rfl, rfl, sh105, rfl, rfl⟩, rfl, rfl, trivial⟩ rfl (StLe.mk' (st' := ⟨[], []⟩) trivial rfl) (keeps_nil hC) (q := (.tup [(GFunction.pv (((w.gPackages[i]).gFunctions)[k])), .t (.leaf (.int .i64 (((i : Nat) : Int)))), .t (.leaf (.bool (true)))] : PV)) (by (repeat' (first | exact PV.Le.refl _ | exact LeL.nil | exact PV.Le.nil _ | exact PV.Le.acc _ _ _ | apply LeL.cons | apply PV.Le.agg | apply PV.Le.tup))) rfl ⟨by exact optFunction_some (findP_hit (by omega) (by omega) hi2 hk2 (by assumption)), rfl⟩
      · skip
        have h7b := h7
        try simp only [Bool.and_eq_true, Bool.or_eq_true, Bool.and_eq_false_iff, Bool.or_eq_false_iff, decide_eq_true_eq, decide_eq_false_iff_not, Bool.not_eq_true', Bool.not_eq_false', Bool.not_eq_eq_eq_not, Bool.not_true, Bool.not_false, ge_iff_le, gt_iff_lt, Int.not_lt, Int.not_le] at h7b
        refine AWP.skip ?_
        refine AWP.region_lit ?_
        refine AL.cons rfl (AOp.move (.inl rfl) rfl rfl) ?_
        refine AL.cons rfl (AOp.addI rfl rfl rfl rfl (c := ((k + 1 : Nat) : Int)) (by omega) (by omega)) ?_
        refine AL.cons rfl (AOp.move (.inr rfl) rfl rfl) ?_
        refine AL.nil ?_
        refine ⟨k + 1, ?_, ?_, ?_⟩
        · exact ⟨by omega, findP_next (by omega) hk2 (by assumption)⟩
        · skip
          exact Wk.mk (StLe.mk' ⟨⟨rfl, by (repeat' (first | exact PV.Le.refl _ | exact LeL.nil | exact PV.Le.nil _ | exact PV.Le.acc _ _ _ | apply LeL.cons | apply PV.Le.agg | apply PV.Le.tup)), rfl⟩, ⟨⟨rfl, by (repeat' (first | exact PV.Le.refl _ | exact LeL.nil | exact PV.Le.nil _ | exact PV.Le.acc _ _ _ | apply LeL.cons | apply PV.Le.agg | apply PV.Le.tup)), rfl⟩, trivial⟩⟩ rfl) (keeps_nil hC) ⟨⟨_, rfl, .refl _, rfl⟩, ⟨⟨_, rfl, .refl _, rfl⟩, ⟨⟨_, rfl, .refl _, rfl⟩, ⟨⟨_, rfl, .refl _, rfl⟩, ⟨⟨_, rfl, .refl _, rfl⟩, ⟨⟨_, rfl, by (repeat' (first | exact PV.Le.refl _ | exact LeL.nil | exact PV.Le.nil _ | exact PV.Le.acc _ _ _ | apply LeL.cons | apply PV.Le.agg | apply PV.Le.tup)), rfl⟩, trivial⟩⟩⟩⟩⟩⟩
        · omega
    · skip
      have h6b := h6
      try simp only [Bool.and_eq_true, Bool.or_eq_true, Bool.and_eq_false_iff, Bool.or_eq_false_iff, decide_eq_true_eq, decide_eq_false_iff_not, Bool.not_eq_true', Bool.not_eq_false', Bool.not_eq_eq_eq_not, Bool.not_true, Bool.not_false, ge_iff_le, gt_iff_lt, Int.not_lt, Int.not_le] at h6b
      have h6n : k ≥ ((w.gPackages[i]).gFunctions).length := by omega
      refine AWP.exit ?_
      refine AWP.region_lit ?_
      refine AL.cons rfl (AOp.move (.inl rfl) rfl rfl) ?_
      refine AL.cons rfl (AOp.addI rfl rfl rfl rfl (c := ((i + 1 : Nat) : Int)) (by omega) (by omega)) ?_
      refine AL.cons rfl (AOp.move (.inr rfl) rfl rfl) ?_
      refine AL.nil ?_
      refine ⟨i + 1, ?_, ?_, ?_⟩
      · exact ⟨by omega, findP_miss (by omega) hi2 hk2 (by omega)⟩
      · skip
        exact Wk.mk (StLe.mk' ⟨⟨rfl, by (repeat' (first | exact PV.Le.refl _ | exact LeL.nil | exact PV.Le.nil _ | exact PV.Le.acc _ _ _ | apply LeL.cons | apply PV.Le.agg | apply PV.Le.tup)), rfl⟩, ⟨⟨rfl, by (repeat' (first | exact PV.Le.refl _ | exact LeL.nil | exact PV.Le.nil _ | exact PV.Le.acc _ _ _ | apply LeL.cons | apply PV.Le.agg | apply PV.Le.tup)), rfl⟩, trivial⟩⟩ rfl) (keeps_nil hC) ⟨⟨_, rfl, .refl _, rfl⟩, ⟨⟨_, rfl, .refl _, rfl⟩, ⟨⟨_, rfl, .refl _, rfl⟩, ⟨⟨_, rfl, .refl _, rfl⟩, ⟨⟨_, rfl, by (repeat' (first | exact PV.Le.refl _ | exact LeL.nil | exact PV.Le.nil _ | exact PV.Le.acc _ _ _ | apply LeL.cons | apply PV.Le.agg | apply PV.Le.tup)), rfl⟩, trivial⟩⟩⟩⟩⟩
      · omega
  · skip
    have h3b := h3
    try simp only [Bool.and_eq_true, Bool.or_eq_true, Bool.and_eq_false_iff, Bool.or_eq_false_iff, decide_eq_true_eq, decide_eq_false_iff_not, Bool.not_eq_true', Bool.not_eq_false', Bool.not_eq_eq_eq_not, Bool.not_true, Bool.not_false, ge_iff_le, gt_iff_lt, Int.not_lt, Int.not_le] at h3b
    have h3n : i ≥ w.gPackages.length := by omega
    refine AWP.exit ?_
    refine AWP.seq ?_
    refine AWP.region_lit ?_
    refine AL.cons rfl (AOp.build rfl rfl zr105 pl105 rfl rfl) ?_
    refine AL.cons rfl (AOp.storePtr (cs := [.t (.leaf (.string (⟨#[]⟩))), .nil, .nil, .nil, .t (.leaf (.int .i64 (0))), .t (.leaf (.string (⟨#[]⟩))), .nil, .t (.leaf (.int .i64 (0))), .t (.leaf (.string (⟨#[]⟩))), .t (.leaf (.string (⟨#[]⟩))), .t (.leaf (.int .i64 (0))), .t (.leaf (.int .i64 (0))), .t (.leaf (.string (⟨#[]⟩))), .nil, .nil, .nil]) (ds := [.t (.leaf (.string (⟨#[]⟩))), .nil, .nil, .nil, .t (.leaf (.int .i64 (0))), .t (.leaf (.string (⟨#[]⟩))), .nil, .t (.leaf (.int .i64 (0))), .t (.leaf (.string (⟨#[]⟩))), .t (.leaf (.string (⟨#[]⟩))), .t (.leaf (.int .i64 (0))), .t (.leaf (.int .i64 (0))), .t (.leaf (.string (⟨#[]⟩))), .nil, .nil, .nil]) rfl rfl rfl rfl rfl rfl rfl sz105 (Nat.le_of_ble_eq_true rfl) rfl) ?_
    refine AL.cons rfl (AOp.move (.inr rfl) rfl rfl) ?_
    refine AL.cons rfl (AOp.move (.inr rfl) rfl rfl) ?_
    refine AL.nil ?_
    refine AWP.ret ?_
    exact Ends.mk (ps := [_, _, _]) (.inr rfl) ⟨⟨_, _, _, rfl, rfl, sh105, rfl, rfl⟩, rfl, rfl, trivial⟩ rfl (StLe.mk' (st' := ⟨[], []⟩) trivial rfl) (keeps_nil hC) (q := PV.tup [GFunction.pv GFunction.zero, .t (.leaf (.int .i64 (0))), .t (.leaf (.bool (false)))]) (by (repeat' (first | exact PV.Le.refl _ | exact LeL.nil | exact PV.Le.nil _ | exact PV.Le.acc _ _ _ | apply LeL.cons | apply PV.Le.agg | apply PV.Le.tup))) rfl ⟨by exact optFunction_none (findP_end hi2 (by omega)), rfl⟩

end Go.Proofs.YtnakkelglbcecaaGreat

namespace Go.Proofs.YtnakkelglbcecaaGreat
open Go.RowKit Go.Proofs
set_option linter.unusedSimpArgs false
set_option linter.unusedVariables false


instance memDec (s : ByteArray) (l : List ByteArray) : Decidable (s ∈ l) := decidable_of_iff (l.any (fun x => decide (x = s)) = true) (by simp)
def idxS (l : List ByteArray) (s : ByteArray) : Int := match l.findIdx? (fun x => decide (x = s)) with | some i => (i : Int) | none => -1
theorem idxS_hit {l : List ByteArray} {s : ByteArray} {i : Nat} (h : i < l.length) (hm : ∀ (j : Nat) (hj : j < l.length), j < i → ¬ l[j] = s) (he : l[i] = s) : idxS l s = (i : Int) := by
  have : l.findIdx? (fun x => decide (x = s)) = some i := by
    rw [List.findIdx?_eq_some_iff_getElem]
    exact ⟨h, by simpa using he, fun j hj => by simpa using hm j (by omega) hj⟩
  simp [idxS, this]
theorem idxS_miss {l : List ByteArray} {s : ByteArray} (hm : ∀ (j : Nat) (hj : j < l.length), ¬ l[j] = s) : idxS l s = -1 := by
  have : l.findIdx? (fun x => decide (x = s)) = none := by
    rw [List.findIdx?_eq_none_iff]
    intro x hx
    obtain ⟨j, hj, rfl⟩ := List.mem_iff_getElem.1 hx
    simpa using hm j hj
  simp [idxS, this]
theorem idxS_mem (l : List ByteArray) (s : ByteArray) : decide (idxS l s ≥ 0) = decide (s ∈ l) := by
  by_cases h : s ∈ l
  · cases hq : l.findIdx? (fun x => decide (x = s)) with
    | none =>
      rw [List.findIdx?_eq_none_iff] at hq
      have := hq s h
      simp at this
    | some i => simp [idxS, hq, h]
  · have : l.findIdx? (fun x => decide (x = s)) = none := by
      rw [List.findIdx?_eq_none_iff]
      intro x hx
      simp only [decide_eq_false_iff_not]
      rintro rfl
      exact h hx
    simp [idxS, this, h]
theorem mem_hit {l : List ByteArray} {s : ByteArray} {i : Nat} (h : i < l.length) (he : l[i] = s) : decide (s ∈ l) = true := by
  subst he
  simp
theorem mem_miss {l : List ByteArray} {s : ByteArray} (hm : ∀ (j : Nat) (hj : j < l.length), ¬ l[j] = s) : decide (s ∈ l) = false := by
  simp only [decide_eq_false_iff_not]
  intro h
  obtain ⟨j, hj, he⟩ := List.mem_iff_getElem.1 h
  exact hm j hj he
theorem miss_next {l : List ByteArray} {s : ByteArray} {i : Nat} (hm : ∀ (j : Nat) (hj : j < l.length), j < i → ¬ l[j] = s) (h : i < l.length) (he : ¬ l[i] = s) : ∀ (j : Nat) (hj : j < l.length), j < i + 1 → ¬ l[j] = s := fun j hj hji => by
  rcases Nat.lt_or_ge j i with h1 | h1
  · exact hm j hj h1
  · have : j = i := by omega
    subst this
    exact he

theorem findP_mem {α : Type} {key : α → ByteArray} {items : GPackage → List α} {s : ByteArray} {x : α × Nat} : ∀ {ps : List GPackage} {i : Nat}, findP key items s i ps = some x → ∃ p ∈ ps, x.1 ∈ items p
  | [], _, h => by simp [findP] at h
  | p :: ps, i, h => by
    rw [findP] at h
    split at h
    · rename_i y hy
      cases h
      exact ⟨p, by simp, List.mem_of_find?_eq_some hy⟩
    · obtain ⟨q, hq, hx⟩ := findP_mem h
      exact ⟨q, by simp [hq], hx⟩
theorem traitAt_mem {w : GProgram} {s : ByteArray} {x : GTrait × Nat} (h : w.traitAt s = some x) : ∃ p ∈ w.gPackages, x.1 ∈ p.gTraits := findP_mem h

def GProgram.allSup (w : GProgram) : List ByteArray := (w.gPackages.flatMap (fun p => p.gTraits)).flatMap (fun t => t.gSupertraits)
def supM (w : GProgram) (out : List ByteArray) : Nat := w.allSup.countP (fun s => decide (¬ s ∈ out))
def supF (w : GProgram) : Nat → ByteArray → List ByteArray → List ByteArray
  | 0, _, out => out
  | n + 1, name, out => ((oTrait (w.traitAt name)).gSupertraits).foldl (fun o s => if s ∈ o then o else supF w n s (o ++ [s])) out
def GProgram.supers (w : GProgram) (name : ByteArray) : List ByteArray := supF w (supM w [] + 1) name []
theorem sup_mem {w : GProgram} {name s : ByteArray} (h : s ∈ (oTrait (w.traitAt name)).gSupertraits) : s ∈ w.allSup := by
  cases hq : w.traitAt name with
  | none =>
    rw [hq] at h
    simp [oTrait, GTrait.zero] at h
  | some x =>
    rw [hq] at h
    have h : s ∈ x.1.gSupertraits := h
    have hm : ∃ p ∈ w.gPackages, x.1 ∈ p.gTraits := traitAt_mem hq
    obtain ⟨p, hp, hx⟩ := hm
    exact List.mem_flatMap.2 ⟨x.1, List.mem_flatMap.2 ⟨p, hp, hx⟩, h⟩
theorem countP_lt {α : Type} {p q : α → Bool} {l : List α} (h : ∀ x, q x = true → p x = true) {a : α} (ha : a ∈ l) (hp : p a = true) (hq : q a = false) : l.countP q + 1 ≤ l.countP p := by
  induction l with
  | nil => cases ha
  | cons b l ih =>
    rw [List.countP_cons, List.countP_cons]
    have hle : l.countP q ≤ l.countP p := List.countP_mono_left fun x _ => h x
    rcases List.mem_cons.1 ha with rfl | ha
    · simp [hp, hq]; omega
    · have := ih ha
      have : (if q b = true then 1 else 0) ≤ (if p b = true then 1 else 0) := by
        split
        · rw [if_pos (h b (by assumption))]; omega
        · omega
      omega
theorem sup_step {w : GProgram} {name : ByteArray} {o : List ByteArray} {s : ByteArray} (hs : s ∈ (oTrait (w.traitAt name)).gSupertraits) (hn : ¬ s ∈ o) : supM w (o ++ [s]) + 1 ≤ supM w o := by
  unfold supM
  refine countP_lt (fun x hx => ?_) (sup_mem hs) (by simpa using hn) (by simp)
  simp only [decide_eq_true_eq, List.mem_append, not_or] at hx ⊢
  exact hx.1
theorem supM_le {w : GProgram} (h : w.allSup.length ≤ 1099511627776) : ([] : List ByteArray).length + supM w [] ≤ 1099511627776 := by
  have := List.countP_le_length (p := fun s => decide (¬ s ∈ ([] : List ByteArray))) (l := w.allSup)
  unfold supM
  simp only [List.length_nil]
  omega
/-- What the run has put in stays within what there is. -/
theorem supF_inv (w : GProgram) : ∀ (n : Nat) (name : ByteArray) (out : List ByteArray), supM w (supF w n name out) ≤ supM w out ∧ (supF w n name out).length + supM w (supF w n name out) ≤ out.length + supM w out
  | 0, name, out => ⟨Nat.le_refl _, Nat.le_refl _⟩
  | n + 1, name, out => by
    rw [supF]
    have key : ∀ (l : List ByteArray) (o : List ByteArray), (∀ s ∈ l, s ∈ (oTrait (w.traitAt name)).gSupertraits) → supM w (l.foldl (fun o s => if s ∈ o then o else supF w n s (o ++ [s])) o) ≤ supM w o ∧ (l.foldl (fun o s => if s ∈ o then o else supF w n s (o ++ [s])) o).length + supM w (l.foldl (fun o s => if s ∈ o then o else supF w n s (o ++ [s])) o) ≤ o.length + supM w o := by
      intro l
      induction l with
      | nil => intro o _; exact ⟨Nat.le_refl _, Nat.le_refl _⟩
      | cons s l ih =>
        intro o hl
        rw [List.foldl_cons]
        have h1 := ih (if s ∈ o then o else supF w n s (o ++ [s])) (fun x hx => hl x (by simp [hx]))
        split at h1
        · rename_i hso
          rw [if_pos hso]
          exact h1
        · rename_i hso
          rw [if_neg hso]
          have h2 := supF_inv w n s (o ++ [s])
          have h3 := sup_step (w := w) (name := name) (hl s (by simp)) hso
          have h4 : (o ++ [s]).length = o.length + 1 := by simp
          omega
    exact key _ _ fun s hs => hs
theorem fold_next {α β : Type} {f : β → α → β} {o o' r : β} {l : List α} {i : Nat} (h : i < l.length) (hr : r = (l.drop i).foldl f o) (hs : f o l[i] = o') : r = (l.drop (i + 1)).foldl f o' := by
  rw [hr, List.drop_eq_getElem_cons h, List.foldl_cons, hs]
theorem fold_end {α β : Type} {f : β → α → β} {o r : β} {l : List α} {i : Nat} (h : l.length ≤ i) (hr : r = (l.drop i).foldl f o) : r = o := by
  rw [hr, List.drop_of_length_le h, List.foldl_nil]
theorem supJ_has {w : GProgram} {n : Nat} {name : ByteArray} {out o r : List ByteArray} {i : Nat} (h : i < (oTrait (w.traitAt name)).gSupertraits.length) (h2 : r = (((oTrait (w.traitAt name)).gSupertraits).drop i).foldl (fun o s => if s ∈ o then o else supF w n s (o ++ [s])) o)
    (h3 : supM w o ≤ supM w out) (h4 : o.length + supM w o ≤ out.length + supM w out) (hm : (oTrait (w.traitAt name)).gSupertraits[i] ∈ o) :
    i + 1 ≤ (oTrait (w.traitAt name)).gSupertraits.length ∧ r = (((oTrait (w.traitAt name)).gSupertraits).drop (i + 1)).foldl (fun o s => if s ∈ o then o else supF w n s (o ++ [s])) o ∧ supM w o ≤ supM w out ∧ o.length + supM w o ≤ out.length + supM w out :=
  ⟨h, fold_next h h2 (by simp [hm]), h3, h4⟩
theorem supJ_new {w : GProgram} {n : Nat} {name : ByteArray} {out o r : List ByteArray} {i : Nat} (h : i < (oTrait (w.traitAt name)).gSupertraits.length) (h2 : r = (((oTrait (w.traitAt name)).gSupertraits).drop i).foldl (fun o s => if s ∈ o then o else supF w n s (o ++ [s])) o)
    (h3 : supM w o ≤ supM w out) (h4 : o.length + supM w o ≤ out.length + supM w out) (hm : ¬ (oTrait (w.traitAt name)).gSupertraits[i] ∈ o) {o' : List ByteArray} (ho : supF w n (oTrait (w.traitAt name)).gSupertraits[i] (o ++ [(oTrait (w.traitAt name)).gSupertraits[i]]) = o') :
    i + 1 ≤ (oTrait (w.traitAt name)).gSupertraits.length ∧ r = (((oTrait (w.traitAt name)).gSupertraits).drop (i + 1)).foldl (fun o s => if s ∈ o then o else supF w n s (o ++ [s])) o' ∧ supM w o' ≤ supM w out ∧ o'.length + supM w o' ≤ out.length + supM w out := by
  have h5 := supF_inv w n (oTrait (w.traitAt name)).gSupertraits[i] (o ++ [(oTrait (w.traitAt name)).gSupertraits[i]])
  have h6 := sup_step (w := w) (name := name) (o := o) (List.getElem_mem h) hm
  have h7 : (o ++ [(oTrait (w.traitAt name)).gSupertraits[i]]).length = o.length + 1 := by simp
  subst ho
  exact ⟨h, fold_next h h2 (by simp [hm]), by omega, by omega⟩
theorem keeps_rows {C : Ctx} {r : PRow} {S : Sto} (h : C.st = ⟨[], [r]⟩) (hl : 1 ≤ S.rows.length) : Keeps0 C.st S := by
  rw [h]
  exact ⟨fun k x hx => by simp at hx, fun k row hk => by
    rcases k with _ | k
    · exact ⟨S.rows[0], List.getElem?_eq_getElem hl⟩
    · simp at hk⟩

set_option maxRecDepth 100000 in
set_option maxHeartbeats 4000000 in
theorem idxS_ok (l : List ByteArray) (s : ByteArray) : AFun Tryz.prog 196 [.t (.row 1 (strTrs (l))), .t (.leaf (.string (s)))] (.t (.leaf (.int .i64 (idxS l s)))) := by
  refine ACalls.intro Tryz.func196 rfl (by first | decide | (simp; done) | (simp; decide)) ?_
  intro C hC
  refine AWP.fact (lk_lenN 0 rfl rfl (strTrs_len _)) (fun hl1 => ?_)
  refine AWP.seq ?_
  refine AWP.region_lit ?_
  refine AL.cons rfl (AOp.move (.inr rfl) rfl rfl) ?_
  refine AL.nil ?_
  refine AWP.seq ?_
  refine AWP.seq ?_
  refine AWP.region_lit ?_
  refine AL.cons rfl (AOp.move (.inl rfl) rfl rfl) ?_
  refine AL.cons rfl (AOp.lenN rfl rfl rfl rfl el54 (strTrs_len _)) ?_
  refine AL.cons rfl (AOp.move (.inl rfl) rfl rfl) ?_
  refine AL.nil ?_
  refine AWP.block ?_
  refine AWP.loopJ (ι := Nat) (fun i => i ≤ l.length ∧ ∀ (j : Nat) (hj : j < l.length), j < i → ¬ l[j] = s) (fun i => ⟨[(0, .t (.row 1 (strTrs (l)))), (1, .t (.leaf (.string (s)))), (7, .t (.leaf (.int .i64 (((l.length : Nat) : Int))))), (8, .t (.leaf (.int .i64 (((i : Nat) : Int)))))], ⟨[], []⟩⟩) (fun i => l.length - i) 0 ?_ ?_ ?_
  · exact ⟨Nat.zero_le _, fun j hj h => absurd h (Nat.not_lt_zero _)⟩
  · skip
    exact Wk.mk (StLe.mk' trivial rfl) (keeps_nil hC) ⟨⟨_, rfl, .refl _, rfl⟩, ⟨⟨_, rfl, .refl _, rfl⟩, ⟨⟨_, rfl, .refl _, rfl⟩, ⟨⟨_, rfl, by (repeat' (first | exact PV.Le.refl _ | exact LeL.nil | exact PV.Le.nil _ | exact PV.Le.acc _ _ _ | apply LeL.cons | apply PV.Le.agg | apply PV.Le.tup)), rfl⟩, trivial⟩⟩⟩⟩
  rintro i hJ2
  obtain ⟨hi1, hi2⟩ := hJ2
  refine AWP.seq ?_
  refine AWP.region_lit ?_
  refine AL.cons rfl (AOp.lss rfl rfl rfl rfl) ?_
  refine AL.nil ?_
  refine AWP.seq ?_
  refine AWP.cond rfl (fun h3 => ?_) (fun h3 => ?_)
  · skip
    have h3b := h3
    try simp only [Bool.and_eq_true, Bool.or_eq_true, Bool.and_eq_false_iff, Bool.or_eq_false_iff, decide_eq_true_eq, decide_eq_false_iff_not, Bool.not_eq_true', Bool.not_eq_false', Bool.not_eq_eq_eq_not, Bool.not_true, Bool.not_false, ge_iff_le, gt_iff_lt, Int.not_lt, Int.not_le] at h3b
    have h3n : i < l.length := by omega
    refine AWP.skip ?_
    refine AWP.seq ?_
    refine AWP.block ?_
    refine AWP.seq ?_
    refine AWP.region_lit ?_
    refine AL.cons rfl (AOp.move (.inl rfl) rfl rfl) ?_
    refine AL.cons rfl (AOp.move (.inr rfl) rfl rfl) ?_
    refine AL.nil ?_
    refine AWP.seq ?_
    refine AWP.region_lit ?_
    refine AL.cons rfl (AOp.move (.inl rfl) rfl rfl) ?_
    refine AL.cons rfl (AOp.move (.inl rfl) rfl rfl) ?_
    refine AL.cons rfl (AOp.move (.inl rfl) rfl rfl) ?_
    refine AL.cons rfl (AOp.index (k := i) rfl rfl rfl rfl rfl (strTrs_cs h3n) el54) ?_
    refine AL.cons rfl (AOp.loadEptr1 (d := .leaf (.string (l[i]))) rfl rfl rfl sh9 rfl) ?_
    refine AL.cons rfl (AOp.eqlS rfl rfl rfl rfl) ?_
    refine AL.nil ?_
    refine AWP.cond rfl (fun h4 => ?_) (fun h4 => ?_)
    · skip
      have h4b := h4
      try simp only [Bool.and_eq_true, Bool.or_eq_true, Bool.and_eq_false_iff, Bool.or_eq_false_iff, decide_eq_true_eq, decide_eq_false_iff_not, Bool.not_eq_true', Bool.not_eq_false', Bool.not_eq_eq_eq_not, Bool.not_true, Bool.not_false, ge_iff_le, gt_iff_lt, Int.not_lt, Int.not_le] at h4b
      refine AWP.seq ?_
      refine AWP.region_lit ?_
      refine AL.cons rfl (AOp.move (.inl rfl) rfl rfl) ?_
      refine AL.cons rfl (AOp.move (.inr rfl) rfl rfl) ?_
      refine AL.nil ?_
      refine AWP.ret ?_
      exact Ends.mk (ps := [_]) (.inr rfl) ⟨rfl, trivial⟩ rfl (StLe.mk' (st' := ⟨[], []⟩) trivial rfl) (keeps_nil hC) (q := (.t (.leaf (.int .i64 (((i : Nat) : Int)))) : PV)) (by (repeat' (first | exact PV.Le.refl _ | exact LeL.nil | exact PV.Le.nil _ | exact PV.Le.acc _ _ _ | apply LeL.cons | apply PV.Le.agg | apply PV.Le.tup))) rfl ⟨by rw [idxS_hit (by omega) hi2 (by first | assumption | (apply Eq.symm; assumption))], rfl⟩
    · skip
      have h4b := h4
      try simp only [Bool.and_eq_true, Bool.or_eq_true, Bool.and_eq_false_iff, Bool.or_eq_false_iff, decide_eq_true_eq, decide_eq_false_iff_not, Bool.not_eq_true', Bool.not_eq_false', Bool.not_eq_eq_eq_not, Bool.not_true, Bool.not_false, ge_iff_le, gt_iff_lt, Int.not_lt, Int.not_le] at h4b
      refine AWP.skip ?_
      refine AWP.region_lit ?_
      refine AL.cons rfl (AOp.addI rfl rfl rfl rfl (c := ((i + 1 : Nat) : Int)) (by omega) (by omega)) ?_
      refine AL.cons rfl (AOp.move (.inl rfl) rfl rfl) ?_
      refine AL.nil ?_
      refine ⟨i + 1, ?_, ?_, ?_⟩
      · exact ⟨by omega, miss_next hi2 (by omega) (by first | assumption | (intro hx; exact absurd hx.symm (by assumption)))⟩
      · skip
        exact Wk.mk (StLe.mk' trivial rfl) (keeps_nil hC) ⟨⟨_, rfl, .refl _, rfl⟩, ⟨⟨_, rfl, .refl _, rfl⟩, ⟨⟨_, rfl, .refl _, rfl⟩, ⟨⟨_, rfl, by (repeat' (first | exact PV.Le.refl _ | exact LeL.nil | exact PV.Le.nil _ | exact PV.Le.acc _ _ _ | apply LeL.cons | apply PV.Le.agg | apply PV.Le.tup)), rfl⟩, trivial⟩⟩⟩⟩
      · omega
  · skip
    have h3b := h3
    try simp only [Bool.and_eq_true, Bool.or_eq_true, Bool.and_eq_false_iff, Bool.or_eq_false_iff, decide_eq_true_eq, decide_eq_false_iff_not, Bool.not_eq_true', Bool.not_eq_false', Bool.not_eq_eq_eq_not, Bool.not_true, Bool.not_false, ge_iff_le, gt_iff_lt, Int.not_lt, Int.not_le] at h3b
    have h3n : i ≥ l.length := by omega
    refine AWP.exit ?_
    refine AWP.seq ?_
    refine AWP.region_lit ?_
    refine AL.cons rfl (AOp.move (.inr rfl) rfl rfl) ?_
    refine AL.nil ?_
    refine AWP.ret ?_
    exact Ends.mk (ps := [_]) (.inr rfl) ⟨rfl, trivial⟩ rfl (StLe.mk' (st' := ⟨[], []⟩) trivial rfl) (keeps_nil hC) (q := (.t (.leaf (.int .i64 (-1))) : PV)) (by (repeat' (first | exact PV.Le.refl _ | exact LeL.nil | exact PV.Le.nil _ | exact PV.Le.acc _ _ _ | apply LeL.cons | apply PV.Le.agg | apply PV.Le.tup))) rfl ⟨by rw [idxS_miss (fun j hj => hi2 j hj (by omega))], rfl⟩

set_option maxRecDepth 100000 in
set_option maxHeartbeats 4000000 in
theorem has_spec (l : List ByteArray) (s : ByteArray) : AFun Tryz.prog 150 [.t (.row 1 (strTrs (l))), .t (.leaf (.string (s)))] (.t (.leaf (.bool (decide (s ∈ l))))) := by
  refine ACalls.intro Tryz.func150 rfl (by first | decide | (simp; done) | (simp; decide)) ?_
  intro C hC
  refine AWP.fact (lk_lenN 0 rfl rfl (strTrs_len _)) (fun hl1 => ?_)
  refine AWP.seq ?_
  refine AWP.region_lit ?_
  refine AL.cons rfl (AOp.move (.inr rfl) rfl rfl) ?_
  refine AL.nil ?_
  refine AWP.seq ?_
  refine AWP.seq ?_
  refine AWP.region_lit ?_
  refine AL.cons rfl (AOp.move (.inr rfl) rfl rfl) ?_
  refine AL.nil ?_
  refine AWP.block ?_
  refine AWP.loopJ (ι := Nat) (fun i => i ≤ l.length ∧ ∀ (j : Nat) (hj : j < l.length), j < i → ¬ l[j] = s) (fun i => ⟨[(0, .t (.row 1 (strTrs (l)))), (1, .t (.leaf (.string (s)))), (5, .t (.leaf (.int .i64 (((i : Nat) : Int)))))], ⟨[], []⟩⟩) (fun i => l.length - i) 0 ?_ ?_ ?_
  · exact ⟨Nat.zero_le _, fun j hj h => absurd h (Nat.not_lt_zero _)⟩
  · skip
    exact Wk.mk (StLe.mk' trivial rfl) (keeps_nil hC) ⟨⟨_, rfl, .refl _, rfl⟩, ⟨⟨_, rfl, .refl _, rfl⟩, ⟨⟨_, rfl, by (repeat' (first | exact PV.Le.refl _ | exact LeL.nil | exact PV.Le.nil _ | exact PV.Le.acc _ _ _ | apply LeL.cons | apply PV.Le.agg | apply PV.Le.tup)), rfl⟩, trivial⟩⟩⟩
  rintro i hJ2
  obtain ⟨hi1, hi2⟩ := hJ2
  refine AWP.seq ?_
  refine AWP.seq ?_
  refine AWP.region_lit ?_
  refine AL.cons rfl (AOp.move (.inl rfl) rfl rfl) ?_
  refine AL.cons rfl (AOp.move (.inl rfl) rfl rfl) ?_
  refine AL.cons rfl (AOp.lenN rfl rfl rfl rfl el54 (strTrs_len _)) ?_
  refine AL.cons rfl (AOp.lss rfl rfl rfl rfl) ?_
  refine AL.nil ?_
  refine AWP.cond rfl (fun h3 => ?_) (fun h3 => ?_)
  · skip
    have h3b := h3
    try simp only [Bool.and_eq_true, Bool.or_eq_true, Bool.and_eq_false_iff, Bool.or_eq_false_iff, decide_eq_true_eq, decide_eq_false_iff_not, Bool.not_eq_true', Bool.not_eq_false', Bool.not_eq_eq_eq_not, Bool.not_true, Bool.not_false, ge_iff_le, gt_iff_lt, Int.not_lt, Int.not_le] at h3b
    have h3n : i < l.length := by omega
    refine AWP.skip ?_
    refine AWP.seq ?_
    refine AWP.block ?_
    refine AWP.seq ?_
    refine AWP.region_lit ?_
    refine AL.cons rfl (AOp.move (.inl rfl) rfl rfl) ?_
    refine AL.cons rfl (AOp.move (.inl rfl) rfl rfl) ?_
    refine AL.cons rfl (AOp.index (k := i) rfl rfl rfl rfl rfl (strTrs_cs h3n) el54) ?_
    refine AL.cons rfl (AOp.loadEptr1 (d := .leaf (.string (l[i]))) rfl rfl rfl sh9 rfl) ?_
    refine AL.cons rfl (AOp.move (.inl rfl) rfl rfl) ?_
    refine AL.cons rfl (AOp.eqlS rfl rfl rfl rfl) ?_
    refine AL.nil ?_
    refine AWP.cond rfl (fun h4 => ?_) (fun h4 => ?_)
    · skip
      have h4b := h4
      try simp only [Bool.and_eq_true, Bool.or_eq_true, Bool.and_eq_false_iff, Bool.or_eq_false_iff, decide_eq_true_eq, decide_eq_false_iff_not, Bool.not_eq_true', Bool.not_eq_false', Bool.not_eq_eq_eq_not, Bool.not_true, Bool.not_false, ge_iff_le, gt_iff_lt, Int.not_lt, Int.not_le] at h4b
      refine AWP.seq ?_
      refine AWP.region_lit ?_
      refine AL.cons rfl (AOp.move (.inr rfl) rfl rfl) ?_
      refine AL.nil ?_
      refine AWP.ret ?_
      exact Ends.mk (ps := [_]) (.inr rfl) ⟨rfl, trivial⟩ rfl (StLe.mk' (st' := ⟨[], []⟩) trivial rfl) (keeps_nil hC) (q := (.t (.leaf (.bool (true))) : PV)) (by (repeat' (first | exact PV.Le.refl _ | exact LeL.nil | exact PV.Le.nil _ | exact PV.Le.acc _ _ _ | apply LeL.cons | apply PV.Le.agg | apply PV.Le.tup))) rfl ⟨by rw [mem_hit (by omega) (by first | assumption | (apply Eq.symm; assumption))], rfl⟩
    · skip
      have h4b := h4
      try simp only [Bool.and_eq_true, Bool.or_eq_true, Bool.and_eq_false_iff, Bool.or_eq_false_iff, decide_eq_true_eq, decide_eq_false_iff_not, Bool.not_eq_true', Bool.not_eq_false', Bool.not_eq_eq_eq_not, Bool.not_true, Bool.not_false, ge_iff_le, gt_iff_lt, Int.not_lt, Int.not_le] at h4b
      refine AWP.skip ?_
      refine AWP.region_lit ?_
      refine AL.cons rfl (AOp.move (.inl rfl) rfl rfl) ?_
      refine AL.cons rfl (AOp.addI rfl rfl rfl rfl (c := ((i + 1 : Nat) : Int)) (by omega) (by omega)) ?_
      refine AL.cons rfl (AOp.move (.inr rfl) rfl rfl) ?_
      refine AL.nil ?_
      refine ⟨i + 1, ?_, ?_, ?_⟩
      · exact ⟨by omega, miss_next hi2 (by omega) (by first | assumption | (intro hx; exact absurd hx.symm (by assumption)))⟩
      · skip
        exact Wk.mk (StLe.mk' trivial rfl) (keeps_nil hC) ⟨⟨_, rfl, .refl _, rfl⟩, ⟨⟨_, rfl, .refl _, rfl⟩, ⟨⟨_, rfl, by (repeat' (first | exact PV.Le.refl _ | exact LeL.nil | exact PV.Le.nil _ | exact PV.Le.acc _ _ _ | apply LeL.cons | apply PV.Le.agg | apply PV.Le.tup)), rfl⟩, trivial⟩⟩⟩
      · omega
  · skip
    have h3b := h3
    try simp only [Bool.and_eq_true, Bool.or_eq_true, Bool.and_eq_false_iff, Bool.or_eq_false_iff, decide_eq_true_eq, decide_eq_false_iff_not, Bool.not_eq_true', Bool.not_eq_false', Bool.not_eq_eq_eq_not, Bool.not_true, Bool.not_false, ge_iff_le, gt_iff_lt, Int.not_lt, Int.not_le] at h3b
    have h3n : i ≥ l.length := by omega
    refine AWP.exit ?_
    refine AWP.seq ?_
    refine AWP.region_lit ?_
    refine AL.cons rfl (AOp.move (.inr rfl) rfl rfl) ?_
    refine AL.nil ?_
    refine AWP.ret ?_
    exact Ends.mk (ps := [_]) (.inr rfl) ⟨rfl, trivial⟩ rfl (StLe.mk' (st' := ⟨[], []⟩) trivial rfl) (keeps_nil hC) (q := (.t (.leaf (.bool (false))) : PV)) (by (repeat' (first | exact PV.Le.refl _ | exact LeL.nil | exact PV.Le.nil _ | exact PV.Le.acc _ _ _ | apply LeL.cons | apply PV.Le.agg | apply PV.Le.tup))) rfl ⟨by rw [mem_miss (fun j hj => hi2 j hj (by omega))], rfl⟩

set_option maxRecDepth 100000 in
set_option maxHeartbeats 4000000 in
theorem contS_ok (l : List ByteArray) (s : ByteArray) : AFun Tryz.prog 151 [.t (.row 1 (strTrs (l))), .t (.leaf (.string (s)))] (.t (.leaf (.bool (decide (s ∈ l))))) := by
  refine ACalls.intro Tryz.func151 rfl (by first | decide | (simp; done) | (simp; decide)) ?_
  intro C hC
  refine AWP.fact (lk_lenN 0 rfl rfl (strTrs_len _)) (fun hl1 => ?_)
  refine AWP.seq ?_
  refine AWP.region_lit ?_
  refine AL.cons rfl (AOp.move (.inr rfl) rfl rfl) ?_
  refine AL.nil ?_
  refine AWP.seq ?_
  refine AWP.region_lit ?_
  refine AL.cons rfl (AOp.move (.inl rfl) rfl rfl) ?_
  refine AL.cons rfl (AOp.move (.inl rfl) rfl rfl) ?_
  refine AL.cons rfl (AOp.callF (ps := [_, _]) rfl rfl Tryz.func196 (by kernel_rfl) rfl rfl (by (repeat' (first | exact PV.Le.refl _ | exact LeL.nil | exact PV.Le.nil _ | exact PV.Le.acc _ _ _ | apply LeL.cons | apply PV.Le.agg | apply PV.Le.tup))) rfl rfl (idxS_ok l s)) ?_
  refine AL.cons rfl (AOp.geq rfl rfl rfl rfl) ?_
  refine AL.cons rfl (AOp.move (.inr rfl) rfl rfl) ?_
  refine AL.nil ?_
  refine AWP.ret ?_
  exact Ends.mk (ps := [_]) (.inr rfl) ⟨rfl, trivial⟩ rfl (StLe.mk' (st' := ⟨[], []⟩) trivial rfl) (keeps_nil hC) (q := (.t (.leaf (.bool (decide ((idxS l s : Int) ≥ 0)))) : PV)) (by (repeat' (first | exact PV.Le.refl _ | exact LeL.nil | exact PV.Le.nil _ | exact PV.Le.acc _ _ _ | apply LeL.cons | apply PV.Le.agg | apply PV.Le.tup))) rfl ⟨by rw [← idxS_mem], rfl⟩

set_option maxRecDepth 100000 in
set_option maxHeartbeats 4000000 in
theorem supers_impl (w : GProgram) : ∀ (n : Nat) (name : ByteArray) (out : List ByteArray), supM w out < n → out.length + supM w out ≤ 1099511627776 → ACalls Tryz.prog 92 [(GProgram.pv w), .acc 1 (strTrs (out)) 0, .t (.leaf (.string (name)))] ⟨[], [⟨9, 1, strTrs (out), false⟩]⟩ (fun r t => r = .acc 1 (strTrs (supF w n name out)) 0 ∧ t = ⟨[], [⟨9, 1, strTrs (supF w n name out), false⟩]⟩) := by
  intro n
  induction n with
  | zero => intro name out h; exact absurd h (Nat.not_lt_zero _)
  | succ n ih =>
  intro name out hm hbd
  refine ACalls.intro Tryz.func92 rfl (by first | decide | (simp; done) | (simp; decide)) ?_
  intro C hC
  refine AWP.fact (lk_lenN 1 rfl rfl (strTrs_len _)) (fun hl1 => ?_)
  refine AWP.seq ?_
  refine AWP.region_lit ?_
  refine AL.cons rfl (AOp.box (cs := [.t (.row 6 (GPackage.trs (w.gPackages)))]) rfl rfl rfl rfl rfl) ?_
  refine AL.cons rfl (AOp.move (.inr rfl) rfl rfl) ?_
  refine AL.nil ?_
  refine AWP.seq ?_
  refine AWP.region_lit ?_
  refine AL.cons rfl (AOp.loadPtr (cs := [.t (.row 6 (GPackage.trs (w.gPackages)))]) rfl rfl rfl rfl sh31 rfl rfl) ?_
  refine AL.cons rfl (AOp.move (.inl rfl) rfl rfl) ?_
  refine AL.cons rfl (AOp.callF (ps := [_, _]) rfl rfl Tryz.func82 (by kernel_rfl) rfl rfl (by (repeat' (first | exact PV.Le.refl _ | exact LeL.nil | exact PV.Le.nil _ | exact PV.Le.acc _ _ _ | apply LeL.cons | apply PV.Le.agg | apply PV.Le.tup))) rfl rfl (trait_impl w name)) ?_
  refine AL.cons rfl (AOp.move (.inl rfl) rfl rfl) ?_
  refine AL.cons rfl (AOp.extract rfl rfl rfl rfl) ?_
  refine AL.cons rfl (AOp.extract rfl rfl rfl rfl) ?_
  refine AL.cons rfl (AOp.extract rfl rfl rfl rfl) ?_
  refine AL.cons rfl (AOp.alloc rfl rfl zr94) ?_
  refine AL.cons rfl (AOp.storePtr (cs := [.t (.leaf (.string ((oTrait (w.traitAt name)).gName))), .t (.row 1 (strTrs ((oTrait (w.traitAt name)).gSupertraits))), .t (.leaf (.bool ((oTrait (w.traitAt name)).gAuto))), .t (.leaf (.bool ((oTrait (w.traitAt name)).gAssoc))), .t (.row 16 (GSignature.trs ((oTrait (w.traitAt name)).gSignatures)))]) (ds := [.t (.leaf (.string ((oTrait (w.traitAt name)).gName))), .t (.row 1 (strTrs ((oTrait (w.traitAt name)).gSupertraits))), .t (.leaf (.bool ((oTrait (w.traitAt name)).gAuto))), .t (.leaf (.bool ((oTrait (w.traitAt name)).gAssoc))), .t (.row 16 (GSignature.trs ((oTrait (w.traitAt name)).gSignatures)))]) rfl rfl rfl rfl rfl rfl rfl sz94 (Nat.le_of_ble_eq_true rfl) rfl) ?_
  refine AL.cons rfl (AOp.move (.inr rfl) rfl rfl) ?_
  refine AL.cons rfl (AOp.move (.inr rfl) rfl rfl) ?_
  refine AL.nil ?_
  refine AWP.seq ?_
  refine AWP.seq ?_
  refine AWP.region_lit ?_
  refine AL.cons rfl (AOp.fieldPtr (k := 1) (d := 0) (e := 1) rfl rfl rfl fo94_1) ?_
  refine AL.cons rfl (AOp.loadPtr1 rfl rfl rfl rfl sh54 rfl) ?_
  refine AL.fact (lk_lenN 20 rfl rfl (strTrs_len _)) (fun hl2 => ?_)
  refine AL.cons rfl (AOp.lenN rfl rfl rfl rfl el54 (strTrs_len _)) ?_
  refine AL.cons rfl (AOp.move (.inl rfl) rfl rfl) ?_
  refine AL.nil ?_
  refine AWP.block ?_
  refine AWP.loopJ (ι := Nat × List ByteArray) (fun ⟨i, o⟩ => i ≤ (oTrait (w.traitAt name)).gSupertraits.length ∧ supF w (n + 1) name out = ((oTrait (w.traitAt name)).gSupertraits.drop i).foldl (fun o s => if s ∈ o then o else supF w n s (o ++ [s])) o ∧ supM w o ≤ supM w out ∧ o.length + supM w o ≤ out.length + supM w out) (fun ⟨i, o⟩ => ⟨[(0, (GProgram.pv w)), (1, .acc 1 (strTrs (o)) 0), (2, .t (.leaf (.string (name)))), (3, .ptr 0 0), (6, .nil), (7, .ptr 1 0), (8, .t (.leaf (.int .i64 (oInt (w.traitAt name))))), (9, .t (.leaf (.bool ((w.traitAt name).isSome)))), (20, .t (.row 1 (strTrs ((oTrait (w.traitAt name)).gSupertraits)))), (21, .t (.leaf (.int .i64 (((((oTrait (w.traitAt name)).gSupertraits).length : Nat) : Int))))), (22, .t (.leaf (.int .i64 (((i : Nat) : Int)))))], ⟨[some ⟨31, [.t (.row 6 (GPackage.trs (w.gPackages)))]⟩, some ⟨94, [.t (.leaf (.string ((oTrait (w.traitAt name)).gName))), .t (.row 1 (strTrs ((oTrait (w.traitAt name)).gSupertraits))), .t (.leaf (.bool ((oTrait (w.traitAt name)).gAuto))), .t (.leaf (.bool ((oTrait (w.traitAt name)).gAssoc))), .t (.row 16 (GSignature.trs ((oTrait (w.traitAt name)).gSignatures)))]⟩], [⟨9, 1, strTrs (o), false⟩]⟩⟩) (fun ⟨i, o⟩ => (oTrait (w.traitAt name)).gSupertraits.length - i) (0, out) ?_ ?_ ?_
  · exact ⟨Nat.zero_le _, rfl, Nat.le_refl _, Nat.le_refl _⟩
  · skip
    exact Wk.mk (StLe.mk' ⟨⟨rfl, by (repeat' (first | exact PV.Le.refl _ | exact LeL.nil | exact PV.Le.nil _ | exact PV.Le.acc _ _ _ | apply LeL.cons | apply PV.Le.agg | apply PV.Le.tup)), rfl⟩, ⟨⟨rfl, by (repeat' (first | exact PV.Le.refl _ | exact LeL.nil | exact PV.Le.nil _ | exact PV.Le.acc _ _ _ | apply LeL.cons | apply PV.Le.agg | apply PV.Le.tup)), rfl⟩, trivial⟩⟩ (by first | rfl | simp)) (keeps_rows hC (Nat.le_of_ble_eq_true rfl)) ⟨⟨_, rfl, .refl _, rfl⟩, ⟨⟨_, rfl, by (repeat' (first | exact PV.Le.refl _ | exact LeL.nil | exact PV.Le.nil _ | exact PV.Le.acc _ _ _ | apply LeL.cons | apply PV.Le.agg | apply PV.Le.tup)), rfl⟩, ⟨⟨_, rfl, .refl _, rfl⟩, ⟨⟨_, rfl, .refl _, rfl⟩, ⟨⟨_, rfl, .refl _, rfl⟩, ⟨⟨_, rfl, .refl _, rfl⟩, ⟨⟨_, rfl, .refl _, rfl⟩, ⟨⟨_, rfl, .refl _, rfl⟩, ⟨⟨_, rfl, .refl _, rfl⟩, ⟨⟨_, rfl, .refl _, rfl⟩, ⟨⟨_, rfl, by (repeat' (first | exact PV.Le.refl _ | exact LeL.nil | exact PV.Le.nil _ | exact PV.Le.acc _ _ _ | apply LeL.cons | apply PV.Le.agg | apply PV.Le.tup)), rfl⟩, trivial⟩⟩⟩⟩⟩⟩⟩⟩⟩⟩⟩
  rintro ⟨i, o⟩ hJ3
  obtain ⟨hi1, hi2, hi3, hi4⟩ := hJ3
  refine AWP.seq ?_
  refine AWP.region_lit ?_
  refine AL.cons rfl (AOp.lss rfl rfl rfl rfl) ?_
  refine AL.nil ?_
  refine AWP.seq ?_
  refine AWP.cond rfl (fun h4 => ?_) (fun h4 => ?_)
  · skip
    have h4b := h4
    try simp only [Bool.and_eq_true, Bool.or_eq_true, Bool.and_eq_false_iff, Bool.or_eq_false_iff, decide_eq_true_eq, decide_eq_false_iff_not, Bool.not_eq_true', Bool.not_eq_false', Bool.not_eq_eq_eq_not, Bool.not_true, Bool.not_false, ge_iff_le, gt_iff_lt, Int.not_lt, Int.not_le] at h4b
    have h4n : i < ((oTrait (w.traitAt name)).gSupertraits).length := by omega
    refine AWP.skip ?_
    refine AWP.seq ?_
    refine AWP.block ?_
    refine AWP.seq ?_
    refine AWP.region_lit ?_
    refine AL.cons rfl (AOp.index (k := i) rfl rfl rfl rfl rfl (strTrs_cs h4n) el54) ?_
    refine AL.cons rfl (AOp.loadEptr1 (d := .leaf (.string (((oTrait (w.traitAt name)).gSupertraits)[i]))) rfl rfl rfl sh9 rfl) ?_
    refine AL.cons rfl (AOp.move (.inr rfl) rfl rfl) ?_
    refine AL.nil ?_
    refine AWP.seq ?_
    refine AWP.region_lit ?_
    refine AL.cons rfl (AOp.move (.inl rfl) rfl rfl) ?_
    refine AL.cons rfl (AOp.move (.inl rfl) rfl rfl) ?_
    refine AL.cons rfl (AOp.callF (ps := [_, _]) rfl rfl Tryz.func151 (by kernel_rfl) rfl rfl (by (repeat' (first | exact PV.Le.refl _ | exact LeL.nil | exact PV.Le.nil _ | exact PV.Le.acc _ _ _ | apply LeL.cons | apply PV.Le.agg | apply PV.Le.tup))) rfl rfl (contS_ok o (((oTrait (w.traitAt name)).gSupertraits)[i]))) ?_
    refine AL.cons rfl (AOp.notB rfl rfl rfl) ?_
    refine AL.nil ?_
    refine AWP.cond rfl (fun h5 => ?_) (fun h5 => ?_)
    · skip
      have h5b := h5
      try simp only [Bool.and_eq_true, Bool.or_eq_true, Bool.and_eq_false_iff, Bool.or_eq_false_iff, decide_eq_true_eq, decide_eq_false_iff_not, Bool.not_eq_true', Bool.not_eq_false', Bool.not_eq_eq_eq_not, Bool.not_true, Bool.not_false, ge_iff_le, gt_iff_lt, Int.not_lt, Int.not_le] at h5b
      refine AWP.drawnL ⟨_, _, fun j' _ => ([(⟨[some ⟨31, [.t (.row 6 (GPackage.trs (w.gPackages)))]⟩, some ⟨94, [.t (.leaf (.string ((oTrait (w.traitAt name)).gName))), .t (.row 1 (strTrs ((oTrait (w.traitAt name)).gSupertraits))), .t (.leaf (.bool ((oTrait (w.traitAt name)).gAuto))), .t (.leaf (.bool ((oTrait (w.traitAt name)).gAssoc))), .t (.row 16 (GSignature.trs ((oTrait (w.traitAt name)).gSignatures)))]⟩], [⟨9, 1, strTrs (o), false⟩]⟩ : Sto), (⟨[some ⟨31, [.t (.row 6 (GPackage.trs (w.gPackages)))]⟩, some ⟨94, [.t (.leaf (.string ((oTrait (w.traitAt name)).gName))), .t (.row 1 (strTrs ((oTrait (w.traitAt name)).gSupertraits))), .t (.leaf (.bool ((oTrait (w.traitAt name)).gAuto))), .t (.leaf (.bool ((oTrait (w.traitAt name)).gAssoc))), .t (.row 16 (GSignature.trs ((oTrait (w.traitAt name)).gSignatures)))]⟩], [⟨9, 1, strTrs (o ++ [(((oTrait (w.traitAt name)).gSupertraits)[i])]), false⟩]⟩ : Sto), (⟨[some ⟨31, [.t (.row 6 (GPackage.trs (w.gPackages)))]⟩, some ⟨94, [.t (.leaf (.string ((oTrait (w.traitAt name)).gName))), .t (.row 1 (strTrs ((oTrait (w.traitAt name)).gSupertraits))), .t (.leaf (.bool ((oTrait (w.traitAt name)).gAuto))), .t (.leaf (.bool ((oTrait (w.traitAt name)).gAssoc))), .t (.row 16 (GSignature.trs ((oTrait (w.traitAt name)).gSignatures)))]⟩], [⟨9, 1, strTrs (supF w n (((oTrait (w.traitAt name)).gSupertraits)[i]) (o ++ [(((oTrait (w.traitAt name)).gSupertraits)[i])])), false⟩]⟩ : Sto)] : List Sto).getD j' (⟨[some ⟨31, [.t (.row 6 (GPackage.trs (w.gPackages)))]⟩, some ⟨94, [.t (.leaf (.string ((oTrait (w.traitAt name)).gName))), .t (.row 1 (strTrs ((oTrait (w.traitAt name)).gSupertraits))), .t (.leaf (.bool ((oTrait (w.traitAt name)).gAuto))), .t (.leaf (.bool ((oTrait (w.traitAt name)).gAssoc))), .t (.row 16 (GSignature.trs ((oTrait (w.traitAt name)).gSignatures)))]⟩], [⟨9, 1, strTrs (supF w n (((oTrait (w.traitAt name)).gSupertraits)[i]) (o ++ [(((oTrait (w.traitAt name)).gSupertraits)[i])])), false⟩]⟩ : Sto), fun q' => ([some ((GProgram.pv w)), some (.acc 1 (strTrs (o)) 0), some (.t (.leaf (.string (((oTrait (w.traitAt name)).gSupertraits)[i])))), some (.t (.row 1 (strTrs ([(((oTrait (w.traitAt name)).gSupertraits)[i])])))), some (.acc 1 (strTrs (o ++ [(((oTrait (w.traitAt name)).gSupertraits)[i])])) 0), some (.t (.leaf (.string (((oTrait (w.traitAt name)).gSupertraits)[i])))), some (.acc 1 (strTrs (supF w n (((oTrait (w.traitAt name)).gSupertraits)[i]) (o ++ [(((oTrait (w.traitAt name)).gSupertraits)[i])]))) 0), some (.acc 1 (strTrs (supF w n (((oTrait (w.traitAt name)).gSupertraits)[i]) (o ++ [(((oTrait (w.traitAt name)).gSupertraits)[i])]))) 0)] : List (Option PV)).getD q' none, fun q' => ([.q 0 1, .q 0 0, .q 0 0, .q 0 0, .ef 0, .q 0 1, .ef 1, .q 2 2] : List DK).getD q' (.q 0 0), [4, 6], none, fun q' => ([[(3, none)], [(1, none)], [(11, none)], [(32, some 2)], [(31, some 1), (33, some 3)], [(11, none)], [(35, some 5), (34, some 4), (30, some 0)], [(36, some 6)]] : List (List (Nat × Option Nat))).getD q' []⟩ rfl mixed (by kernel_rfl) rfl rfl ⟨?_, ?_, ?_, ?_, ?_, ?_, ?_, ?_, trivial⟩ rfl ?_
      · refine .inl ⟨rfl, fun s' jj bb (h1 : 0 ≤ jj) (h2 : jj ≤ 1) hs hl => ?_⟩
        rcases (by omega : jj = 0 ∨ jj = 1) with rfl | rfl <;> exact ⟨_, rfl, AOp.loadPtr (cs := [.t (.row 6 (GPackage.trs (w.gPackages)))]) rfl rfl (hl 3 none _ (.head _) rfl) (by rw [hs]; rfl) sh31 rfl rfl⟩
      · refine .inl ⟨rfl, fun s' jj bb (h1 : 0 ≤ jj) (h2 : jj ≤ 0) hs hl => ?_⟩
        obtain rfl : jj = 0 := by omega
        exact ⟨_, rfl, AOp.move (.inl rfl) rfl (hl 1 none _ (.head _) rfl)⟩
      · refine .inl ⟨rfl, fun s' jj bb (h1 : 0 ≤ jj) (h2 : jj ≤ 0) hs hl => ?_⟩
        obtain rfl : jj = 0 := by omega
        exact ⟨_, rfl, AOp.move (.inl rfl) rfl (hl 11 none _ (.head _) rfl)⟩
      · refine .inl ⟨rfl, fun s' jj bb (h1 : 0 ≤ jj) (h2 : jj ≤ 0) hs hl => ?_⟩
        obtain rfl : jj = 0 := by omega
        exact ⟨_, rfl, AOp.buildSliceQ (es := strTrs ([(((oTrait (w.traitAt name)).gSupertraits)[i])])) (cs := [.t (.leaf (.string (((oTrait (w.traitAt name)).gSupertraits)[i])))]) rfl rfl el54 zr9 (parts_cons (hl 32 (some 2) _ (.head _) rfl) rfl rfl rfl) rfl (by (repeat' (first | exact PV.Le.refl _ | exact LeL.nil | exact PV.Le.nil _ | exact PV.Le.acc _ _ _ | apply LeL.cons | apply PV.Le.agg | apply PV.Le.tup))) rfl (by simp [strTrs]) (by decide) rfl (by decide)⟩
      · refine .inl ⟨rfl, fun s' bb hs hl => ?_⟩
        refine .inl ⟨_, rfl, AOp.congr (AOp.appendE (es3 := strTrs (o ++ [(((oTrait (w.traitAt name)).gSupertraits)[i])])) rfl rfl (hl 31 (some 1) _ (.head _) rfl) (by rw [hs]; rfl) rfl rfl rfl (hl 33 (some 3) _ (.tail _ (.head _)) rfl) rfl (strTrs_all _) el54 ze54 (by decide) (by rw [strTrs_len, strTrs_len]; simp; omega) (strTrs_append _ _)) ?_⟩
        first | (rw [hs]; rfl) | rfl
      · refine .inl ⟨rfl, fun s' jj bb (h1 : 0 ≤ jj) (h2 : jj ≤ 1) hs hl => ?_⟩
        rcases (by omega : jj = 0 ∨ jj = 1) with rfl | rfl <;> exact ⟨_, rfl, AOp.move (.inl rfl) rfl (hl 11 none _ (.head _) rfl)⟩
      · refine .inl ⟨rfl, fun s' bb hs hl => ?_⟩
        refine .inl ⟨_, rfl, AOp.congr (AOp.callPE (pre := ⟨[], [⟨9, 1, strTrs (o ++ [(((oTrait (w.traitAt name)).gSupertraits)[i])]), false⟩]⟩) (st' := ⟨[], [⟨9, 1, strTrs (supF w n (((oTrait (w.traitAt name)).gSupertraits)[i]) (o ++ [(((oTrait (w.traitAt name)).gSupertraits)[i])])), false⟩]⟩) (ps := [_, _, _]) (qs := [(GProgram.pv w), .acc 1 (strTrs (o ++ [(((oTrait (w.traitAt name)).gSupertraits)[i])])) 0, .t (.leaf (.string (((oTrait (w.traitAt name)).gSupertraits)[i])))]) [] [0] rfl rfl Tryz.func92 (by kernel_rfl) rfl (evs_cons (hl 30 (some 0) _ (.tail _ (.tail _ (.head _))) rfl) (evs_cons (hl 34 (some 4) _ (.tail _ (.head _)) rfl) (evs_cons (hl 35 (some 5) _ (.head _) rfl) rfl))) hs (by (try rw [hs]); exact ⟨rfl, rfl, by decide, by decide, fun k h => absurd h (Nat.not_lt_zero _), fun k x h => by simp at h, fun r row h => by rcases r with _ | r <;> simp at h; subst h; rfl⟩) (by (repeat' (first | exact PV.Le.refl _ | exact LeL.nil | exact PV.Le.nil _ | exact PV.Le.acc _ _ _ | apply LeL.cons | apply PV.Le.agg | apply PV.Le.tup))) rfl rfl rfl (ih _ _ (by have := sup_step (w := w) (name := name) (o := o) (List.getElem_mem (show i < (oTrait (w.traitAt name)).gSupertraits.length by omega)) (by assumption); omega) (by have := sup_step (w := w) (name := name) (o := o) (List.getElem_mem (show i < (oTrait (w.traitAt name)).gSupertraits.length by omega)) (by assumption); have h4 : (o ++ [((oTrait (w.traitAt name)).gSupertraits)[i]]).length = o.length + 1 := (by simp); omega))) ?_⟩
        first | (rw [hs]; rfl) | rfl
      · refine .inl ⟨rfl, fun s' jj bb (h1 : 2 ≤ jj) (h2 : jj ≤ 2) hs hl => ?_⟩
        obtain rfl : jj = 2 := by omega
        exact ⟨_, rfl, AOp.move (.inr rfl) rfl (hl 36 (some 6) _ (.head _) rfl)⟩
      refine AWP.region_lit ?_
      refine AL.cons rfl (AOp.addI rfl rfl rfl rfl (c := ((i + 1 : Nat) : Int)) (by omega) (by omega)) ?_
      refine AL.cons rfl (AOp.move (.inl rfl) rfl rfl) ?_
      refine AL.nil ?_
      refine ⟨(i + 1, supF w n (((oTrait (w.traitAt name)).gSupertraits)[i]) (o ++ [(((oTrait (w.traitAt name)).gSupertraits)[i])])), ?_, ?_, ?_⟩
      · first | exact supJ_has (by omega) hi2 hi3 hi4 (by assumption) | exact supJ_new (by omega) hi2 hi3 hi4 (by assumption) rfl
      · skip
        exact Wk.mk (StLe.mk' ⟨⟨rfl, by (repeat' (first | exact PV.Le.refl _ | exact LeL.nil | exact PV.Le.nil _ | exact PV.Le.acc _ _ _ | apply LeL.cons | apply PV.Le.agg | apply PV.Le.tup)), rfl⟩, ⟨⟨rfl, by (repeat' (first | exact PV.Le.refl _ | exact LeL.nil | exact PV.Le.nil _ | exact PV.Le.acc _ _ _ | apply LeL.cons | apply PV.Le.agg | apply PV.Le.tup)), rfl⟩, trivial⟩⟩ (by first | rfl | simp)) (keeps_rows hC (Nat.le_of_ble_eq_true rfl)) ⟨⟨_, rfl, .refl _, rfl⟩, ⟨⟨_, rfl, by (repeat' (first | exact PV.Le.refl _ | exact LeL.nil | exact PV.Le.nil _ | exact PV.Le.acc _ _ _ | apply LeL.cons | apply PV.Le.agg | apply PV.Le.tup)), rfl⟩, ⟨⟨_, rfl, .refl _, rfl⟩, ⟨⟨_, rfl, .refl _, rfl⟩, ⟨⟨_, rfl, .refl _, rfl⟩, ⟨⟨_, rfl, .refl _, rfl⟩, ⟨⟨_, rfl, .refl _, rfl⟩, ⟨⟨_, rfl, .refl _, rfl⟩, ⟨⟨_, rfl, .refl _, rfl⟩, ⟨⟨_, rfl, .refl _, rfl⟩, ⟨⟨_, rfl, by (repeat' (first | exact PV.Le.refl _ | exact LeL.nil | exact PV.Le.nil _ | exact PV.Le.acc _ _ _ | apply LeL.cons | apply PV.Le.agg | apply PV.Le.tup)), rfl⟩, trivial⟩⟩⟩⟩⟩⟩⟩⟩⟩⟩⟩
      · dsimp only; omega
    · skip
      have h5b := h5
      try simp only [Bool.and_eq_true, Bool.or_eq_true, Bool.and_eq_false_iff, Bool.or_eq_false_iff, decide_eq_true_eq, decide_eq_false_iff_not, Bool.not_eq_true', Bool.not_eq_false', Bool.not_eq_eq_eq_not, Bool.not_true, Bool.not_false, ge_iff_le, gt_iff_lt, Int.not_lt, Int.not_le] at h5b
      refine AWP.skip ?_
      refine AWP.region_lit ?_
      refine AL.cons rfl (AOp.addI rfl rfl rfl rfl (c := ((i + 1 : Nat) : Int)) (by omega) (by omega)) ?_
      refine AL.cons rfl (AOp.move (.inl rfl) rfl rfl) ?_
      refine AL.nil ?_
      refine ⟨(i + 1, o), ?_, ?_, ?_⟩
      · first | exact supJ_has (by omega) hi2 hi3 hi4 (by assumption) | exact supJ_new (by omega) hi2 hi3 hi4 (by assumption) rfl
      · skip
        exact Wk.mk (StLe.mk' ⟨⟨rfl, by (repeat' (first | exact PV.Le.refl _ | exact LeL.nil | exact PV.Le.nil _ | exact PV.Le.acc _ _ _ | apply LeL.cons | apply PV.Le.agg | apply PV.Le.tup)), rfl⟩, ⟨⟨rfl, by (repeat' (first | exact PV.Le.refl _ | exact LeL.nil | exact PV.Le.nil _ | exact PV.Le.acc _ _ _ | apply LeL.cons | apply PV.Le.agg | apply PV.Le.tup)), rfl⟩, trivial⟩⟩ (by first | rfl | simp)) (keeps_rows hC (Nat.le_of_ble_eq_true rfl)) ⟨⟨_, rfl, .refl _, rfl⟩, ⟨⟨_, rfl, .refl _, rfl⟩, ⟨⟨_, rfl, .refl _, rfl⟩, ⟨⟨_, rfl, .refl _, rfl⟩, ⟨⟨_, rfl, .refl _, rfl⟩, ⟨⟨_, rfl, .refl _, rfl⟩, ⟨⟨_, rfl, .refl _, rfl⟩, ⟨⟨_, rfl, .refl _, rfl⟩, ⟨⟨_, rfl, .refl _, rfl⟩, ⟨⟨_, rfl, .refl _, rfl⟩, ⟨⟨_, rfl, by (repeat' (first | exact PV.Le.refl _ | exact LeL.nil | exact PV.Le.nil _ | exact PV.Le.acc _ _ _ | apply LeL.cons | apply PV.Le.agg | apply PV.Le.tup)), rfl⟩, trivial⟩⟩⟩⟩⟩⟩⟩⟩⟩⟩⟩
      · dsimp only; omega
  · skip
    have h4b := h4
    try simp only [Bool.and_eq_true, Bool.or_eq_true, Bool.and_eq_false_iff, Bool.or_eq_false_iff, decide_eq_true_eq, decide_eq_false_iff_not, Bool.not_eq_true', Bool.not_eq_false', Bool.not_eq_eq_eq_not, Bool.not_true, Bool.not_false, ge_iff_le, gt_iff_lt, Int.not_lt, Int.not_le] at h4b
    have h4n : i ≥ ((oTrait (w.traitAt name)).gSupertraits).length := by omega
    refine AWP.exit ?_
    refine AWP.seq ?_
    refine AWP.region_lit ?_
    refine AL.cons rfl (AOp.move (.inl rfl) rfl rfl) ?_
    refine AL.cons rfl (AOp.move (.inr rfl) rfl rfl) ?_
    refine AL.nil ?_
    refine AWP.ret ?_
    obtain rfl := fold_end (by omega) hi2
    exact Ends.mk (ps := [_]) (.inr rfl) ⟨rfl, trivial⟩ rfl (StLe.mk' (st' := ⟨[], [⟨9, 1, strTrs (supF w (n + 1) name out), false⟩]⟩) trivial rfl) (keeps_rows hC (Nat.le_of_ble_eq_true rfl)) (q := .acc 1 (strTrs (supF w (n + 1) name out)) 0) (.refl _) rfl ⟨rfl, rfl⟩

theorem supersNil_impl (w : GProgram) (name : ByteArray) (hb : w.allSup.length ≤ 1099511627776) : AFun Tryz.prog 92 [(GProgram.pv w), .nil, .t (.leaf (.string name))] (.t (.row 1 (strTrs (w.supers name)))) :=
  ACalls.regNil (l1 := [GProgram.pv w]) (l2 := [.t (.leaf (.string name))]) (E := 9) (sz := 1) (by decide) (supers_impl w (supM w [] + 1) name [] (Nat.lt_succ_self _) (supM_le hb)) (.acc 1 _ 0) rfl
set_option maxRecDepth 100000 in
set_option maxHeartbeats 4000000 in
theorem supers_spec (w : GProgram) : ∀ (n : Nat) (name : ByteArray) (out : List ByteArray), supM w out < n → out.length + supM w out ≤ 1099511627776 → ACalls Tryz.prog 91 [(GProgram.pv w), .t (.leaf (.string (name))), .acc 1 (strTrs (out)) 0] ⟨[], [⟨9, 1, strTrs (out), false⟩]⟩ (fun r t => r = .acc 1 (strTrs (supF w n name out)) 0 ∧ t = ⟨[], [⟨9, 1, strTrs (supF w n name out), false⟩]⟩) := by
  intro n
  induction n with
  | zero => intro name out h; exact absurd h (Nat.not_lt_zero _)
  | succ n ih =>
  intro name out hm hbd
  refine ACalls.intro Tryz.func91 rfl (by first | decide | (simp; done) | (simp; decide)) ?_
  intro C hC
  refine AWP.fact (lk_lenN 2 rfl rfl (strTrs_len _)) (fun hl1 => ?_)
  refine AWP.seq ?_
  refine AWP.region_lit ?_
  refine AL.cons rfl (AOp.box (cs := [.t (.row 6 (GPackage.trs (w.gPackages)))]) rfl rfl rfl rfl rfl) ?_
  refine AL.cons rfl (AOp.move (.inr rfl) rfl rfl) ?_
  refine AL.nil ?_
  refine AWP.seq ?_
  refine AWP.region_lit ?_
  refine AL.cons rfl (AOp.loadPtr (cs := [.t (.row 6 (GPackage.trs (w.gPackages)))]) rfl rfl rfl rfl sh31 rfl rfl) ?_
  refine AL.cons rfl (AOp.move (.inl rfl) rfl rfl) ?_
  refine AL.cons rfl (AOp.callF (ps := [_, _]) rfl rfl Tryz.func78 (by kernel_rfl) rfl rfl (by (repeat' (first | exact PV.Le.refl _ | exact LeL.nil | exact PV.Le.nil _ | exact PV.Le.acc _ _ _ | apply LeL.cons | apply PV.Le.agg | apply PV.Le.tup))) rfl rfl (trait_spec w name)) ?_
  refine AL.cons rfl (AOp.move (.inl rfl) rfl rfl) ?_
  refine AL.cons rfl (AOp.extract rfl rfl rfl rfl) ?_
  refine AL.cons rfl (AOp.extract rfl rfl rfl rfl) ?_
  refine AL.cons rfl (AOp.extract rfl rfl rfl rfl) ?_
  refine AL.cons rfl (AOp.alloc rfl rfl zr94) ?_
  refine AL.cons rfl (AOp.storePtr (cs := [.t (.leaf (.string ((oTrait (w.traitAt name)).gName))), .t (.row 1 (strTrs ((oTrait (w.traitAt name)).gSupertraits))), .t (.leaf (.bool ((oTrait (w.traitAt name)).gAuto))), .t (.leaf (.bool ((oTrait (w.traitAt name)).gAssoc))), .t (.row 16 (GSignature.trs ((oTrait (w.traitAt name)).gSignatures)))]) (ds := [.t (.leaf (.string ((oTrait (w.traitAt name)).gName))), .t (.row 1 (strTrs ((oTrait (w.traitAt name)).gSupertraits))), .t (.leaf (.bool ((oTrait (w.traitAt name)).gAuto))), .t (.leaf (.bool ((oTrait (w.traitAt name)).gAssoc))), .t (.row 16 (GSignature.trs ((oTrait (w.traitAt name)).gSignatures)))]) rfl rfl rfl rfl rfl rfl rfl sz94 (Nat.le_of_ble_eq_true rfl) rfl) ?_
  refine AL.cons rfl (AOp.move (.inr rfl) rfl rfl) ?_
  refine AL.cons rfl (AOp.move (.inr rfl) rfl rfl) ?_
  refine AL.nil ?_
  refine AWP.seq ?_
  refine AWP.seq ?_
  refine AWP.region_lit ?_
  refine AL.cons rfl (AOp.move (.inr rfl) rfl rfl) ?_
  refine AL.nil ?_
  refine AWP.block ?_
  refine AWP.loopJ (ι := Nat × List ByteArray) (fun ⟨i, o⟩ => i ≤ (oTrait (w.traitAt name)).gSupertraits.length ∧ supF w (n + 1) name out = ((oTrait (w.traitAt name)).gSupertraits.drop i).foldl (fun o s => if s ∈ o then o else supF w n s (o ++ [s])) o ∧ supM w o ≤ supM w out ∧ o.length + supM w o ≤ out.length + supM w out) (fun ⟨i, o⟩ => ⟨[(0, (GProgram.pv w)), (1, .t (.leaf (.string (name)))), (2, .acc 1 (strTrs (o)) 0), (3, .ptr 0 0), (6, .nil), (7, .ptr 1 0), (8, .t (.leaf (.int .i64 (oInt (w.traitAt name))))), (9, .t (.leaf (.bool ((w.traitAt name).isSome)))), (10, .t (.leaf (.int .i64 (((i : Nat) : Int)))))], ⟨[some ⟨31, [.t (.row 6 (GPackage.trs (w.gPackages)))]⟩, some ⟨94, [.t (.leaf (.string ((oTrait (w.traitAt name)).gName))), .t (.row 1 (strTrs ((oTrait (w.traitAt name)).gSupertraits))), .t (.leaf (.bool ((oTrait (w.traitAt name)).gAuto))), .t (.leaf (.bool ((oTrait (w.traitAt name)).gAssoc))), .t (.row 16 (GSignature.trs ((oTrait (w.traitAt name)).gSignatures)))]⟩], [⟨9, 1, strTrs (o), false⟩]⟩⟩) (fun ⟨i, o⟩ => (oTrait (w.traitAt name)).gSupertraits.length - i) (0, out) ?_ ?_ ?_
  · exact ⟨Nat.zero_le _, rfl, Nat.le_refl _, Nat.le_refl _⟩
  · skip
    exact Wk.mk (StLe.mk' ⟨⟨rfl, by (repeat' (first | exact PV.Le.refl _ | exact LeL.nil | exact PV.Le.nil _ | exact PV.Le.acc _ _ _ | apply LeL.cons | apply PV.Le.agg | apply PV.Le.tup)), rfl⟩, ⟨⟨rfl, by (repeat' (first | exact PV.Le.refl _ | exact LeL.nil | exact PV.Le.nil _ | exact PV.Le.acc _ _ _ | apply LeL.cons | apply PV.Le.agg | apply PV.Le.tup)), rfl⟩, trivial⟩⟩ (by first | rfl | simp)) (keeps_rows hC (Nat.le_of_ble_eq_true rfl)) ⟨⟨_, rfl, .refl _, rfl⟩, ⟨⟨_, rfl, .refl _, rfl⟩, ⟨⟨_, rfl, by (repeat' (first | exact PV.Le.refl _ | exact LeL.nil | exact PV.Le.nil _ | exact PV.Le.acc _ _ _ | apply LeL.cons | apply PV.Le.agg | apply PV.Le.tup)), rfl⟩, ⟨⟨_, rfl, .refl _, rfl⟩, ⟨⟨_, rfl, .refl _, rfl⟩, ⟨⟨_, rfl, .refl _, rfl⟩, ⟨⟨_, rfl, .refl _, rfl⟩, ⟨⟨_, rfl, .refl _, rfl⟩, ⟨⟨_, rfl, by (repeat' (first | exact PV.Le.refl _ | exact LeL.nil | exact PV.Le.nil _ | exact PV.Le.acc _ _ _ | apply LeL.cons | apply PV.Le.agg | apply PV.Le.tup)), rfl⟩, trivial⟩⟩⟩⟩⟩⟩⟩⟩⟩
  rintro ⟨i, o⟩ hJ2
  obtain ⟨hi1, hi2, hi3, hi4⟩ := hJ2
  refine AWP.seq ?_
  refine AWP.seq ?_
  refine AWP.region_lit ?_
  refine AL.cons rfl (AOp.move (.inl rfl) rfl rfl) ?_
  refine AL.cons rfl (AOp.fieldPtr (k := 1) (d := 0) (e := 1) rfl rfl rfl fo94_1) ?_
  refine AL.cons rfl (AOp.loadPtr1 rfl rfl rfl rfl sh54 rfl) ?_
  refine AL.fact (lk_lenN 20 rfl rfl (strTrs_len _)) (fun hl3 => ?_)
  refine AL.cons rfl (AOp.lenN rfl rfl rfl rfl el54 (strTrs_len _)) ?_
  refine AL.cons rfl (AOp.lss rfl rfl rfl rfl) ?_
  refine AL.nil ?_
  refine AWP.cond rfl (fun h4 => ?_) (fun h4 => ?_)
  · skip
    have h4b := h4
    try simp only [Bool.and_eq_true, Bool.or_eq_true, Bool.and_eq_false_iff, Bool.or_eq_false_iff, decide_eq_true_eq, decide_eq_false_iff_not, Bool.not_eq_true', Bool.not_eq_false', Bool.not_eq_eq_eq_not, Bool.not_true, Bool.not_false, ge_iff_le, gt_iff_lt, Int.not_lt, Int.not_le] at h4b
    have h4n : i < ((oTrait (w.traitAt name)).gSupertraits).length := by omega
    refine AWP.skip ?_
    refine AWP.seq ?_
    refine AWP.block ?_
    refine AWP.seq ?_
    refine AWP.region_lit ?_
    refine AL.cons rfl (AOp.move (.inl rfl) rfl rfl) ?_
    refine AL.cons rfl (AOp.fieldPtr (k := 1) (d := 0) (e := 1) rfl rfl rfl fo94_1) ?_
    refine AL.cons rfl (AOp.loadPtr1 rfl rfl rfl rfl sh54 rfl) ?_
    refine AL.cons rfl (AOp.move (.inl rfl) rfl rfl) ?_
    refine AL.cons rfl (AOp.index (k := i) rfl rfl rfl rfl rfl (strTrs_cs h4n) el54) ?_
    refine AL.cons rfl (AOp.loadEptr1 (d := .leaf (.string (((oTrait (w.traitAt name)).gSupertraits)[i]))) rfl rfl rfl sh9 rfl) ?_
    refine AL.cons rfl (AOp.callF (ps := [_, _]) rfl rfl Tryz.func150 (by kernel_rfl) rfl rfl (by (repeat' (first | exact PV.Le.refl _ | exact LeL.nil | exact PV.Le.nil _ | exact PV.Le.acc _ _ _ | apply LeL.cons | apply PV.Le.agg | apply PV.Le.tup))) rfl rfl (has_spec o (((oTrait (w.traitAt name)).gSupertraits)[i]))) ?_
    refine AL.cons rfl (AOp.notB rfl rfl rfl) ?_
    refine AL.nil ?_
    refine AWP.cond rfl (fun h5 => ?_) (fun h5 => ?_)
    · skip
      have h5b := h5
      try simp only [Bool.and_eq_true, Bool.or_eq_true, Bool.and_eq_false_iff, Bool.or_eq_false_iff, decide_eq_true_eq, decide_eq_false_iff_not, Bool.not_eq_true', Bool.not_eq_false', Bool.not_eq_eq_eq_not, Bool.not_true, Bool.not_false, ge_iff_le, gt_iff_lt, Int.not_lt, Int.not_le] at h5b
      refine AWP.drawnL ⟨_, _, fun j' _ => ([(⟨[some ⟨31, [.t (.row 6 (GPackage.trs (w.gPackages)))]⟩, some ⟨94, [.t (.leaf (.string ((oTrait (w.traitAt name)).gName))), .t (.row 1 (strTrs ((oTrait (w.traitAt name)).gSupertraits))), .t (.leaf (.bool ((oTrait (w.traitAt name)).gAuto))), .t (.leaf (.bool ((oTrait (w.traitAt name)).gAssoc))), .t (.row 16 (GSignature.trs ((oTrait (w.traitAt name)).gSignatures)))]⟩], [⟨9, 1, strTrs (o), false⟩]⟩ : Sto), (⟨[some ⟨31, [.t (.row 6 (GPackage.trs (w.gPackages)))]⟩, some ⟨94, [.t (.leaf (.string ((oTrait (w.traitAt name)).gName))), .t (.row 1 (strTrs ((oTrait (w.traitAt name)).gSupertraits))), .t (.leaf (.bool ((oTrait (w.traitAt name)).gAuto))), .t (.leaf (.bool ((oTrait (w.traitAt name)).gAssoc))), .t (.row 16 (GSignature.trs ((oTrait (w.traitAt name)).gSignatures)))]⟩], [⟨9, 1, strTrs (o ++ [(((oTrait (w.traitAt name)).gSupertraits)[i])]), false⟩]⟩ : Sto), (⟨[some ⟨31, [.t (.row 6 (GPackage.trs (w.gPackages)))]⟩, some ⟨94, [.t (.leaf (.string ((oTrait (w.traitAt name)).gName))), .t (.row 1 (strTrs ((oTrait (w.traitAt name)).gSupertraits))), .t (.leaf (.bool ((oTrait (w.traitAt name)).gAuto))), .t (.leaf (.bool ((oTrait (w.traitAt name)).gAssoc))), .t (.row 16 (GSignature.trs ((oTrait (w.traitAt name)).gSignatures)))]⟩], [⟨9, 1, strTrs (supF w n (((oTrait (w.traitAt name)).gSupertraits)[i]) (o ++ [(((oTrait (w.traitAt name)).gSupertraits)[i])])), false⟩]⟩ : Sto)] : List Sto).getD j' (⟨[some ⟨31, [.t (.row 6 (GPackage.trs (w.gPackages)))]⟩, some ⟨94, [.t (.leaf (.string ((oTrait (w.traitAt name)).gName))), .t (.row 1 (strTrs ((oTrait (w.traitAt name)).gSupertraits))), .t (.leaf (.bool ((oTrait (w.traitAt name)).gAuto))), .t (.leaf (.bool ((oTrait (w.traitAt name)).gAssoc))), .t (.row 16 (GSignature.trs ((oTrait (w.traitAt name)).gSignatures)))]⟩], [⟨9, 1, strTrs (supF w n (((oTrait (w.traitAt name)).gSupertraits)[i]) (o ++ [(((oTrait (w.traitAt name)).gSupertraits)[i])])), false⟩]⟩ : Sto), fun q' => ([some ((GProgram.pv w)), some (.ptr 1 1), some (.t (.row 1 (strTrs ((oTrait (w.traitAt name)).gSupertraits)))), some (.t (.leaf (.int .i64 (((i : Nat) : Int))))), some (.eptr ([.leaf (.string (((oTrait (w.traitAt name)).gSupertraits)[i]))])), some (.t (.leaf (.string (((oTrait (w.traitAt name)).gSupertraits)[i])))), some (.acc 1 (strTrs (o)) 0), some (.ptr 1 1), some (.t (.row 1 (strTrs ((oTrait (w.traitAt name)).gSupertraits)))), some (.t (.leaf (.int .i64 (((i : Nat) : Int))))), some (.eptr ([.leaf (.string (((oTrait (w.traitAt name)).gSupertraits)[i]))])), some (.t (.leaf (.string (((oTrait (w.traitAt name)).gSupertraits)[i])))), some (.t (.row 1 (strTrs ([(((oTrait (w.traitAt name)).gSupertraits)[i])])))), some (.acc 1 (strTrs (o ++ [(((oTrait (w.traitAt name)).gSupertraits)[i])])) 0), some (.acc 1 (strTrs (supF w n (((oTrait (w.traitAt name)).gSupertraits)[i]) (o ++ [(((oTrait (w.traitAt name)).gSupertraits)[i])]))) 0), some (.acc 1 (strTrs (supF w n (((oTrait (w.traitAt name)).gSupertraits)[i]) (o ++ [(((oTrait (w.traitAt name)).gSupertraits)[i])]))) 0)] : List (Option PV)).getD q' none, fun q' => ([.q 0 1, .q 0 1, .q 0 1, .q 0 1, .q 0 1, .q 0 1, .q 0 0, .q 0 0, .q 0 0, .q 0 0, .q 0 0, .q 0 0, .q 0 0, .ef 0, .ef 1, .q 2 2] : List DK).getD q' (.q 0 0), [13, 14], none, fun q' => ([[(3, none)], [(7, none)], [(34, some 1)], [(10, none)], [(35, some 2), (36, some 3)], [(37, some 4)], [(2, none)], [(7, none)], [(40, some 7)], [(10, none)], [(41, some 8), (42, some 9)], [(43, some 10)], [(44, some 11)], [(39, some 6), (45, some 12)], [(46, some 13), (38, some 5), (33, some 0)], [(47, some 14)]] : List (List (Nat × Option Nat))).getD q' []⟩ rfl mixed (by kernel_rfl) rfl rfl ⟨?_, ?_, ?_, ?_, ?_, ?_, ?_, ?_, ?_, ?_, ?_, ?_, ?_, ?_, ?_, ?_, trivial⟩ rfl ?_
      · refine .inl ⟨rfl, fun s' jj bb (h1 : 0 ≤ jj) (h2 : jj ≤ 1) hs hl => ?_⟩
        rcases (by omega : jj = 0 ∨ jj = 1) with rfl | rfl <;> exact ⟨_, rfl, AOp.loadPtr (cs := [.t (.row 6 (GPackage.trs (w.gPackages)))]) rfl rfl (hl 3 none _ (.head _) rfl) (by rw [hs]; rfl) sh31 rfl rfl⟩
      · refine .inl ⟨rfl, fun s' jj bb (h1 : 0 ≤ jj) (h2 : jj ≤ 1) hs hl => ?_⟩
        rcases (by omega : jj = 0 ∨ jj = 1) with rfl | rfl <;> exact ⟨_, rfl, AOp.fieldPtr (k := 1) (d := 0) (e := 1) rfl rfl (hl 7 none _ (.head _) rfl) fo94_1⟩
      · refine .inl ⟨rfl, fun s' jj bb (h1 : 0 ≤ jj) (h2 : jj ≤ 1) hs hl => ?_⟩
        rcases (by omega : jj = 0 ∨ jj = 1) with rfl | rfl <;> exact ⟨_, rfl, AOp.loadPtr1 rfl rfl (hl 34 (some 1) _ (.head _) rfl) (by rw [hs]; rfl) sh54 rfl⟩
      · refine .inl ⟨rfl, fun s' jj bb (h1 : 0 ≤ jj) (h2 : jj ≤ 1) hs hl => ?_⟩
        rcases (by omega : jj = 0 ∨ jj = 1) with rfl | rfl <;> exact ⟨_, rfl, AOp.move (.inl rfl) rfl (hl 10 none _ (.head _) rfl)⟩
      · refine .inl ⟨rfl, fun s' jj bb (h1 : 0 ≤ jj) (h2 : jj ≤ 1) hs hl => ?_⟩
        rcases (by omega : jj = 0 ∨ jj = 1) with rfl | rfl <;> exact ⟨_, rfl, AOp.index (k := i) rfl rfl (hl 35 (some 2) _ (.head _) rfl) rfl (hl 36 (some 3) _ (.tail _ (.head _)) rfl) (strTrs_cs h4n) el54⟩
      · refine .inl ⟨rfl, fun s' jj bb (h1 : 0 ≤ jj) (h2 : jj ≤ 1) hs hl => ?_⟩
        rcases (by omega : jj = 0 ∨ jj = 1) with rfl | rfl <;> exact ⟨_, rfl, AOp.loadEptr1 (d := .leaf (.string (((oTrait (w.traitAt name)).gSupertraits)[i]))) rfl rfl (hl 37 (some 4) _ (.head _) rfl) sh9 rfl⟩
      · refine .inl ⟨rfl, fun s' jj bb (h1 : 0 ≤ jj) (h2 : jj ≤ 0) hs hl => ?_⟩
        obtain rfl : jj = 0 := by omega
        exact ⟨_, rfl, AOp.move (.inl rfl) rfl (hl 2 none _ (.head _) rfl)⟩
      · refine .inl ⟨rfl, fun s' jj bb (h1 : 0 ≤ jj) (h2 : jj ≤ 0) hs hl => ?_⟩
        obtain rfl : jj = 0 := by omega
        exact ⟨_, rfl, AOp.fieldPtr (k := 1) (d := 0) (e := 1) rfl rfl (hl 7 none _ (.head _) rfl) fo94_1⟩
      · refine .inl ⟨rfl, fun s' jj bb (h1 : 0 ≤ jj) (h2 : jj ≤ 0) hs hl => ?_⟩
        obtain rfl : jj = 0 := by omega
        exact ⟨_, rfl, AOp.loadPtr1 rfl rfl (hl 40 (some 7) _ (.head _) rfl) (by rw [hs]; rfl) sh54 rfl⟩
      · refine .inl ⟨rfl, fun s' jj bb (h1 : 0 ≤ jj) (h2 : jj ≤ 0) hs hl => ?_⟩
        obtain rfl : jj = 0 := by omega
        exact ⟨_, rfl, AOp.move (.inl rfl) rfl (hl 10 none _ (.head _) rfl)⟩
      · refine .inl ⟨rfl, fun s' jj bb (h1 : 0 ≤ jj) (h2 : jj ≤ 0) hs hl => ?_⟩
        obtain rfl : jj = 0 := by omega
        exact ⟨_, rfl, AOp.index (k := i) rfl rfl (hl 41 (some 8) _ (.head _) rfl) rfl (hl 42 (some 9) _ (.tail _ (.head _)) rfl) (strTrs_cs h4n) el54⟩
      · refine .inl ⟨rfl, fun s' jj bb (h1 : 0 ≤ jj) (h2 : jj ≤ 0) hs hl => ?_⟩
        obtain rfl : jj = 0 := by omega
        exact ⟨_, rfl, AOp.loadEptr1 (d := .leaf (.string (((oTrait (w.traitAt name)).gSupertraits)[i]))) rfl rfl (hl 43 (some 10) _ (.head _) rfl) sh9 rfl⟩
      · refine .inl ⟨rfl, fun s' jj bb (h1 : 0 ≤ jj) (h2 : jj ≤ 0) hs hl => ?_⟩
        obtain rfl : jj = 0 := by omega
        exact ⟨_, rfl, AOp.buildSliceQ (es := strTrs ([(((oTrait (w.traitAt name)).gSupertraits)[i])])) (cs := [.t (.leaf (.string (((oTrait (w.traitAt name)).gSupertraits)[i])))]) rfl rfl el54 zr9 (parts_cons (hl 44 (some 11) _ (.head _) rfl) rfl rfl rfl) rfl (by (repeat' (first | exact PV.Le.refl _ | exact LeL.nil | exact PV.Le.nil _ | exact PV.Le.acc _ _ _ | apply LeL.cons | apply PV.Le.agg | apply PV.Le.tup))) rfl (by simp [strTrs]) (by decide) rfl (by decide)⟩
      · refine .inl ⟨rfl, fun s' bb hs hl => ?_⟩
        refine .inl ⟨_, rfl, AOp.congr (AOp.appendE (es3 := strTrs (o ++ [(((oTrait (w.traitAt name)).gSupertraits)[i])])) rfl rfl (hl 39 (some 6) _ (.head _) rfl) (by rw [hs]; rfl) rfl rfl rfl (hl 45 (some 12) _ (.tail _ (.head _)) rfl) rfl (strTrs_all _) el54 ze54 (by decide) (by rw [strTrs_len, strTrs_len]; simp; omega) (strTrs_append _ _)) ?_⟩
        first | (rw [hs]; rfl) | rfl
      · refine .inl ⟨rfl, fun s' bb hs hl => ?_⟩
        refine .inl ⟨_, rfl, AOp.congr (AOp.callPE (pre := ⟨[], [⟨9, 1, strTrs (o ++ [(((oTrait (w.traitAt name)).gSupertraits)[i])]), false⟩]⟩) (st' := ⟨[], [⟨9, 1, strTrs (supF w n (((oTrait (w.traitAt name)).gSupertraits)[i]) (o ++ [(((oTrait (w.traitAt name)).gSupertraits)[i])])), false⟩]⟩) (ps := [_, _, _]) (qs := [(GProgram.pv w), .t (.leaf (.string (((oTrait (w.traitAt name)).gSupertraits)[i]))), .acc 1 (strTrs (o ++ [(((oTrait (w.traitAt name)).gSupertraits)[i])])) 0]) [] [0] rfl rfl Tryz.func91 (by kernel_rfl) rfl (evs_cons (hl 33 (some 0) _ (.tail _ (.tail _ (.head _))) rfl) (evs_cons (hl 38 (some 5) _ (.tail _ (.head _)) rfl) (evs_cons (hl 46 (some 13) _ (.head _) rfl) rfl))) hs (by (try rw [hs]); exact ⟨rfl, rfl, by decide, by decide, fun k h => absurd h (Nat.not_lt_zero _), fun k x h => by simp at h, fun r row h => by rcases r with _ | r <;> simp at h; subst h; rfl⟩) (by (repeat' (first | exact PV.Le.refl _ | exact LeL.nil | exact PV.Le.nil _ | exact PV.Le.acc _ _ _ | apply LeL.cons | apply PV.Le.agg | apply PV.Le.tup))) rfl rfl rfl (ih _ _ (by have := sup_step (w := w) (name := name) (o := o) (List.getElem_mem (show i < (oTrait (w.traitAt name)).gSupertraits.length by omega)) (by assumption); omega) (by have := sup_step (w := w) (name := name) (o := o) (List.getElem_mem (show i < (oTrait (w.traitAt name)).gSupertraits.length by omega)) (by assumption); have h4 : (o ++ [((oTrait (w.traitAt name)).gSupertraits)[i]]).length = o.length + 1 := (by simp); omega))) ?_⟩
        first | (rw [hs]; rfl) | rfl
      · refine .inl ⟨rfl, fun s' jj bb (h1 : 2 ≤ jj) (h2 : jj ≤ 2) hs hl => ?_⟩
        obtain rfl : jj = 2 := by omega
        exact ⟨_, rfl, AOp.move (.inr rfl) rfl (hl 47 (some 14) _ (.head _) rfl)⟩
      refine AWP.region_lit ?_
      refine AL.cons rfl (AOp.move (.inl rfl) rfl rfl) ?_
      refine AL.cons rfl (AOp.addI rfl rfl rfl rfl (c := ((i + 1 : Nat) : Int)) (by omega) (by omega)) ?_
      refine AL.cons rfl (AOp.move (.inr rfl) rfl rfl) ?_
      refine AL.nil ?_
      refine ⟨(i + 1, supF w n (((oTrait (w.traitAt name)).gSupertraits)[i]) (o ++ [(((oTrait (w.traitAt name)).gSupertraits)[i])])), ?_, ?_, ?_⟩
      · first | exact supJ_has (by omega) hi2 hi3 hi4 (by assumption) | exact supJ_new (by omega) hi2 hi3 hi4 (by assumption) rfl
      · skip
        exact Wk.mk (StLe.mk' ⟨⟨rfl, by (repeat' (first | exact PV.Le.refl _ | exact LeL.nil | exact PV.Le.nil _ | exact PV.Le.acc _ _ _ | apply LeL.cons | apply PV.Le.agg | apply PV.Le.tup)), rfl⟩, ⟨⟨rfl, by (repeat' (first | exact PV.Le.refl _ | exact LeL.nil | exact PV.Le.nil _ | exact PV.Le.acc _ _ _ | apply LeL.cons | apply PV.Le.agg | apply PV.Le.tup)), rfl⟩, trivial⟩⟩ (by first | rfl | simp)) (keeps_rows hC (Nat.le_of_ble_eq_true rfl)) ⟨⟨_, rfl, .refl _, rfl⟩, ⟨⟨_, rfl, .refl _, rfl⟩, ⟨⟨_, rfl, by (repeat' (first | exact PV.Le.refl _ | exact LeL.nil | exact PV.Le.nil _ | exact PV.Le.acc _ _ _ | apply LeL.cons | apply PV.Le.agg | apply PV.Le.tup)), rfl⟩, ⟨⟨_, rfl, .refl _, rfl⟩, ⟨⟨_, rfl, .refl _, rfl⟩, ⟨⟨_, rfl, .refl _, rfl⟩, ⟨⟨_, rfl, .refl _, rfl⟩, ⟨⟨_, rfl, .refl _, rfl⟩, ⟨⟨_, rfl, by (repeat' (first | exact PV.Le.refl _ | exact LeL.nil | exact PV.Le.nil _ | exact PV.Le.acc _ _ _ | apply LeL.cons | apply PV.Le.agg | apply PV.Le.tup)), rfl⟩, trivial⟩⟩⟩⟩⟩⟩⟩⟩⟩
      · dsimp only; omega
    · skip
      have h5b := h5
      try simp only [Bool.and_eq_true, Bool.or_eq_true, Bool.and_eq_false_iff, Bool.or_eq_false_iff, decide_eq_true_eq, decide_eq_false_iff_not, Bool.not_eq_true', Bool.not_eq_false', Bool.not_eq_eq_eq_not, Bool.not_true, Bool.not_false, ge_iff_le, gt_iff_lt, Int.not_lt, Int.not_le] at h5b
      refine AWP.skip ?_
      refine AWP.region_lit ?_
      refine AL.cons rfl (AOp.move (.inl rfl) rfl rfl) ?_
      refine AL.cons rfl (AOp.addI rfl rfl rfl rfl (c := ((i + 1 : Nat) : Int)) (by omega) (by omega)) ?_
      refine AL.cons rfl (AOp.move (.inr rfl) rfl rfl) ?_
      refine AL.nil ?_
      refine ⟨(i + 1, o), ?_, ?_, ?_⟩
      · first | exact supJ_has (by omega) hi2 hi3 hi4 (by assumption) | exact supJ_new (by omega) hi2 hi3 hi4 (by assumption) rfl
      · skip
        exact Wk.mk (StLe.mk' ⟨⟨rfl, by (repeat' (first | exact PV.Le.refl _ | exact LeL.nil | exact PV.Le.nil _ | exact PV.Le.acc _ _ _ | apply LeL.cons | apply PV.Le.agg | apply PV.Le.tup)), rfl⟩, ⟨⟨rfl, by (repeat' (first | exact PV.Le.refl _ | exact LeL.nil | exact PV.Le.nil _ | exact PV.Le.acc _ _ _ | apply LeL.cons | apply PV.Le.agg | apply PV.Le.tup)), rfl⟩, trivial⟩⟩ (by first | rfl | simp)) (keeps_rows hC (Nat.le_of_ble_eq_true rfl)) ⟨⟨_, rfl, .refl _, rfl⟩, ⟨⟨_, rfl, .refl _, rfl⟩, ⟨⟨_, rfl, .refl _, rfl⟩, ⟨⟨_, rfl, .refl _, rfl⟩, ⟨⟨_, rfl, .refl _, rfl⟩, ⟨⟨_, rfl, .refl _, rfl⟩, ⟨⟨_, rfl, .refl _, rfl⟩, ⟨⟨_, rfl, .refl _, rfl⟩, ⟨⟨_, rfl, by (repeat' (first | exact PV.Le.refl _ | exact LeL.nil | exact PV.Le.nil _ | exact PV.Le.acc _ _ _ | apply LeL.cons | apply PV.Le.agg | apply PV.Le.tup)), rfl⟩, trivial⟩⟩⟩⟩⟩⟩⟩⟩⟩
      · dsimp only; omega
  · skip
    have h4b := h4
    try simp only [Bool.and_eq_true, Bool.or_eq_true, Bool.and_eq_false_iff, Bool.or_eq_false_iff, decide_eq_true_eq, decide_eq_false_iff_not, Bool.not_eq_true', Bool.not_eq_false', Bool.not_eq_eq_eq_not, Bool.not_true, Bool.not_false, ge_iff_le, gt_iff_lt, Int.not_lt, Int.not_le] at h4b
    have h4n : i ≥ ((oTrait (w.traitAt name)).gSupertraits).length := by omega
    refine AWP.exit ?_
    refine AWP.seq ?_
    refine AWP.region_lit ?_
    refine AL.cons rfl (AOp.move (.inl rfl) rfl rfl) ?_
    refine AL.cons rfl (AOp.move (.inr rfl) rfl rfl) ?_
    refine AL.nil ?_
    refine AWP.ret ?_
    obtain rfl := fold_end (by omega) hi2
    exact Ends.mk (ps := [_]) (.inr rfl) ⟨rfl, trivial⟩ rfl (StLe.mk' (st' := ⟨[], [⟨9, 1, strTrs (supF w (n + 1) name out), false⟩]⟩) trivial rfl) (keeps_rows hC (Nat.le_of_ble_eq_true rfl)) (q := .acc 1 (strTrs (supF w (n + 1) name out)) 0) (.refl _) rfl ⟨rfl, rfl⟩

set_option maxRecDepth 100000 in
set_option maxHeartbeats 4000000 in
theorem allSup_impl (w : GProgram) (name : ByteArray) (hb : w.allSup.length ≤ 1099511627776) : AFun Tryz.prog 28 [(GProgram.pv w), .t (.leaf (.string (name)))] (.t (.row 1 (strTrs (GProgram.supers w name)))) := by
  refine ACalls.intro Tryz.func28 rfl (by first | decide | (simp; done) | (simp; decide)) ?_
  intro C hC
  refine AWP.seq ?_
  refine AWP.region_lit ?_
  refine AL.cons rfl (AOp.box (cs := [.t (.row 6 (GPackage.trs (w.gPackages)))]) rfl rfl rfl rfl rfl) ?_
  refine AL.cons rfl (AOp.move (.inr rfl) rfl rfl) ?_
  refine AL.nil ?_
  refine AWP.seq ?_
  refine AWP.region_lit ?_
  refine AL.cons rfl (AOp.loadPtr (cs := [.t (.row 6 (GPackage.trs (w.gPackages)))]) rfl rfl rfl rfl sh31 rfl rfl) ?_
  refine AL.cons rfl (AOp.move (.inl rfl) rfl rfl) ?_
  refine AL.cons rfl (AOp.callF (ps := [_, _, _]) rfl rfl Tryz.func92 (by kernel_rfl) rfl rfl (by (repeat' (first | exact PV.Le.refl _ | exact LeL.nil | exact PV.Le.nil _ | exact PV.Le.acc _ _ _ | apply LeL.cons | apply PV.Le.agg | apply PV.Le.tup))) rfl rfl (supersNil_impl w name (by assumption))) ?_
  refine AL.cons rfl (AOp.move (.inr rfl) rfl rfl) ?_
  refine AL.nil ?_
  refine AWP.ret ?_
  exact Ends.mk (ps := [_]) (.inr rfl) ⟨rfl, trivial⟩ rfl (StLe.mk' (st' := ⟨[], []⟩) trivial rfl) (keeps_nil hC) (q := (.t (.row 1 (strTrs (GProgram.supers w name))) : PV)) (by (repeat' (first | exact PV.Le.refl _ | exact LeL.nil | exact PV.Le.nil _ | exact PV.Le.acc _ _ _ | apply LeL.cons | apply PV.Le.agg | apply PV.Le.tup))) rfl ⟨by rfl, rfl⟩

set_option maxRecDepth 100000 in
set_option maxHeartbeats 4000000 in
theorem allSup_spec (w : GProgram) (name : ByteArray) (hb : w.allSup.length ≤ 1099511627776) : AFun Tryz.prog 27 [(GProgram.pv w), .t (.leaf (.string (name)))] (.t (.row 1 (strTrs (GProgram.supers w name)))) := by
  refine ACalls.intro Tryz.func27 rfl (by first | decide | (simp; done) | (simp; decide)) ?_
  intro C hC
  refine AWP.seq ?_
  refine AWP.region_lit ?_
  refine AL.cons rfl (AOp.box (cs := [.t (.row 6 (GPackage.trs (w.gPackages)))]) rfl rfl rfl rfl rfl) ?_
  refine AL.cons rfl (AOp.move (.inr rfl) rfl rfl) ?_
  refine AL.nil ?_
  refine AWP.seq ?_
  refine AWP.region_lit ?_
  refine AL.cons rfl (AOp.loadPtr (cs := [.t (.row 6 (GPackage.trs (w.gPackages)))]) rfl rfl rfl rfl sh31 rfl rfl) ?_
  refine AL.cons rfl (AOp.move (.inl rfl) rfl rfl) ?_
  refine AL.cons rfl (AOp.buildSlice (es := strTrs ([])) (cs := []) rfl rfl el54 zr9 rfl rfl (by (repeat' (first | exact PV.Le.refl _ | exact LeL.nil | exact PV.Le.nil _ | exact PV.Le.acc _ _ _ | apply LeL.cons | apply PV.Le.agg | apply PV.Le.tup))) rfl (by simp [strTrs]) (by decide) rfl (by decide)) ?_
  refine AL.cons rfl (AOp.callPE (pre := ⟨[], [⟨9, 1, strTrs ([]), false⟩]⟩) (st' := ⟨[], [⟨9, 1, strTrs (GProgram.supers w name), false⟩]⟩) (ps := [_, _, _]) (qs := [(GProgram.pv w), .t (.leaf (.string (name))), .acc 1 (strTrs ([])) 0]) [] [0] rfl rfl Tryz.func91 (by kernel_rfl) rfl rfl rfl (by (try rw [hs]); exact ⟨rfl, rfl, by decide, by decide, fun k h => absurd h (Nat.not_lt_zero _), fun k x h => by simp at h, fun r row h => by rcases r with _ | r <;> simp at h; subst h; rfl⟩) (by (repeat' (first | exact PV.Le.refl _ | exact LeL.nil | exact PV.Le.nil _ | exact PV.Le.acc _ _ _ | apply LeL.cons | apply PV.Le.agg | apply PV.Le.tup))) rfl rfl rfl (supers_spec w (supM w [] + 1) name [] (Nat.lt_succ_self _) (supM_le (by assumption)))) ?_
  refine AL.cons rfl (AOp.move (.inr rfl) rfl rfl) ?_
  refine AL.nil ?_
  refine AWP.ret ?_
  exact Ends.mk (ps := [_]) (.inr rfl) ⟨rfl, trivial⟩ rfl (StLe.mk' (st' := ⟨[], []⟩) trivial rfl) (keeps_nil hC) (q := (.t (.row 1 (strTrs (GProgram.supers w name))) : PV)) (by (repeat' (first | exact PV.Le.refl _ | exact LeL.nil | exact PV.Le.nil _ | exact PV.Le.acc _ _ _ | apply LeL.cons | apply PV.Le.agg | apply PV.Le.tup))) rfl ⟨by rfl, rfl⟩

end Go.Proofs.YtnakkelglbcecaaGreat

namespace Go.Proofs.YtnakkelglbcecaaGreat
open Go.RowKit
theorem AFun.plainR {P : Program} {f : FuncId} {args : List PV} {t : Tr} (h : AFun P f args (.t t)) {w : World} {vals : List Value} (hv : RVL0 w args vals) : Calls P f ⟨vals⟩ w fun e w' => ∃ u, e = .returned u ∧ Ext w w' ∧ Rep w' t u :=
  (h av0 lay0 w vals (sto0 w) hv).mono fun e w' => by
    rintro ⟨res, st', m', v, rfl, ⟨rfl, rfl⟩, -, he, hr⟩
    exact ⟨v, rfl, he.ext, RepM.rep hr⟩
theorem AFun.plainA {P : Program} {f : FuncId} {args : List PV} {ts : List Tr} (h : AFun P f args (.agg (ts.map PV.t))) {w : World} {vals : List Value} (hv : RVL0 w args vals) : Calls P f ⟨vals⟩ w fun e w' => ∃ cs, e = .returned (.agg ⟨cs⟩) ∧ Ext w w' ∧ RepL w' ts cs :=
  (h av0 lay0 w vals (sto0 w) hv).mono fun e w' => by
    rintro ⟨res, st', m', v, rfl, ⟨rfl, rfl⟩, -, he, cs, rfl, hr⟩
    exact ⟨cs, rfl, he.ext, RVL.ofTr hr⟩
theorem RVL0.nil {w : World} : RVL0 w [] [] := trivial
theorem RVL0.cons {w : World} {p : PV} {ps : List PV} {v : Value} {vs : List Value} (h : RV0 w p v) (k : RVL0 w ps vs) : RVL0 w (p :: ps) (v :: vs) := ⟨h, k⟩
end Go.Proofs.YtnakkelglbcecaaGreat

namespace Go.Proofs.YtnakkelglbcecaaGreat
theorem Tr.bulkL_cat : ∀ (a b : List Tr), Tr.bulkL (a ++ b) = Tr.bulkL a + Tr.bulkL b
  | [], b => by simp [Tr.bulkL]
  | t :: a, b => by simp [Tr.bulkL, Tr.bulkL_cat a b, Nat.add_assoc]
theorem cnts_of : ∀ {es : List (List Tr)}, (∀ e ∈ es, Tr.cntL e ≤ 20 + 20 * Tr.bulkL e) → Tr.cntE es ≤ 20 * es.length + 20 * Tr.bulkAll es
  | [], _ => by simp [Tr.cntE]
  | e :: r, h => by
    have h1 := cnts_of (es := r) (fun x hx => h x (List.mem_cons_of_mem _ hx))
    have h2 := h e (by simp)
    simp only [Tr.cntE, Tr.bulkAll, List.length_cons]
    omega
theorem strCnt (l : List ByteArray) : Tr.cntE (strTrs l) = l.length := by
  induction l with
  | nil => rfl
  | cons a l ih => simp only [strTrs, List.map_cons, Tr.cntE, Tr.cntL, Tr.cnt, List.length_cons] at *; omega
theorem intCnt (l : List Int) : Tr.cntE (intTrs l) = l.length := by
  induction l with
  | nil => rfl
  | cons a l ih => simp only [intTrs, List.map_cons, Tr.cntE, Tr.cntL, Tr.cnt, List.length_cons] at *; omega
theorem Tr.topN_cnt : ∀ ts : List Tr, Tr.topN ts ≤ Tr.cntL ts
  | [] => by simp [Tr.topN]
  | .leaf v :: r => by have := Tr.topN_cnt r; simp only [Tr.topN, Tr.cntL, Tr.cnt]; omega
  | .row sz es :: r => by have := Tr.topN_cnt r; simp only [Tr.topN, Tr.cntL, Tr.cnt]; omega
theorem GType.cnt_le : ∀ x : GType, Tr.cntL x.tr ≤ 3 + 20 * Tr.bulkL x.tr := by
  refine GType.ind fun v0 v1 v2 ih => ?_
  have c2 : Tr.cntE (GType.trs v2) ≤ 20 * v2.length + 20 * Tr.bulkAll (GType.trs v2) := by have h := cnts_of (GType.all (l := v2) (Q := fun e => Tr.cntL e ≤ 20 + 20 * Tr.bulkL e) (fun x hx => by have := ih x hx; omega)); rw [GType.trs_len] at h; exact h
  have d2 := GType.trs_len v2
  simp only [GType.tr, Tr.cntL_append, Tr.bulkL_cat, Tr.cntL, Tr.cnt, Tr.bulkL, Tr.bulk]
  omega
theorem GType.cnts_le (l : List GType) : Tr.cntE (GType.trs l) ≤ 20 * l.length + 20 * Tr.bulkAll (GType.trs l) := by
  have h := cnts_of (GType.all (l := l) (Q := fun e => Tr.cntL e ≤ 20 + 20 * Tr.bulkL e) (fun x _ => by have := GType.cnt_le x; omega))
  rw [GType.trs_len] at h
  exact h
theorem GArm.cnt_of (x : GArm) (h : Tr.cntL x.gBody.tr ≤ 9 + 20 * Tr.bulkL x.gBody.tr) : Tr.cntL x.tr ≤ 11 + 20 * Tr.bulkL x.tr := by
  obtain ⟨v0, v1, v2⟩ := x
  have h : Tr.cntL v2.tr ≤ 9 + 20 * Tr.bulkL v2.tr := h
  have c1 := strCnt v1
  have d1 := strTrs_len v1
  simp only [GArm.tr, Tr.cntL_append, Tr.bulkL_cat, Tr.cntL, Tr.cnt, Tr.bulkL, Tr.bulk]
  omega
theorem GExpr.cnt_le : ∀ x : GExpr, Tr.cntL x.tr ≤ 9 + 20 * Tr.bulkL x.tr := by
  refine GExpr.ind fun v0 v1 v2 v3 v4 v5 v6 ih5 ih6 => ?_
  have c4 := GType.cnt_le v4
  have c5 : Tr.cntE (GExpr.trs v5) ≤ 20 * v5.length + 20 * Tr.bulkAll (GExpr.trs v5) := by have h := cnts_of (GExpr.all (l := v5) (Q := fun e => Tr.cntL e ≤ 20 + 20 * Tr.bulkL e) (fun x hx => by have := ih5 x hx; omega)); rw [GExpr.trs_len] at h; exact h
  have c6 : Tr.cntE (GArm.trs v6) ≤ 20 * v6.length + 20 * Tr.bulkAll (GArm.trs v6) := by have h := cnts_of (GArm.all (l := v6) (Q := fun e => Tr.cntL e ≤ 20 + 20 * Tr.bulkL e) (fun x hx => by have := GArm.cnt_of x (ih6 x hx); omega)); rw [GArm.trs_len] at h; exact h
  have d5 := GExpr.trs_len v5
  have d6 := GArm.trs_len v6
  simp only [GExpr.tr, Tr.cntL_append, Tr.bulkL_cat, Tr.cntL, Tr.cnt, Tr.bulkL, Tr.bulk]
  omega
theorem GArm.cnt_le (x : GArm) : Tr.cntL x.tr ≤ 11 + 20 * Tr.bulkL x.tr := GArm.cnt_of x (GExpr.cnt_le _)
theorem GExpr.cnts_le (l : List GExpr) : Tr.cntE (GExpr.trs l) ≤ 20 * l.length + 20 * Tr.bulkAll (GExpr.trs l) := by
  have h := cnts_of (GExpr.all (l := l) (Q := fun e => Tr.cntL e ≤ 20 + 20 * Tr.bulkL e) (fun x _ => by have := GExpr.cnt_le x; omega))
  rw [GExpr.trs_len] at h
  exact h
theorem GArm.cnts_le (l : List GArm) : Tr.cntE (GArm.trs l) ≤ 20 * l.length + 20 * Tr.bulkAll (GArm.trs l) := by
  have h := cnts_of (GArm.all (l := l) (Q := fun e => Tr.cntL e ≤ 20 + 20 * Tr.bulkL e) (fun x _ => by have := GArm.cnt_le x; omega))
  rw [GArm.trs_len] at h
  exact h
theorem GBound.cnt_le (x : GBound) : Tr.cntL x.tr ≤ 4 + 20 * Tr.bulkL x.tr := by
  obtain ⟨v0, v1⟩ := x
  have c1 := GType.cnt_le v1
  simp only [GBound.tr, Tr.cntL_append, Tr.bulkL_cat, Tr.cntL, Tr.cnt, Tr.bulkL, Tr.bulk]
  omega
theorem GBound.cnts_le (l : List GBound) : Tr.cntE (GBound.trs l) ≤ 20 * l.length + 20 * Tr.bulkAll (GBound.trs l) := by
  have h := cnts_of (GBound.all (l := l) (Q := fun e => Tr.cntL e ≤ 20 + 20 * Tr.bulkL e) (fun x _ => by have := GBound.cnt_le x; omega))
  rw [GBound.trs_len] at h
  exact h
theorem GParam.cnt_le (x : GParam) : Tr.cntL x.tr ≤ 4 + 20 * Tr.bulkL x.tr := by
  obtain ⟨v0, v1⟩ := x
  have c1 := GType.cnt_le v1
  simp only [GParam.tr, Tr.cntL_append, Tr.bulkL_cat, Tr.cntL, Tr.cnt, Tr.bulkL, Tr.bulk]
  omega
theorem GParam.cnts_le (l : List GParam) : Tr.cntE (GParam.trs l) ≤ 20 * l.length + 20 * Tr.bulkAll (GParam.trs l) := by
  have h := cnts_of (GParam.all (l := l) (Q := fun e => Tr.cntL e ≤ 20 + 20 * Tr.bulkL e) (fun x _ => by have := GParam.cnt_le x; omega))
  rw [GParam.trs_len] at h
  exact h
theorem GMethod.cnt_le (x : GMethod) : Tr.cntL x.tr ≤ 11 + 20 * Tr.bulkL x.tr := by
  obtain ⟨v0, v1, v2⟩ := x
  have c1 := strCnt v1
  have d1 := strTrs_len v1
  have c2 := GExpr.cnt_le v2
  simp only [GMethod.tr, Tr.cntL_append, Tr.bulkL_cat, Tr.cntL, Tr.cnt, Tr.bulkL, Tr.bulk]
  omega
theorem GMethod.cnts_le (l : List GMethod) : Tr.cntE (GMethod.trs l) ≤ 20 * l.length + 20 * Tr.bulkAll (GMethod.trs l) := by
  have h := cnts_of (GMethod.all (l := l) (Q := fun e => Tr.cntL e ≤ 20 + 20 * Tr.bulkL e) (fun x _ => by have := GMethod.cnt_le x; omega))
  rw [GMethod.trs_len] at h
  exact h
theorem GConstructor.cnt_le (x : GConstructor) : Tr.cntL x.tr ≤ 2 + 20 * Tr.bulkL x.tr := by
  obtain ⟨v0, v1⟩ := x
  have c1 := GType.cnts_le v1
  have d1 := GType.trs_len v1
  simp only [GConstructor.tr, Tr.cntL_append, Tr.bulkL_cat, Tr.cntL, Tr.cnt, Tr.bulkL, Tr.bulk]
  omega
theorem GConstructor.cnts_le (l : List GConstructor) : Tr.cntE (GConstructor.trs l) ≤ 20 * l.length + 20 * Tr.bulkAll (GConstructor.trs l) := by
  have h := cnts_of (GConstructor.all (l := l) (Q := fun e => Tr.cntL e ≤ 20 + 20 * Tr.bulkL e) (fun x _ => by have := GConstructor.cnt_le x; omega))
  rw [GConstructor.trs_len] at h
  exact h
theorem GSignature.cnt_le (x : GSignature) : Tr.cntL x.tr ≤ 16 + 20 * Tr.bulkL x.tr := by
  obtain ⟨v0, v1, v2, v3, v4, v5⟩ := x
  have c1 := GType.cnts_le v1
  have d1 := GType.trs_len v1
  have c2 := GType.cnt_le v2
  have c4 := strCnt v4
  have d4 := strTrs_len v4
  have c5 := GExpr.cnt_le v5
  simp only [GSignature.tr, Tr.cntL_append, Tr.bulkL_cat, Tr.cntL, Tr.cnt, Tr.bulkL, Tr.bulk]
  omega
theorem GSignature.cnts_le (l : List GSignature) : Tr.cntE (GSignature.trs l) ≤ 20 * l.length + 20 * Tr.bulkAll (GSignature.trs l) := by
  have h := cnts_of (GSignature.all (l := l) (Q := fun e => Tr.cntL e ≤ 20 + 20 * Tr.bulkL e) (fun x _ => by have := GSignature.cnt_le x; omega))
  rw [GSignature.trs_len] at h
  exact h
theorem GTrait.cnt_le (x : GTrait) : Tr.cntL x.tr ≤ 5 + 20 * Tr.bulkL x.tr := by
  obtain ⟨v0, v1, v2, v3, v4⟩ := x
  have c1 := strCnt v1
  have d1 := strTrs_len v1
  have c4 := GSignature.cnts_le v4
  have d4 := GSignature.trs_len v4
  simp only [GTrait.tr, Tr.cntL_append, Tr.bulkL_cat, Tr.cntL, Tr.cnt, Tr.bulkL, Tr.bulk]
  omega
theorem GTrait.cnts_le (l : List GTrait) : Tr.cntE (GTrait.trs l) ≤ 20 * l.length + 20 * Tr.bulkAll (GTrait.trs l) := by
  have h := cnts_of (GTrait.all (l := l) (Q := fun e => Tr.cntL e ≤ 20 + 20 * Tr.bulkL e) (fun x _ => by have := GTrait.cnt_le x; omega))
  rw [GTrait.trs_len] at h
  exact h
theorem GDataType.cnt_le (x : GDataType) : Tr.cntL x.tr ≤ 3 + 20 * Tr.bulkL x.tr := by
  obtain ⟨v0, v1, v2⟩ := x
  have c1 := strCnt v1
  have d1 := strTrs_len v1
  have c2 := GConstructor.cnts_le v2
  have d2 := GConstructor.trs_len v2
  simp only [GDataType.tr, Tr.cntL_append, Tr.bulkL_cat, Tr.cntL, Tr.cnt, Tr.bulkL, Tr.bulk]
  omega
theorem GDataType.cnts_le (l : List GDataType) : Tr.cntE (GDataType.trs l) ≤ 20 * l.length + 20 * Tr.bulkAll (GDataType.trs l) := by
  have h := cnts_of (GDataType.all (l := l) (Q := fun e => Tr.cntL e ≤ 20 + 20 * Tr.bulkL e) (fun x _ => by have := GDataType.cnt_le x; omega))
  rw [GDataType.trs_len] at h
  exact h
theorem GInstance.cnt_le (x : GInstance) : Tr.cntL x.tr ≤ 12 + 20 * Tr.bulkL x.tr := by
  obtain ⟨v0, v1, v2, v3, v4, v5, v6, v7⟩ := x
  have c1 := strCnt v1
  have d1 := strTrs_len v1
  have c2 := GType.cnt_le v2
  have c3 := GBound.cnts_le v3
  have d3 := GBound.trs_len v3
  have c6 := GType.cnt_le v6
  have c7 := GMethod.cnts_le v7
  have d7 := GMethod.trs_len v7
  simp only [GInstance.tr, Tr.cntL_append, Tr.bulkL_cat, Tr.cntL, Tr.cnt, Tr.bulkL, Tr.bulk]
  omega
theorem GInstance.cnts_le (l : List GInstance) : Tr.cntE (GInstance.trs l) ≤ 20 * l.length + 20 * Tr.bulkAll (GInstance.trs l) := by
  have h := cnts_of (GInstance.all (l := l) (Q := fun e => Tr.cntL e ≤ 20 + 20 * Tr.bulkL e) (fun x _ => by have := GInstance.cnt_le x; omega))
  rw [GInstance.trs_len] at h
  exact h
theorem GFunction.cnt_le (x : GFunction) : Tr.cntL x.tr ≤ 16 + 20 * Tr.bulkL x.tr := by
  obtain ⟨v0, v1, v2, v3, v4, v5⟩ := x
  have c1 := strCnt v1
  have d1 := strTrs_len v1
  have c2 := GBound.cnts_le v2
  have d2 := GBound.trs_len v2
  have c3 := GParam.cnts_le v3
  have d3 := GParam.trs_len v3
  have c4 := GType.cnt_le v4
  have c5 := GExpr.cnt_le v5
  simp only [GFunction.tr, Tr.cntL_append, Tr.bulkL_cat, Tr.cntL, Tr.cnt, Tr.bulkL, Tr.bulk]
  omega
theorem GFunction.cnts_le (l : List GFunction) : Tr.cntE (GFunction.trs l) ≤ 20 * l.length + 20 * Tr.bulkAll (GFunction.trs l) := by
  have h := cnts_of (GFunction.all (l := l) (Q := fun e => Tr.cntL e ≤ 20 + 20 * Tr.bulkL e) (fun x _ => by have := GFunction.cnt_le x; omega))
  rw [GFunction.trs_len] at h
  exact h
theorem GPackage.cnt_le (x : GPackage) : Tr.cntL x.tr ≤ 6 + 20 * Tr.bulkL x.tr := by
  obtain ⟨v0, v1, v2, v3, v4, v5⟩ := x
  have c1 := strCnt v1
  have d1 := strTrs_len v1
  have c2 := GTrait.cnts_le v2
  have d2 := GTrait.trs_len v2
  have c3 := GDataType.cnts_le v3
  have d3 := GDataType.trs_len v3
  have c4 := GInstance.cnts_le v4
  have d4 := GInstance.trs_len v4
  have c5 := GFunction.cnts_le v5
  have d5 := GFunction.trs_len v5
  simp only [GPackage.tr, Tr.cntL_append, Tr.bulkL_cat, Tr.cntL, Tr.cnt, Tr.bulkL, Tr.bulk]
  omega
theorem GPackage.cnts_le (l : List GPackage) : Tr.cntE (GPackage.trs l) ≤ 20 * l.length + 20 * Tr.bulkAll (GPackage.trs l) := by
  have h := cnts_of (GPackage.all (l := l) (Q := fun e => Tr.cntL e ≤ 20 + 20 * Tr.bulkL e) (fun x _ => by have := GPackage.cnt_le x; omega))
  rw [GPackage.trs_len] at h
  exact h
theorem GProgram.cnt_le (x : GProgram) : Tr.cntL x.tr ≤ 1 + 20 * Tr.bulkL x.tr := by
  obtain ⟨v0⟩ := x
  have c0 := GPackage.cnts_le v0
  have d0 := GPackage.trs_len v0
  simp only [GProgram.tr, Tr.cntL_append, Tr.bulkL_cat, Tr.cntL, Tr.cnt, Tr.bulkL, Tr.bulk]
  omega
theorem GProgram.cnts_le (l : List GProgram) : Tr.cntE (GProgram.trs l) ≤ 20 * l.length + 20 * Tr.bulkAll (GProgram.trs l) := by
  have h := cnts_of (GProgram.all (l := l) (Q := fun e => Tr.cntL e ≤ 20 + 20 * Tr.bulkL e) (fun x _ => by have := GProgram.cnt_le x; omega))
  rw [GProgram.trs_len] at h
  exact h
theorem GProgram.top_le (x : GProgram) : Tr.topN x.tr ≤ 20 + 20 * Tr.bulkL x.tr := by
  have h1 := Tr.topN_cnt x.tr
  have h2 := GProgram.cnt_le x
  omega
end Go.Proofs.YtnakkelglbcecaaGreat

namespace Go.Proofs.YtnakkelglbcecaaGreat
set_option linter.unusedSimpArgs false
set_option linter.unusedVariables false
open Go.RowKit Go.WalkArith Go.IntWalk Go.WideShapes

theorem supersNilK (w : GProgram) (name : ByteArray) (hb : w.allSup.length ≤ 1099511627776) : ARow Tryz.prog 92 [(GProgram.pv w), .nil, .t (.leaf (.string name))] 9 1 (strTrs (w.supers name)) none :=
  ARow.ofNil (l1 := [GProgram.pv w]) (l2 := [.t (.leaf (.string name))]) (E := 9) (sz := 1) (by decide) (supers_impl w (supM w [] + 1) name [] (Nat.lt_succ_self _) (supM_le hb))
set_option maxRecDepth 100000 in
set_option maxHeartbeats 4000000 in
theorem allSupK (w : GProgram) (name : ByteArray) (hb : w.allSup.length ≤ 1099511627776) : ARow Tryz.prog 28 [(GProgram.pv w), .t (.leaf (.string (name)))] 9 1 (strTrs (GProgram.supers w name)) none := by
  unfold ARow
  refine ACalls.intro Tryz.func28 rfl (by first | decide | (simp; done) | (simp; decide)) ?_
  intro C hC
  refine AWP.seq ?_
  refine AWP.region_lit ?_
  refine AL.cons rfl (AOp.box (cs := [.t (.row 6 (GPackage.trs (w.gPackages)))]) rfl rfl rfl rfl rfl) ?_
  refine AL.cons rfl (AOp.move (.inr rfl) rfl rfl) ?_
  refine AL.nil ?_
  refine AWP.seq ?_
  refine AWP.region_lit ?_
  refine AL.cons rfl (AOp.loadPtr (cs := [.t (.row 6 (GPackage.trs (w.gPackages)))]) rfl rfl rfl rfl sh31 rfl rfl) ?_
  refine AL.cons rfl (AOp.move (.inl rfl) rfl rfl) ?_
  refine AL.cons rfl (AOp.callRow (ps := [_, _, _]) (rs := none) rfl rfl Tryz.func92 (by kernel_rfl) rfl rfl (by (repeat' (first | exact PV.Le.refl _ | exact LeL.nil | exact PV.Le.nil _ | exact PV.Le.acc _ _ _ | apply LeL.cons | apply PV.Le.agg | apply PV.Le.tup))) rfl rfl (supersNilK w name hb)) ?_
  refine AL.cons rfl (AOp.move (.inr rfl) rfl rfl) ?_
  refine AL.nil ?_
  refine AWP.ret ?_
  exact Ends.mk (ps := [_]) (.inr rfl) ⟨rfl, trivial⟩ rfl (StLe.mk' (st' := ⟨[], [⟨9, 1, strTrs (GProgram.supers w name), false⟩]⟩) trivial rfl) ⟨fun k x h => by simp [hC] at h, fun r row h => by simp [hC] at h⟩ (q := .acc 1 (strTrs (GProgram.supers w name)) 0) (.refl _) rfl ⟨0, rfl, rfl⟩
theorem traits_sup_bulk : ∀ l : List GTrait, (l.flatMap (fun t => t.gSupertraits)).length ≤ Tr.bulkAll (GTrait.trs l)
  | [] => by simp
  | x :: l => by
    have h1 := traits_sup_bulk l
    have h2 : x.gSupertraits.length ≤ Tr.bulkL x.tr := by
      rw [GTrait.tr_cs]
      simp only [GTrait.cs, Tr.bulkL, Tr.bulk, strTrs_len]
      omega
    rw [GTrait.trs_map] at h1
    rw [List.flatMap_cons, List.length_append, GTrait.trs_map, List.map_cons, Tr.bulkAll]
    omega
theorem packages_sup_bulk : ∀ l : List GPackage, ((l.flatMap (fun p => p.gTraits)).flatMap (fun t => t.gSupertraits)).length ≤ Tr.bulkAll (GPackage.trs l)
  | [] => by simp
  | x :: l => by
    have h1 := packages_sup_bulk l
    have h3 := traits_sup_bulk x.gTraits
    have h2 : Tr.bulkAll (GTrait.trs x.gTraits) ≤ Tr.bulkL x.tr := by
      rw [GPackage.tr_cs]
      simp only [GPackage.cs, Tr.bulkL, Tr.bulk]
      omega
    rw [GPackage.trs_map] at h1
    rw [List.flatMap_cons, List.flatMap_append, List.length_append, GPackage.trs_map, List.map_cons, Tr.bulkAll]
    omega
theorem GProgram.allSup_bulk (w : GProgram) : w.allSup.length ≤ Tr.bulkL w.tr := by
  have := packages_sup_bulk w.gPackages
  rw [GProgram.tr_cs]
  simp only [GProgram.cs, Tr.bulkL, Tr.bulk, GProgram.allSup]
  omega

theorem supers_len (w : GProgram) (name : ByteArray) : (w.supers name).length ≤ w.allSup.length := by
  have h := supF_inv w (supM w [] + 1) name []
  have h2 : supM w [] ≤ w.allSup.length := by unfold supM; exact List.countP_le_length
  unfold GProgram.supers
  simp only [List.length_nil] at h
  omega
theorem allSupP_impl (x0 : GProgram) (x1 : ByteArray) (w : World) (c0 : List Value) (h0 : RepL w x0.tr c0) (h1 : x1.size ≤ maxLen) (hb : x0.allSup.length ≤ 1099511627776) : Calls Tryz.prog 28 #[.agg ⟨c0⟩, .string x1] w fun e w' => ∃ v, e = .returned v ∧ Ext w w' ∧ Own w' (.row 1 (strTrs (x0.supers x1))) v (Between w w') := by
  rw [GProgram.tr_cs] at h0
  exact (allSupK x0 x1 hb).own (strTrs_flat _) (RVL0.cons (RV0.agg h0) (RVL0.cons (RV0.t (.leaf h1)) RVL0.nil))
theorem allSupP_spec (x0 : GProgram) (x1 : ByteArray) (w : World) (c0 : List Value) (h0 : RepL w x0.tr c0) (h1 : x1.size ≤ maxLen) (hb : x0.allSup.length ≤ 1099511627776) : Calls Tryz.prog 27 #[.agg ⟨c0⟩, .string x1] w fun e w' => ∃ v, e = .returned v ∧ Ext w w' ∧ Rep w' (.row 1 (strTrs (x0.supers x1))) v := by
  rw [GProgram.tr_cs] at h0
  exact (allSup_spec x0 x1 hb).plainR (RVL0.cons (RV0.agg h0) (RVL0.cons (RV0.t (.leaf h1)) RVL0.nil))

end Go.Proofs.YtnakkelglbcecaaGreat
