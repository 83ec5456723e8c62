/- Words, rules and walks of several kinds, laid together: PmT, PmFind, PmO, PmR, PmBool, Pma, PmDS, PmF, PmS, PmEq, PmaB, MaPath. No conditions but those that each theorem states. -/
import Derived.Test.YtnakkelglbcecaaGreatQ5LExactSupertraitPath
import Derived.Test.YtnakkelglbcecaaGreatProg
import Derived.Laws.MakeOwn
import Derived.Test.YtnakkelglbcecaaGreatQ1LExactSupertraitPath
import Derived.Test.YtnakkelglbcecaaGreatQ2LExactSupertraitPath
import Derived.Test.YtnakkelglbcecaaGreatQ3LExactSupertraitPath
import Derived.Test.YtnakkelglbcecaaGreatQ4LExactSupertraitPath
set_option linter.unusedSimpArgs false
set_option linter.unusedVariables false
namespace Go.Proofs.YtnakkelglbcecaaGreat
open Go.RowKit Go.Proofs

theorem sh3 : shapeOf Tryz.prog 3 = some (false, 1) := by kernel_rfl
theorem sz3 : (Tryz.prog.info? 3).map (·.size) = some 1 := by kernel_rfl
theorem zr3 : zerosOf Tryz.prog 3 = some [.t (.leaf (.int .i64 0))] := by kernel_rfl
theorem sh4 : shapeOf Tryz.prog 4 = some (false, 1) := by kernel_rfl
theorem sz4 : (Tryz.prog.info? 4).map (·.size) = some 1 := by kernel_rfl
theorem zr4 : zerosOf Tryz.prog 4 = some [.t (.leaf (.bool false))] := by kernel_rfl
theorem sh5 : shapeOf Tryz.prog 5 = some (false, 1) := by kernel_rfl
theorem sz5 : (Tryz.prog.info? 5).map (·.size) = some 1 := by kernel_rfl
theorem zr5 : zerosOf Tryz.prog 5 = some [.t (.leaf (.int .u8 0))] := by kernel_rfl
theorem sh9 : shapeOf Tryz.prog 9 = some (false, 1) := by kernel_rfl
theorem sz9 : (Tryz.prog.info? 9).map (·.size) = some 1 := by kernel_rfl
theorem zr9 : zerosOf Tryz.prog 9 = some [.t (.leaf (.string ⟨#[]⟩))] := by kernel_rfl
theorem sh22 : shapeOf Tryz.prog 22 = some (false, 1) := by kernel_rfl
theorem sz22 : (Tryz.prog.info? 22).map (·.size) = some 1 := by kernel_rfl
theorem el22 : elemOf? Tryz.prog 22 = some (166, 6, 136) := by kernel_rfl
theorem ze22 : (Tryz.prog.info? 166).bind (fun i => i.zero.map (fun z => z.cells.size)) = some 6 := by kernel_rfl
theorem zr22 : zerosOf Tryz.prog 22 = some [.nil] := by kernel_rfl
theorem sh24 : shapeOf Tryz.prog 24 = some (true, 1) := by kernel_rfl
theorem sz24 : (Tryz.prog.info? 24).map (·.size) = some 1 := by kernel_rfl
theorem zr24 : zerosOf Tryz.prog 24 = some [.nil] := by kernel_rfl
theorem sh26 : shapeOf Tryz.prog 26 = some (true, 2) := by kernel_rfl
theorem sz26 : (Tryz.prog.info? 26).map (·.size) = some 2 := by kernel_rfl
theorem zr26 : zerosOf Tryz.prog 26 = some [.t (.leaf (.int .i64 0)), .t (.leaf (.int .i64 0))] := by kernel_rfl
theorem sh29 : shapeOf Tryz.prog 29 = some (false, 1) := by kernel_rfl
theorem sz29 : (Tryz.prog.info? 29).map (·.size) = some 1 := by kernel_rfl
theorem el29 : elemOf? Tryz.prog 29 = some (126, 6, 136) := by kernel_rfl
theorem ze29 : (Tryz.prog.info? 126).bind (fun i => i.zero.map (fun z => z.cells.size)) = some 6 := by kernel_rfl
theorem zr29 : zerosOf Tryz.prog 29 = some [.nil] := by kernel_rfl
theorem sh31 : shapeOf Tryz.prog 31 = some (true, 1) := by kernel_rfl
theorem sz31 : (Tryz.prog.info? 31).map (·.size) = some 1 := by kernel_rfl
theorem zr31 : zerosOf Tryz.prog 31 = some [.nil] := by kernel_rfl
theorem sh33 : shapeOf Tryz.prog 33 = some (true, 2) := by kernel_rfl
theorem sz33 : (Tryz.prog.info? 33).map (·.size) = some 2 := by kernel_rfl
theorem zr33 : zerosOf Tryz.prog 33 = some [.t (.leaf (.int .i64 0)), .t (.leaf (.int .i64 0))] := by kernel_rfl
theorem pl33 : placesOf Tryz.prog 33 = some [(0, 1), (1, 1)] := by kernel_rfl
theorem sh37 : shapeOf Tryz.prog 37 = some (false, 1) := by kernel_rfl
theorem sz37 : (Tryz.prog.info? 37).map (·.size) = some 1 := by kernel_rfl
theorem el37 : elemOf? Tryz.prog 37 = some (39, 3, 48) := by kernel_rfl
theorem ze37 : (Tryz.prog.info? 39).bind (fun i => i.zero.map (fun z => z.cells.size)) = some 3 := by kernel_rfl
theorem zr37 : zerosOf Tryz.prog 37 = some [.nil] := by kernel_rfl
theorem sh39 : shapeOf Tryz.prog 39 = some (true, 3) := by kernel_rfl
theorem sz39 : (Tryz.prog.info? 39).map (·.size) = some 3 := by kernel_rfl
theorem zr39 : zerosOf Tryz.prog 39 = some [.t (.leaf (.int .i64 0)), .t (.leaf (.string ⟨#[]⟩)), .nil] := by kernel_rfl
theorem sh41 : shapeOf Tryz.prog 41 = some (true, 4) := by kernel_rfl
theorem sz41 : (Tryz.prog.info? 41).map (·.size) = some 4 := by kernel_rfl
theorem zr41 : zerosOf Tryz.prog 41 = some [.t (.leaf (.string ⟨#[]⟩)), .t (.leaf (.int .i64 0)), .t (.leaf (.string ⟨#[]⟩)), .nil] := by kernel_rfl
theorem sh45 : shapeOf Tryz.prog 45 = some (false, 1) := by kernel_rfl
theorem sz45 : (Tryz.prog.info? 45).map (·.size) = some 1 := by kernel_rfl
theorem el45 : elemOf? Tryz.prog 45 = some (47, 3, 48) := by kernel_rfl
theorem ze45 : (Tryz.prog.info? 47).bind (fun i => i.zero.map (fun z => z.cells.size)) = some 3 := by kernel_rfl
theorem zr45 : zerosOf Tryz.prog 45 = some [.nil] := by kernel_rfl
theorem sh47 : shapeOf Tryz.prog 47 = some (true, 3) := by kernel_rfl
theorem sz47 : (Tryz.prog.info? 47).map (·.size) = some 3 := by kernel_rfl
theorem zr47 : zerosOf Tryz.prog 47 = some [.t (.leaf (.int .i64 0)), .t (.leaf (.string ⟨#[]⟩)), .nil] := by kernel_rfl
theorem pl47 : placesOf Tryz.prog 47 = some [(0, 1), (1, 1), (2, 1)] := by kernel_rfl
theorem sh49 : shapeOf Tryz.prog 49 = some (true, 4) := by kernel_rfl
theorem sz49 : (Tryz.prog.info? 49).map (·.size) = some 4 := by kernel_rfl
theorem zr49 : zerosOf Tryz.prog 49 = some [.t (.leaf (.string ⟨#[]⟩)), .t (.leaf (.int .i64 0)), .t (.leaf (.string ⟨#[]⟩)), .nil] := by kernel_rfl
theorem pl49 : placesOf Tryz.prog 49 = some [(0, 1), (1, 3)] := by kernel_rfl
theorem sh54 : shapeOf Tryz.prog 54 = some (false, 1) := by kernel_rfl
theorem sz54 : (Tryz.prog.info? 54).map (·.size) = some 1 := by kernel_rfl
theorem el54 : elemOf? Tryz.prog 54 = some (9, 1, 16) := by kernel_rfl
theorem ze54 : (Tryz.prog.info? 9).bind (fun i => i.zero.map (fun z => z.cells.size)) = some 1 := by kernel_rfl
theorem zr54 : zerosOf Tryz.prog 54 = some [.nil] := by kernel_rfl
theorem sh60 : shapeOf Tryz.prog 60 = some (false, 1) := by kernel_rfl
theorem sz60 : (Tryz.prog.info? 60).map (·.size) = some 1 := by kernel_rfl
theorem el60 : elemOf? Tryz.prog 60 = some (3, 1, 8) := by kernel_rfl
theorem ze60 : (Tryz.prog.info? 3).bind (fun i => i.zero.map (fun z => z.cells.size)) = some 1 := by kernel_rfl
theorem zr60 : zerosOf Tryz.prog 60 = some [.nil] := by kernel_rfl
theorem sh66 : shapeOf Tryz.prog 66 = some (false, 1) := by kernel_rfl
theorem sz66 : (Tryz.prog.info? 66).map (·.size) = some 1 := by kernel_rfl
theorem el66 : elemOf? Tryz.prog 66 = some (33, 2, 16) := by kernel_rfl
theorem ze66 : (Tryz.prog.info? 33).bind (fun i => i.zero.map (fun z => z.cells.size)) = some 2 := by kernel_rfl
theorem zr66 : zerosOf Tryz.prog 66 = some [.nil] := by kernel_rfl
theorem sh75 : shapeOf Tryz.prog 75 = some (false, 1) := by kernel_rfl
theorem sz75 : (Tryz.prog.info? 75).map (·.size) = some 1 := by kernel_rfl
theorem sh78 : shapeOf Tryz.prog 78 = some (false, 1) := by kernel_rfl
theorem sz78 : (Tryz.prog.info? 78).map (·.size) = some 1 := by kernel_rfl
theorem el78 : elemOf? Tryz.prog 78 = some (41, 4, 64) := by kernel_rfl
theorem ze78 : (Tryz.prog.info? 41).bind (fun i => i.zero.map (fun z => z.cells.size)) = some 4 := by kernel_rfl
theorem zr78 : zerosOf Tryz.prog 78 = some [.nil] := by kernel_rfl
theorem sh80 : shapeOf Tryz.prog 80 = some (false, 1) := by kernel_rfl
theorem sz80 : (Tryz.prog.info? 80).map (·.size) = some 1 := by kernel_rfl
theorem el80 : elemOf? Tryz.prog 80 = some (147, 6, 96) := by kernel_rfl
theorem ze80 : (Tryz.prog.info? 147).bind (fun i => i.zero.map (fun z => z.cells.size)) = some 6 := by kernel_rfl
theorem zr80 : zerosOf Tryz.prog 80 = some [.nil] := by kernel_rfl
theorem sh82 : shapeOf Tryz.prog 82 = some (false, 1) := by kernel_rfl
theorem sz82 : (Tryz.prog.info? 82).map (·.size) = some 1 := by kernel_rfl
theorem el82 : elemOf? Tryz.prog 82 = some (49, 4, 64) := by kernel_rfl
theorem ze82 : (Tryz.prog.info? 49).bind (fun i => i.zero.map (fun z => z.cells.size)) = some 4 := by kernel_rfl
theorem zr82 : zerosOf Tryz.prog 82 = some [.nil] := by kernel_rfl
theorem sh92 : shapeOf Tryz.prog 92 = some (false, 1) := by kernel_rfl
theorem sz92 : (Tryz.prog.info? 92).map (·.size) = some 1 := by kernel_rfl
theorem el92 : elemOf? Tryz.prog 92 = some (191, 16, 264) := by kernel_rfl
theorem ze92 : (Tryz.prog.info? 191).bind (fun i => i.zero.map (fun z => z.cells.size)) = some 16 := by kernel_rfl
theorem zr92 : zerosOf Tryz.prog 92 = some [.nil] := by kernel_rfl
theorem sh94 : shapeOf Tryz.prog 94 = some (true, 5) := by kernel_rfl
theorem sz94 : (Tryz.prog.info? 94).map (·.size) = some 5 := by kernel_rfl
theorem zr94 : zerosOf Tryz.prog 94 = some [.t (.leaf (.string ⟨#[]⟩)), .nil, .t (.leaf (.bool false)), .t (.leaf (.bool false)), .nil] := by kernel_rfl
theorem pl94 : placesOf Tryz.prog 94 = some [(0, 1), (1, 1), (2, 1), (3, 1), (4, 1)] := by kernel_rfl
theorem sh99 : shapeOf Tryz.prog 99 = some (false, 1) := by kernel_rfl
theorem sz99 : (Tryz.prog.info? 99).map (·.size) = some 1 := by kernel_rfl
theorem el99 : elemOf? Tryz.prog 99 = some (199, 4, 64) := by kernel_rfl
theorem ze99 : (Tryz.prog.info? 199).bind (fun i => i.zero.map (fun z => z.cells.size)) = some 4 := by kernel_rfl
theorem zr99 : zerosOf Tryz.prog 99 = some [.nil] := by kernel_rfl
theorem sh100 : shapeOf Tryz.prog 100 = some (false, 1) := by kernel_rfl
theorem sz100 : (Tryz.prog.info? 100).map (·.size) = some 1 := by kernel_rfl
theorem el100 : elemOf? Tryz.prog 100 = some (103, 9, 144) := by kernel_rfl
theorem ze100 : (Tryz.prog.info? 103).bind (fun i => i.zero.map (fun z => z.cells.size)) = some 9 := by kernel_rfl
theorem zr100 : zerosOf Tryz.prog 100 = some [.nil] := by kernel_rfl
theorem sh101 : shapeOf Tryz.prog 101 = some (false, 1) := by kernel_rfl
theorem sz101 : (Tryz.prog.info? 101).map (·.size) = some 1 := by kernel_rfl
theorem el101 : elemOf? Tryz.prog 101 = some (229, 11, 184) := by kernel_rfl
theorem ze101 : (Tryz.prog.info? 229).bind (fun i => i.zero.map (fun z => z.cells.size)) = some 11 := by kernel_rfl
theorem zr101 : zerosOf Tryz.prog 101 = some [.nil] := by kernel_rfl
theorem sh103 : shapeOf Tryz.prog 103 = some (true, 9) := by kernel_rfl
theorem sz103 : (Tryz.prog.info? 103).map (·.size) = some 9 := by kernel_rfl
theorem zr103 : zerosOf Tryz.prog 103 = some [.t (.leaf (.int .i64 0)), .t (.leaf (.string ⟨#[]⟩)), .t (.leaf (.string ⟨#[]⟩)), .t (.leaf (.int .i64 0)), .t (.leaf (.int .i64 0)), .t (.leaf (.string ⟨#[]⟩)), .nil, .nil, .nil] := by kernel_rfl
theorem sh105 : shapeOf Tryz.prog 105 = some (true, 16) := by kernel_rfl
theorem sz105 : (Tryz.prog.info? 105).map (·.size) = some 16 := by kernel_rfl
theorem zr105 : zerosOf Tryz.prog 105 = some [.t (.leaf (.string ⟨#[]⟩)), .nil, .nil, .nil, .t (.leaf (.int .i64 0)), .t (.leaf (.string ⟨#[]⟩)), .nil, .t (.leaf (.int .i64 0)), .t (.leaf (.string ⟨#[]⟩)), .t (.leaf (.string ⟨#[]⟩)), .t (.leaf (.int .i64 0)), .t (.leaf (.int .i64 0)), .t (.leaf (.string ⟨#[]⟩)), .nil, .nil, .nil] := by kernel_rfl
theorem pl105 : placesOf Tryz.prog 105 = some [(0, 1), (1, 1), (2, 1), (3, 1), (4, 3), (7, 9)] := by kernel_rfl
theorem sh111 : shapeOf Tryz.prog 111 = some (false, 1) := by kernel_rfl
theorem sz111 : (Tryz.prog.info? 111).map (·.size) = some 1 := by kernel_rfl
theorem el111 : elemOf? Tryz.prog 111 = some (260, 11, 184) := by kernel_rfl
theorem ze111 : (Tryz.prog.info? 260).bind (fun i => i.zero.map (fun z => z.cells.size)) = some 11 := by kernel_rfl
theorem zr111 : zerosOf Tryz.prog 111 = some [.nil] := by kernel_rfl
theorem sh113 : shapeOf Tryz.prog 113 = some (true, 12) := by kernel_rfl
theorem sz113 : (Tryz.prog.info? 113).map (·.size) = some 12 := by kernel_rfl
theorem zr113 : zerosOf Tryz.prog 113 = some [.t (.leaf (.string ⟨#[]⟩)), .nil, .t (.leaf (.int .i64 0)), .t (.leaf (.string ⟨#[]⟩)), .nil, .nil, .t (.leaf (.bool false)), .t (.leaf (.bool false)), .t (.leaf (.int .i64 0)), .t (.leaf (.string ⟨#[]⟩)), .nil, .nil] := by kernel_rfl
theorem pl113 : placesOf Tryz.prog 113 = some [(0, 1), (1, 1), (2, 3), (5, 1), (6, 1), (7, 1), (8, 3), (11, 1)] := by kernel_rfl
theorem sh121 : shapeOf Tryz.prog 121 = some (false, 1) := by kernel_rfl
theorem sz121 : (Tryz.prog.info? 121).map (·.size) = some 1 := by kernel_rfl
theorem el121 : elemOf? Tryz.prog 121 = some (94, 5, 72) := by kernel_rfl
theorem ze121 : (Tryz.prog.info? 94).bind (fun i => i.zero.map (fun z => z.cells.size)) = some 5 := by kernel_rfl
theorem zr121 : zerosOf Tryz.prog 121 = some [.nil] := by kernel_rfl
theorem sh122 : shapeOf Tryz.prog 122 = some (false, 1) := by kernel_rfl
theorem sz122 : (Tryz.prog.info? 122).map (·.size) = some 1 := by kernel_rfl
theorem el122 : elemOf? Tryz.prog 122 = some (171, 3, 64) := by kernel_rfl
theorem ze122 : (Tryz.prog.info? 171).bind (fun i => i.zero.map (fun z => z.cells.size)) = some 3 := by kernel_rfl
theorem zr122 : zerosOf Tryz.prog 122 = some [.nil] := by kernel_rfl
theorem sh123 : shapeOf Tryz.prog 123 = some (false, 1) := by kernel_rfl
theorem sz123 : (Tryz.prog.info? 123).map (·.size) = some 1 := by kernel_rfl
theorem el123 : elemOf? Tryz.prog 123 = some (113, 12, 192) := by kernel_rfl
theorem ze123 : (Tryz.prog.info? 113).bind (fun i => i.zero.map (fun z => z.cells.size)) = some 12 := by kernel_rfl
theorem zr123 : zerosOf Tryz.prog 123 = some [.nil] := by kernel_rfl
theorem sh124 : shapeOf Tryz.prog 124 = some (false, 1) := by kernel_rfl
theorem sz124 : (Tryz.prog.info? 124).map (·.size) = some 1 := by kernel_rfl
theorem el124 : elemOf? Tryz.prog 124 = some (105, 16, 280) := by kernel_rfl
theorem ze124 : (Tryz.prog.info? 105).bind (fun i => i.zero.map (fun z => z.cells.size)) = some 16 := by kernel_rfl
theorem zr124 : zerosOf Tryz.prog 124 = some [.nil] := by kernel_rfl
theorem sh126 : shapeOf Tryz.prog 126 = some (true, 6) := by kernel_rfl
theorem sz126 : (Tryz.prog.info? 126).map (·.size) = some 6 := by kernel_rfl
theorem zr126 : zerosOf Tryz.prog 126 = some [.t (.leaf (.string ⟨#[]⟩)), .nil, .nil, .nil, .nil, .nil] := by kernel_rfl
theorem sh129 : shapeOf Tryz.prog 129 = some (false, 1) := by kernel_rfl
theorem sz129 : (Tryz.prog.info? 129).map (·.size) = some 1 := by kernel_rfl
theorem sh138 : shapeOf Tryz.prog 138 = some (false, 1) := by kernel_rfl
theorem sz138 : (Tryz.prog.info? 138).map (·.size) = some 1 := by kernel_rfl
theorem el138 : elemOf? Tryz.prog 138 = some (225, 4, 64) := by kernel_rfl
theorem ze138 : (Tryz.prog.info? 225).bind (fun i => i.zero.map (fun z => z.cells.size)) = some 4 := by kernel_rfl
theorem zr138 : zerosOf Tryz.prog 138 = some [.nil] := by kernel_rfl
theorem sh147 : shapeOf Tryz.prog 147 = some (true, 6) := by kernel_rfl
theorem sz147 : (Tryz.prog.info? 147).map (·.size) = some 6 := by kernel_rfl
theorem zr147 : zerosOf Tryz.prog 147 = some [.t (.leaf (.string ⟨#[]⟩)), .t (.leaf (.int .i64 0)), .t (.leaf (.string ⟨#[]⟩)), .nil, .t (.leaf (.int .i64 0)), .nil] := by kernel_rfl
theorem pl147 : placesOf Tryz.prog 147 = some [(0, 4), (4, 1), (5, 1)] := by kernel_rfl
theorem sh161 : shapeOf Tryz.prog 161 = some (false, 1) := by kernel_rfl
theorem sz161 : (Tryz.prog.info? 161).map (·.size) = some 1 := by kernel_rfl
theorem el161 : elemOf? Tryz.prog 161 = some (234, 5, 72) := by kernel_rfl
theorem ze161 : (Tryz.prog.info? 234).bind (fun i => i.zero.map (fun z => z.cells.size)) = some 5 := by kernel_rfl
theorem zr161 : zerosOf Tryz.prog 161 = some [.nil] := by kernel_rfl
theorem sh162 : shapeOf Tryz.prog 162 = some (false, 1) := by kernel_rfl
theorem sz162 : (Tryz.prog.info? 162).map (·.size) = some 1 := by kernel_rfl
theorem el162 : elemOf? Tryz.prog 162 = some (238, 3, 64) := by kernel_rfl
theorem ze162 : (Tryz.prog.info? 238).bind (fun i => i.zero.map (fun z => z.cells.size)) = some 3 := by kernel_rfl
theorem zr162 : zerosOf Tryz.prog 162 = some [.nil] := by kernel_rfl
theorem sh163 : shapeOf Tryz.prog 163 = some (false, 1) := by kernel_rfl
theorem sz163 : (Tryz.prog.info? 163).map (·.size) = some 1 := by kernel_rfl
theorem el163 : elemOf? Tryz.prog 163 = some (242, 12, 192) := by kernel_rfl
theorem ze163 : (Tryz.prog.info? 242).bind (fun i => i.zero.map (fun z => z.cells.size)) = some 12 := by kernel_rfl
theorem zr163 : zerosOf Tryz.prog 163 = some [.nil] := by kernel_rfl
theorem sh164 : shapeOf Tryz.prog 164 = some (false, 1) := by kernel_rfl
theorem sz164 : (Tryz.prog.info? 164).map (·.size) = some 1 := by kernel_rfl
theorem el164 : elemOf? Tryz.prog 164 = some (250, 16, 280) := by kernel_rfl
theorem ze164 : (Tryz.prog.info? 250).bind (fun i => i.zero.map (fun z => z.cells.size)) = some 16 := by kernel_rfl
theorem zr164 : zerosOf Tryz.prog 164 = some [.nil] := by kernel_rfl
theorem sh166 : shapeOf Tryz.prog 166 = some (true, 6) := by kernel_rfl
theorem sz166 : (Tryz.prog.info? 166).map (·.size) = some 6 := by kernel_rfl
theorem zr166 : zerosOf Tryz.prog 166 = some [.t (.leaf (.string ⟨#[]⟩)), .nil, .nil, .nil, .nil, .nil] := by kernel_rfl
theorem sh169 : shapeOf Tryz.prog 169 = some (false, 1) := by kernel_rfl
theorem sz169 : (Tryz.prog.info? 169).map (·.size) = some 1 := by kernel_rfl
theorem el169 : elemOf? Tryz.prog 169 = some (258, 2, 40) := by kernel_rfl
theorem ze169 : (Tryz.prog.info? 258).bind (fun i => i.zero.map (fun z => z.cells.size)) = some 2 := by kernel_rfl
theorem zr169 : zerosOf Tryz.prog 169 = some [.nil] := by kernel_rfl
theorem sh171 : shapeOf Tryz.prog 171 = some (true, 3) := by kernel_rfl
theorem sz171 : (Tryz.prog.info? 171).map (·.size) = some 3 := by kernel_rfl
theorem zr171 : zerosOf Tryz.prog 171 = some [.t (.leaf (.string ⟨#[]⟩)), .nil, .nil] := by kernel_rfl
theorem pl171 : placesOf Tryz.prog 171 = some [(0, 1), (1, 1), (2, 1)] := by kernel_rfl
theorem sh184 : shapeOf Tryz.prog 184 = some (false, 1) := by kernel_rfl
theorem sz184 : (Tryz.prog.info? 184).map (·.size) = some 1 := by kernel_rfl
theorem el184 : elemOf? Tryz.prog 184 = some (5, 1, 1) := by kernel_rfl
theorem ze184 : (Tryz.prog.info? 5).bind (fun i => i.zero.map (fun z => z.cells.size)) = some 1 := by kernel_rfl
theorem zr184 : zerosOf Tryz.prog 184 = some [.nil] := by kernel_rfl
theorem sh191 : shapeOf Tryz.prog 191 = some (true, 16) := by kernel_rfl
theorem sz191 : (Tryz.prog.info? 191).map (·.size) = some 16 := by kernel_rfl
theorem zr191 : zerosOf Tryz.prog 191 = some [.t (.leaf (.string ⟨#[]⟩)), .nil, .t (.leaf (.int .i64 0)), .t (.leaf (.string ⟨#[]⟩)), .nil, .t (.leaf (.bool false)), .nil, .t (.leaf (.int .i64 0)), .t (.leaf (.string ⟨#[]⟩)), .t (.leaf (.string ⟨#[]⟩)), .t (.leaf (.int .i64 0)), .t (.leaf (.int .i64 0)), .t (.leaf (.string ⟨#[]⟩)), .nil, .nil, .nil] := by kernel_rfl
theorem sh199 : shapeOf Tryz.prog 199 = some (true, 4) := by kernel_rfl
theorem sz199 : (Tryz.prog.info? 199).map (·.size) = some 4 := by kernel_rfl
theorem zr199 : zerosOf Tryz.prog 199 = some [.t (.leaf (.string ⟨#[]⟩)), .t (.leaf (.int .i64 0)), .t (.leaf (.string ⟨#[]⟩)), .nil] := by kernel_rfl
theorem pl199 : placesOf Tryz.prog 199 = some [(0, 1), (1, 3)] := by kernel_rfl
theorem sh219 : shapeOf Tryz.prog 219 = some (false, 1) := by kernel_rfl
theorem sz219 : (Tryz.prog.info? 219).map (·.size) = some 1 := by kernel_rfl
theorem sh225 : shapeOf Tryz.prog 225 = some (true, 4) := by kernel_rfl
theorem sz225 : (Tryz.prog.info? 225).map (·.size) = some 4 := by kernel_rfl
theorem zr225 : zerosOf Tryz.prog 225 = some [.t (.leaf (.string ⟨#[]⟩)), .t (.leaf (.int .i64 0)), .t (.leaf (.string ⟨#[]⟩)), .nil] := by kernel_rfl
theorem pl225 : placesOf Tryz.prog 225 = some [(0, 1), (1, 3)] := by kernel_rfl
theorem sh229 : shapeOf Tryz.prog 229 = some (true, 11) := by kernel_rfl
theorem sz229 : (Tryz.prog.info? 229).map (·.size) = some 11 := by kernel_rfl
theorem zr229 : zerosOf Tryz.prog 229 = some [.t (.leaf (.string ⟨#[]⟩)), .nil, .t (.leaf (.int .i64 0)), .t (.leaf (.string ⟨#[]⟩)), .t (.leaf (.string ⟨#[]⟩)), .t (.leaf (.int .i64 0)), .t (.leaf (.int .i64 0)), .t (.leaf (.string ⟨#[]⟩)), .nil, .nil, .nil] := by kernel_rfl
theorem pl229 : placesOf Tryz.prog 229 = some [(0, 1), (1, 1), (2, 9)] := by kernel_rfl
theorem sh232 : shapeOf Tryz.prog 232 = some (false, 1) := by kernel_rfl
theorem sz232 : (Tryz.prog.info? 232).map (·.size) = some 1 := by kernel_rfl
theorem el232 : elemOf? Tryz.prog 232 = some (277, 16, 264) := by kernel_rfl
theorem ze232 : (Tryz.prog.info? 277).bind (fun i => i.zero.map (fun z => z.cells.size)) = some 16 := by kernel_rfl
theorem zr232 : zerosOf Tryz.prog 232 = some [.nil] := by kernel_rfl
theorem sh234 : shapeOf Tryz.prog 234 = some (true, 5) := by kernel_rfl
theorem sz234 : (Tryz.prog.info? 234).map (·.size) = some 5 := by kernel_rfl
theorem zr234 : zerosOf Tryz.prog 234 = some [.t (.leaf (.string ⟨#[]⟩)), .nil, .t (.leaf (.bool false)), .t (.leaf (.bool false)), .nil] := by kernel_rfl
theorem sh236 : shapeOf Tryz.prog 236 = some (false, 1) := by kernel_rfl
theorem sz236 : (Tryz.prog.info? 236).map (·.size) = some 1 := by kernel_rfl
theorem el236 : elemOf? Tryz.prog 236 = some (280, 2, 40) := by kernel_rfl
theorem ze236 : (Tryz.prog.info? 280).bind (fun i => i.zero.map (fun z => z.cells.size)) = some 2 := by kernel_rfl
theorem zr236 : zerosOf Tryz.prog 236 = some [.nil] := by kernel_rfl
theorem sh238 : shapeOf Tryz.prog 238 = some (true, 3) := by kernel_rfl
theorem sz238 : (Tryz.prog.info? 238).map (·.size) = some 3 := by kernel_rfl
theorem zr238 : zerosOf Tryz.prog 238 = some [.t (.leaf (.string ⟨#[]⟩)), .nil, .nil] := by kernel_rfl
theorem sh240 : shapeOf Tryz.prog 240 = some (false, 1) := by kernel_rfl
theorem sz240 : (Tryz.prog.info? 240).map (·.size) = some 1 := by kernel_rfl
theorem el240 : elemOf? Tryz.prog 240 = some (283, 11, 184) := by kernel_rfl
theorem ze240 : (Tryz.prog.info? 283).bind (fun i => i.zero.map (fun z => z.cells.size)) = some 11 := by kernel_rfl
theorem zr240 : zerosOf Tryz.prog 240 = some [.nil] := by kernel_rfl
theorem sh242 : shapeOf Tryz.prog 242 = some (true, 12) := by kernel_rfl
theorem sz242 : (Tryz.prog.info? 242).map (·.size) = some 12 := by kernel_rfl
theorem zr242 : zerosOf Tryz.prog 242 = some [.t (.leaf (.string ⟨#[]⟩)), .nil, .t (.leaf (.int .i64 0)), .t (.leaf (.string ⟨#[]⟩)), .nil, .nil, .t (.leaf (.bool false)), .t (.leaf (.bool false)), .t (.leaf (.int .i64 0)), .t (.leaf (.string ⟨#[]⟩)), .nil, .nil] := by kernel_rfl
theorem sh244 : shapeOf Tryz.prog 244 = some (false, 1) := by kernel_rfl
theorem sz244 : (Tryz.prog.info? 244).map (·.size) = some 1 := by kernel_rfl
theorem el244 : elemOf? Tryz.prog 244 = some (286, 4, 64) := by kernel_rfl
theorem ze244 : (Tryz.prog.info? 286).bind (fun i => i.zero.map (fun z => z.cells.size)) = some 4 := by kernel_rfl
theorem zr244 : zerosOf Tryz.prog 244 = some [.nil] := by kernel_rfl
theorem sh245 : shapeOf Tryz.prog 245 = some (false, 1) := by kernel_rfl
theorem sz245 : (Tryz.prog.info? 245).map (·.size) = some 1 := by kernel_rfl
theorem el245 : elemOf? Tryz.prog 245 = some (248, 9, 144) := by kernel_rfl
theorem ze245 : (Tryz.prog.info? 248).bind (fun i => i.zero.map (fun z => z.cells.size)) = some 9 := by kernel_rfl
theorem zr245 : zerosOf Tryz.prog 245 = some [.nil] := by kernel_rfl
theorem sh246 : shapeOf Tryz.prog 246 = some (false, 1) := by kernel_rfl
theorem sz246 : (Tryz.prog.info? 246).map (·.size) = some 1 := by kernel_rfl
theorem el246 : elemOf? Tryz.prog 246 = some (299, 11, 184) := by kernel_rfl
theorem ze246 : (Tryz.prog.info? 299).bind (fun i => i.zero.map (fun z => z.cells.size)) = some 11 := by kernel_rfl
theorem zr246 : zerosOf Tryz.prog 246 = some [.nil] := by kernel_rfl
theorem sh248 : shapeOf Tryz.prog 248 = some (true, 9) := by kernel_rfl
theorem sz248 : (Tryz.prog.info? 248).map (·.size) = some 9 := by kernel_rfl
theorem zr248 : zerosOf Tryz.prog 248 = some [.t (.leaf (.int .i64 0)), .t (.leaf (.string ⟨#[]⟩)), .t (.leaf (.string ⟨#[]⟩)), .t (.leaf (.int .i64 0)), .t (.leaf (.int .i64 0)), .t (.leaf (.string ⟨#[]⟩)), .nil, .nil, .nil] := by kernel_rfl
theorem sh250 : shapeOf Tryz.prog 250 = some (true, 16) := by kernel_rfl
theorem sz250 : (Tryz.prog.info? 250).map (·.size) = some 16 := by kernel_rfl
theorem zr250 : zerosOf Tryz.prog 250 = some [.t (.leaf (.string ⟨#[]⟩)), .nil, .nil, .nil, .t (.leaf (.int .i64 0)), .t (.leaf (.string ⟨#[]⟩)), .nil, .t (.leaf (.int .i64 0)), .t (.leaf (.string ⟨#[]⟩)), .t (.leaf (.string ⟨#[]⟩)), .t (.leaf (.int .i64 0)), .t (.leaf (.int .i64 0)), .t (.leaf (.string ⟨#[]⟩)), .nil, .nil, .nil] := by kernel_rfl
theorem sh258 : shapeOf Tryz.prog 258 = some (true, 2) := by kernel_rfl
theorem sz258 : (Tryz.prog.info? 258).map (·.size) = some 2 := by kernel_rfl
theorem zr258 : zerosOf Tryz.prog 258 = some [.t (.leaf (.string ⟨#[]⟩)), .nil] := by kernel_rfl
theorem sh260 : shapeOf Tryz.prog 260 = some (true, 11) := by kernel_rfl
theorem sz260 : (Tryz.prog.info? 260).map (·.size) = some 11 := by kernel_rfl
theorem zr260 : zerosOf Tryz.prog 260 = some [.t (.leaf (.string ⟨#[]⟩)), .nil, .t (.leaf (.int .i64 0)), .t (.leaf (.string ⟨#[]⟩)), .t (.leaf (.string ⟨#[]⟩)), .t (.leaf (.int .i64 0)), .t (.leaf (.int .i64 0)), .t (.leaf (.string ⟨#[]⟩)), .nil, .nil, .nil] := by kernel_rfl
theorem sh277 : shapeOf Tryz.prog 277 = some (true, 16) := by kernel_rfl
theorem sz277 : (Tryz.prog.info? 277).map (·.size) = some 16 := by kernel_rfl
theorem zr277 : zerosOf Tryz.prog 277 = some [.t (.leaf (.string ⟨#[]⟩)), .nil, .t (.leaf (.int .i64 0)), .t (.leaf (.string ⟨#[]⟩)), .nil, .t (.leaf (.bool false)), .nil, .t (.leaf (.int .i64 0)), .t (.leaf (.string ⟨#[]⟩)), .t (.leaf (.string ⟨#[]⟩)), .t (.leaf (.int .i64 0)), .t (.leaf (.int .i64 0)), .t (.leaf (.string ⟨#[]⟩)), .nil, .nil, .nil] := by kernel_rfl
theorem sh280 : shapeOf Tryz.prog 280 = some (true, 2) := by kernel_rfl
theorem sz280 : (Tryz.prog.info? 280).map (·.size) = some 2 := by kernel_rfl
theorem zr280 : zerosOf Tryz.prog 280 = some [.t (.leaf (.string ⟨#[]⟩)), .nil] := by kernel_rfl
theorem sh283 : shapeOf Tryz.prog 283 = some (true, 11) := by kernel_rfl
theorem sz283 : (Tryz.prog.info? 283).map (·.size) = some 11 := by kernel_rfl
theorem zr283 : zerosOf Tryz.prog 283 = some [.t (.leaf (.string ⟨#[]⟩)), .nil, .t (.leaf (.int .i64 0)), .t (.leaf (.string ⟨#[]⟩)), .t (.leaf (.string ⟨#[]⟩)), .t (.leaf (.int .i64 0)), .t (.leaf (.int .i64 0)), .t (.leaf (.string ⟨#[]⟩)), .nil, .nil, .nil] := by kernel_rfl
theorem sh286 : shapeOf Tryz.prog 286 = some (true, 4) := by kernel_rfl
theorem sz286 : (Tryz.prog.info? 286).map (·.size) = some 4 := by kernel_rfl
theorem zr286 : zerosOf Tryz.prog 286 = some [.t (.leaf (.string ⟨#[]⟩)), .t (.leaf (.int .i64 0)), .t (.leaf (.string ⟨#[]⟩)), .nil] := by kernel_rfl
theorem sh299 : shapeOf Tryz.prog 299 = some (true, 11) := by kernel_rfl
theorem sz299 : (Tryz.prog.info? 299).map (·.size) = some 11 := by kernel_rfl
theorem zr299 : zerosOf Tryz.prog 299 = some [.t (.leaf (.string ⟨#[]⟩)), .nil, .t (.leaf (.int .i64 0)), .t (.leaf (.string ⟨#[]⟩)), .t (.leaf (.string ⟨#[]⟩)), .t (.leaf (.int .i64 0)), .t (.leaf (.int .i64 0)), .t (.leaf (.string ⟨#[]⟩)), .nil, .nil, .nil] := by kernel_rfl
theorem fo24_0 : fieldOff Tryz.prog 24 0 = some 0 := by kernel_rfl
theorem fo26_0 : fieldOff Tryz.prog 26 0 = some 0 := by kernel_rfl
theorem fo26_1 : fieldOff Tryz.prog 26 1 = some 1 := by kernel_rfl
theorem fo31_0 : fieldOff Tryz.prog 31 0 = some 0 := by kernel_rfl
theorem fo33_0 : fieldOff Tryz.prog 33 0 = some 0 := by kernel_rfl
theorem fo33_1 : fieldOff Tryz.prog 33 1 = some 1 := by kernel_rfl
theorem fo39_0 : fieldOff Tryz.prog 39 0 = some 0 := by kernel_rfl
theorem fo39_1 : fieldOff Tryz.prog 39 1 = some 1 := by kernel_rfl
theorem fo39_2 : fieldOff Tryz.prog 39 2 = some 2 := by kernel_rfl
theorem fo41_0 : fieldOff Tryz.prog 41 0 = some 0 := by kernel_rfl
theorem fo41_1 : fieldOff Tryz.prog 41 1 = some 1 := by kernel_rfl
theorem fo47_0 : fieldOff Tryz.prog 47 0 = some 0 := by kernel_rfl
theorem fo47_1 : fieldOff Tryz.prog 47 1 = some 1 := by kernel_rfl
theorem fo47_2 : fieldOff Tryz.prog 47 2 = some 2 := by kernel_rfl
theorem fo49_0 : fieldOff Tryz.prog 49 0 = some 0 := by kernel_rfl
theorem fo49_1 : fieldOff Tryz.prog 49 1 = some 1 := by kernel_rfl
theorem fo94_0 : fieldOff Tryz.prog 94 0 = some 0 := by kernel_rfl
theorem fo94_1 : fieldOff Tryz.prog 94 1 = some 1 := by kernel_rfl
theorem fo94_2 : fieldOff Tryz.prog 94 2 = some 2 := by kernel_rfl
theorem fo94_3 : fieldOff Tryz.prog 94 3 = some 3 := by kernel_rfl
theorem fo94_4 : fieldOff Tryz.prog 94 4 = some 4 := by kernel_rfl
theorem fo103_0 : fieldOff Tryz.prog 103 0 = some 0 := by kernel_rfl
theorem fo103_1 : fieldOff Tryz.prog 103 1 = some 1 := by kernel_rfl
theorem fo103_2 : fieldOff Tryz.prog 103 2 = some 2 := by kernel_rfl
theorem fo103_3 : fieldOff Tryz.prog 103 3 = some 3 := by kernel_rfl
theorem fo103_4 : fieldOff Tryz.prog 103 4 = some 4 := by kernel_rfl
theorem fo103_5 : fieldOff Tryz.prog 103 5 = some 7 := by kernel_rfl
theorem fo103_6 : fieldOff Tryz.prog 103 6 = some 8 := by kernel_rfl
theorem fo105_0 : fieldOff Tryz.prog 105 0 = some 0 := by kernel_rfl
theorem fo105_1 : fieldOff Tryz.prog 105 1 = some 1 := by kernel_rfl
theorem fo105_2 : fieldOff Tryz.prog 105 2 = some 2 := by kernel_rfl
theorem fo105_3 : fieldOff Tryz.prog 105 3 = some 3 := by kernel_rfl
theorem fo105_4 : fieldOff Tryz.prog 105 4 = some 4 := by kernel_rfl
theorem fo105_5 : fieldOff Tryz.prog 105 5 = some 7 := by kernel_rfl
theorem fo113_0 : fieldOff Tryz.prog 113 0 = some 0 := by kernel_rfl
theorem fo113_1 : fieldOff Tryz.prog 113 1 = some 1 := by kernel_rfl
theorem fo113_2 : fieldOff Tryz.prog 113 2 = some 2 := by kernel_rfl
theorem fo113_3 : fieldOff Tryz.prog 113 3 = some 5 := by kernel_rfl
theorem fo113_4 : fieldOff Tryz.prog 113 4 = some 6 := by kernel_rfl
theorem fo113_5 : fieldOff Tryz.prog 113 5 = some 7 := by kernel_rfl
theorem fo113_6 : fieldOff Tryz.prog 113 6 = some 8 := by kernel_rfl
theorem fo113_7 : fieldOff Tryz.prog 113 7 = some 11 := by kernel_rfl
theorem fo126_0 : fieldOff Tryz.prog 126 0 = some 0 := by kernel_rfl
theorem fo126_1 : fieldOff Tryz.prog 126 1 = some 1 := by kernel_rfl
theorem fo126_2 : fieldOff Tryz.prog 126 2 = some 2 := by kernel_rfl
theorem fo126_3 : fieldOff Tryz.prog 126 3 = some 3 := by kernel_rfl
theorem fo126_4 : fieldOff Tryz.prog 126 4 = some 4 := by kernel_rfl
theorem fo126_5 : fieldOff Tryz.prog 126 5 = some 5 := by kernel_rfl
theorem fo147_0 : fieldOff Tryz.prog 147 0 = some 0 := by kernel_rfl
theorem fo147_1 : fieldOff Tryz.prog 147 1 = some 4 := by kernel_rfl
theorem fo147_2 : fieldOff Tryz.prog 147 2 = some 5 := by kernel_rfl
theorem fo166_0 : fieldOff Tryz.prog 166 0 = some 0 := by kernel_rfl
theorem fo166_1 : fieldOff Tryz.prog 166 1 = some 1 := by kernel_rfl
theorem fo166_2 : fieldOff Tryz.prog 166 2 = some 2 := by kernel_rfl
theorem fo166_3 : fieldOff Tryz.prog 166 3 = some 3 := by kernel_rfl
theorem fo166_4 : fieldOff Tryz.prog 166 4 = some 4 := by kernel_rfl
theorem fo166_5 : fieldOff Tryz.prog 166 5 = some 5 := by kernel_rfl
theorem fo171_0 : fieldOff Tryz.prog 171 0 = some 0 := by kernel_rfl
theorem fo171_1 : fieldOff Tryz.prog 171 1 = some 1 := by kernel_rfl
theorem fo171_2 : fieldOff Tryz.prog 171 2 = some 2 := by kernel_rfl
theorem fo191_0 : fieldOff Tryz.prog 191 0 = some 0 := by kernel_rfl
theorem fo191_1 : fieldOff Tryz.prog 191 1 = some 1 := by kernel_rfl
theorem fo191_2 : fieldOff Tryz.prog 191 2 = some 2 := by kernel_rfl
theorem fo191_3 : fieldOff Tryz.prog 191 3 = some 5 := by kernel_rfl
theorem fo191_4 : fieldOff Tryz.prog 191 4 = some 6 := by kernel_rfl
theorem fo191_5 : fieldOff Tryz.prog 191 5 = some 7 := by kernel_rfl
theorem fo199_0 : fieldOff Tryz.prog 199 0 = some 0 := by kernel_rfl
theorem fo199_1 : fieldOff Tryz.prog 199 1 = some 1 := by kernel_rfl
theorem fo225_0 : fieldOff Tryz.prog 225 0 = some 0 := by kernel_rfl
theorem fo225_1 : fieldOff Tryz.prog 225 1 = some 1 := by kernel_rfl
theorem fo229_0 : fieldOff Tryz.prog 229 0 = some 0 := by kernel_rfl
theorem fo229_1 : fieldOff Tryz.prog 229 1 = some 1 := by kernel_rfl
theorem fo229_2 : fieldOff Tryz.prog 229 2 = some 2 := by kernel_rfl
theorem fo234_0 : fieldOff Tryz.prog 234 0 = some 0 := by kernel_rfl
theorem fo234_1 : fieldOff Tryz.prog 234 1 = some 1 := by kernel_rfl
theorem fo234_2 : fieldOff Tryz.prog 234 2 = some 2 := by kernel_rfl
theorem fo234_3 : fieldOff Tryz.prog 234 3 = some 3 := by kernel_rfl
theorem fo234_4 : fieldOff Tryz.prog 234 4 = some 4 := by kernel_rfl
theorem fo238_0 : fieldOff Tryz.prog 238 0 = some 0 := by kernel_rfl
theorem fo238_1 : fieldOff Tryz.prog 238 1 = some 1 := by kernel_rfl
theorem fo238_2 : fieldOff Tryz.prog 238 2 = some 2 := by kernel_rfl
theorem fo242_0 : fieldOff Tryz.prog 242 0 = some 0 := by kernel_rfl
theorem fo242_1 : fieldOff Tryz.prog 242 1 = some 1 := by kernel_rfl
theorem fo242_2 : fieldOff Tryz.prog 242 2 = some 2 := by kernel_rfl
theorem fo242_3 : fieldOff Tryz.prog 242 3 = some 5 := by kernel_rfl
theorem fo242_4 : fieldOff Tryz.prog 242 4 = some 6 := by kernel_rfl
theorem fo242_5 : fieldOff Tryz.prog 242 5 = some 7 := by kernel_rfl
theorem fo242_6 : fieldOff Tryz.prog 242 6 = some 8 := by kernel_rfl
theorem fo242_7 : fieldOff Tryz.prog 242 7 = some 11 := by kernel_rfl
theorem fo248_0 : fieldOff Tryz.prog 248 0 = some 0 := by kernel_rfl
theorem fo248_1 : fieldOff Tryz.prog 248 1 = some 1 := by kernel_rfl
theorem fo248_2 : fieldOff Tryz.prog 248 2 = some 2 := by kernel_rfl
theorem fo248_3 : fieldOff Tryz.prog 248 3 = some 3 := by kernel_rfl
theorem fo248_4 : fieldOff Tryz.prog 248 4 = some 4 := by kernel_rfl
theorem fo248_5 : fieldOff Tryz.prog 248 5 = some 7 := by kernel_rfl
theorem fo248_6 : fieldOff Tryz.prog 248 6 = some 8 := by kernel_rfl
theorem fo250_0 : fieldOff Tryz.prog 250 0 = some 0 := by kernel_rfl
theorem fo250_1 : fieldOff Tryz.prog 250 1 = some 1 := by kernel_rfl
theorem fo250_2 : fieldOff Tryz.prog 250 2 = some 2 := by kernel_rfl
theorem fo250_3 : fieldOff Tryz.prog 250 3 = some 3 := by kernel_rfl
theorem fo250_4 : fieldOff Tryz.prog 250 4 = some 4 := by kernel_rfl
theorem fo250_5 : fieldOff Tryz.prog 250 5 = some 7 := by kernel_rfl
theorem fo258_0 : fieldOff Tryz.prog 258 0 = some 0 := by kernel_rfl
theorem fo258_1 : fieldOff Tryz.prog 258 1 = some 1 := by kernel_rfl
theorem fo260_0 : fieldOff Tryz.prog 260 0 = some 0 := by kernel_rfl
theorem fo260_1 : fieldOff Tryz.prog 260 1 = some 1 := by kernel_rfl
theorem fo260_2 : fieldOff Tryz.prog 260 2 = some 2 := by kernel_rfl
theorem fo277_0 : fieldOff Tryz.prog 277 0 = some 0 := by kernel_rfl
theorem fo277_1 : fieldOff Tryz.prog 277 1 = some 1 := by kernel_rfl
theorem fo277_2 : fieldOff Tryz.prog 277 2 = some 2 := by kernel_rfl
theorem fo277_3 : fieldOff Tryz.prog 277 3 = some 5 := by kernel_rfl
theorem fo277_4 : fieldOff Tryz.prog 277 4 = some 6 := by kernel_rfl
theorem fo277_5 : fieldOff Tryz.prog 277 5 = some 7 := by kernel_rfl
theorem fo280_0 : fieldOff Tryz.prog 280 0 = some 0 := by kernel_rfl
theorem fo280_1 : fieldOff Tryz.prog 280 1 = some 1 := by kernel_rfl
theorem fo283_0 : fieldOff Tryz.prog 283 0 = some 0 := by kernel_rfl
theorem fo283_1 : fieldOff Tryz.prog 283 1 = some 1 := by kernel_rfl
theorem fo283_2 : fieldOff Tryz.prog 283 2 = some 2 := by kernel_rfl
theorem fo286_0 : fieldOff Tryz.prog 286 0 = some 0 := by kernel_rfl
theorem fo286_1 : fieldOff Tryz.prog 286 1 = some 1 := by kernel_rfl
theorem fo299_0 : fieldOff Tryz.prog 299 0 = some 0 := by kernel_rfl
theorem fo299_1 : fieldOff Tryz.prog 299 1 = some 1 := by kernel_rfl
theorem fo299_2 : fieldOff Tryz.prog 299 2 = some 2 := by kernel_rfl
theorem mixed : Tryz.prog.follows .mixedOrders = true := by kernel_rfl
end Go.Proofs.YtnakkelglbcecaaGreat

namespace Go.Proofs.YtnakkelglbcecaaGreat
open Go.RowKit Go.Proofs
set_option linter.unusedSimpArgs false
set_option linter.unusedVariables false

/-- The first item of a name in a list of packages, and its package's number. -/
def findP {α : Type} (key : α → ByteArray) (items : GPackage → List α) (s : ByteArray) : Nat → List GPackage → Option (α × Nat)
  | _, [] => none
  | i, p :: ps => match (items p).find? (fun x => decide (key x = s)) with
    | some x => some (x, i)
    | none => findP key items s (i + 1) ps
theorem findP_hit {α : Type} {key : α → ByteArray} {items : GPackage → List α} {s : ByteArray} {ps : List GPackage} {i k : Nat} (hi : i < ps.length) (hk : k < (items ps[i]).length) (h1 : findP key items s 0 ps = findP key items s i (ps.drop i)) (h2 : (items ps[i]).find? (fun x => decide (key x = s)) = ((items ps[i]).drop k).find? (fun x => decide (key x = s)))
    (h : key (items ps[i])[k] = s) : findP key items s 0 ps = some ((items ps[i])[k], i) := by
  rw [h1, List.drop_eq_getElem_cons hi, findP, h2, List.drop_eq_getElem_cons hk, List.find?_cons_of_pos (by simpa using h)]
theorem findP_next {α : Type} {key : α → ByteArray} {items : GPackage → List α} {s : ByteArray} {p : GPackage} {k : Nat} (hk : k < (items p).length) (h2 : (items p).find? (fun x => decide (key x = s)) = ((items p).drop k).find? (fun x => decide (key x = s)))
    (h : ¬ key (items p)[k] = s) : (items p).find? (fun x => decide (key x = s)) = ((items p).drop (k + 1)).find? (fun x => decide (key x = s)) := by
  rw [h2, List.drop_eq_getElem_cons hk, List.find?_cons_of_neg (by simpa using h)]
theorem findP_miss {α : Type} {key : α → ByteArray} {items : GPackage → List α} {s : ByteArray} {ps : List GPackage} {i k : Nat} (hi : i < ps.length) (h1 : findP key items s 0 ps = findP key items s i (ps.drop i)) (h2 : (items ps[i]).find? (fun x => decide (key x = s)) = ((items ps[i]).drop k).find? (fun x => decide (key x = s)))
    (hk : (items ps[i]).length ≤ k) : findP key items s 0 ps = findP key items s (i + 1) (ps.drop (i + 1)) := by
  rw [h1, List.drop_eq_getElem_cons hi, findP, h2, List.drop_eq_nil_of_le hk]
  rfl
theorem findP_end {α : Type} {key : α → ByteArray} {items : GPackage → List α} {s : ByteArray} {ps : List GPackage} {i : Nat} (h1 : findP key items s 0 ps = findP key items s i (ps.drop i)) (hi : ps.length ≤ i) : findP key items s 0 ps = none := by
  rw [h1, List.drop_eq_nil_of_le hi, findP]
def oInt {α : Type} (o : Option (α × Nat)) : Int := match o with | some (_, i) => (i : Int) | none => 0

def GProgram.traitAt (w : GProgram) (s : ByteArray) : Option (GTrait × Nat) := findP GTrait.gName GPackage.gTraits s 0 w.gPackages
def GTrait.zero : GTrait := .mk ⟨#[]⟩ [] false false []
def oTrait (o : Option (GTrait × Nat)) : GTrait := match o with | some (x, _) => x | none => GTrait.zero
abbrev optTrait (o : Option (GTrait × Nat)) : PV := .tup [GTrait.pv (oTrait o), .t (.leaf (.int .i64 (oInt o))), .t (.leaf (.bool o.isSome))]
theorem optTrait_some {o : Option (GTrait × Nat)} {x : GTrait} {i : Nat} (h : o = some (x, i)) : PV.tup [GTrait.pv x, .t (.leaf (.int .i64 (i : Int))), .t (.leaf (.bool true))] = optTrait o := by rw [h]; rfl
theorem optTrait_none {o : Option (GTrait × Nat)} (h : o = none) : PV.tup [GTrait.pv GTrait.zero, .t (.leaf (.int .i64 0)), .t (.leaf (.bool false))] = optTrait o := by rw [h]; rfl

set_option maxRecDepth 100000 in
set_option maxHeartbeats 4000000 in
theorem trait_impl (w : GProgram) (s : ByteArray) : AFun Tryz.prog 82 [(GProgram.pv w), .t (.leaf (.string (s)))] (.tup [(GTrait.pv (oTrait (w.traitAt s))), .t (.leaf (.int .i64 (oInt (w.traitAt s)))), .t (.leaf (.bool ((w.traitAt s).isSome)))]) := by
  refine ACalls.intro Tryz.func82 rfl (by first | decide | (simp; done) | (simp; decide)) ?_
  intro C hC
  refine AWP.seq ?_
  refine AWP.region_lit ?_
  refine AL.cons rfl (AOp.box (cs := [.t (.row 6 (GPackage.trs (w.gPackages)))]) rfl rfl rfl rfl rfl) ?_
  refine AL.cons rfl (AOp.alloc rfl rfl zr94) ?_
  refine AL.cons rfl (AOp.move (.inr rfl) rfl rfl) ?_
  refine AL.cons rfl (AOp.move (.inr rfl) rfl rfl) ?_
  refine AL.nil ?_
  refine AWP.seq ?_
  refine AWP.seq ?_
  refine AWP.region_lit ?_
  refine AL.cons rfl (AOp.fieldPtr (k := 0) (d := 0) (e := 0) rfl rfl rfl fo31_0) ?_
  refine AL.cons rfl (AOp.loadPtr1 rfl rfl rfl rfl sh29 rfl) ?_
  refine AL.fact (lk_lenN 12 rfl rfl (GPackage.trs_len _)) (fun hl1 => ?_)
  refine AL.cons rfl (AOp.lenN rfl rfl rfl rfl el29 (GPackage.trs_len _)) ?_
  refine AL.cons rfl (AOp.move (.inl rfl) rfl rfl) ?_
  refine AL.nil ?_
  refine AWP.block ?_
  refine AWP.loopJ (ι := Nat) (fun i => i ≤ w.gPackages.length ∧ findP GTrait.gName GPackage.gTraits s 0 w.gPackages = findP GTrait.gName GPackage.gTraits s i (w.gPackages.drop i)) (fun i => ⟨[(0, (GProgram.pv w)), (1, .t (.leaf (.string (s)))), (2, .ptr 0 0), (4, .ptr 1 0), (12, .t (.row 6 (GPackage.trs (w.gPackages)))), (13, .t (.leaf (.int .i64 (((w.gPackages.length : Nat) : Int))))), (14, .t (.leaf (.int .i64 (((i : Nat) : Int)))))], ⟨[some ⟨31, [.t (.row 6 (GPackage.trs (w.gPackages)))]⟩, some ⟨94, [.t (.leaf (.string (⟨#[]⟩))), .nil, .t (.leaf (.bool (false))), .t (.leaf (.bool (false))), .nil]⟩], []⟩⟩) (fun i => w.gPackages.length - i) 0 ?_ ?_ ?_
  · exact ⟨Nat.zero_le _, rfl⟩
  · skip
    exact Wk.mk (StLe.mk' ⟨⟨rfl, by (repeat' (first | exact PV.Le.refl _ | exact LeL.nil | exact PV.Le.nil _ | exact PV.Le.acc _ _ _ | apply LeL.cons | apply PV.Le.agg | apply PV.Le.tup)), rfl⟩, ⟨⟨rfl, by (repeat' (first | exact PV.Le.refl _ | exact LeL.nil | exact PV.Le.nil _ | exact PV.Le.acc _ _ _ | apply LeL.cons | apply PV.Le.agg | apply PV.Le.tup)), rfl⟩, trivial⟩⟩ rfl) (keeps_nil hC) ⟨⟨_, rfl, .refl _, rfl⟩, ⟨⟨_, rfl, .refl _, rfl⟩, ⟨⟨_, rfl, .refl _, rfl⟩, ⟨⟨_, rfl, .refl _, rfl⟩, ⟨⟨_, rfl, .refl _, rfl⟩, ⟨⟨_, rfl, .refl _, rfl⟩, ⟨⟨_, rfl, by (repeat' (first | exact PV.Le.refl _ | exact LeL.nil | exact PV.Le.nil _ | exact PV.Le.acc _ _ _ | apply LeL.cons | apply PV.Le.agg | apply PV.Le.tup)), rfl⟩, trivial⟩⟩⟩⟩⟩⟩⟩
  rintro i hJ2
  obtain ⟨hi1, hi2⟩ := hJ2
  refine AWP.seq ?_
  refine AWP.region_lit ?_
  refine AL.cons rfl (AOp.lss rfl rfl rfl rfl) ?_
  refine AL.nil ?_
  refine AWP.seq ?_
  refine AWP.cond rfl (fun h3 => ?_) (fun h3 => ?_)
  · skip
    have h3b := h3
    try simp only [Bool.and_eq_true, Bool.or_eq_true, Bool.and_eq_false_iff, Bool.or_eq_false_iff, decide_eq_true_eq, decide_eq_false_iff_not, Bool.not_eq_true', Bool.not_eq_false', Bool.not_eq_eq_eq_not, Bool.not_true, Bool.not_false, ge_iff_le, gt_iff_lt, Int.not_lt, Int.not_le] at h3b
    have h3n : i < w.gPackages.length := by omega
    refine AWP.skip ?_
    refine AWP.seq ?_
    refine AWP.block ?_
    refine AWP.seq ?_
    refine AWP.region_lit ?_
    refine AL.cons rfl (AOp.move (.inl rfl) rfl rfl) ?_
    refine AL.cons rfl (AOp.index (k := i) rfl rfl rfl rfl rfl (GPackage.trs_cs h3n) el29) ?_
    refine AL.cons rfl (AOp.loadEptr (ds := [.leaf (.string ((w.gPackages[i]).gName)), .row 1 (strTrs ((w.gPackages[i]).gDeps)), .row 5 (GTrait.trs ((w.gPackages[i]).gTraits)), .row 3 (GDataType.trs ((w.gPackages[i]).gDataTypes)), .row 12 (GInstance.trs ((w.gPackages[i]).gInstances)), .row 16 (GFunction.trs ((w.gPackages[i]).gFunctions))]) rfl rfl rfl sh126 rfl rfl) ?_
    refine AL.cons rfl (AOp.alloc rfl rfl zr126) ?_
    refine AL.cons rfl (AOp.move (.inr rfl) rfl rfl) ?_
    refine AL.cons rfl (AOp.storePtr (cs := [.t (.leaf (.string ((w.gPackages[i]).gName))), .t (.row 1 (strTrs ((w.gPackages[i]).gDeps))), .t (.row 5 (GTrait.trs ((w.gPackages[i]).gTraits))), .t (.row 3 (GDataType.trs ((w.gPackages[i]).gDataTypes))), .t (.row 12 (GInstance.trs ((w.gPackages[i]).gInstances))), .t (.row 16 (GFunction.trs ((w.gPackages[i]).gFunctions)))]) (ds := [.t (.leaf (.string ((w.gPackages[i]).gName))), .t (.row 1 (strTrs ((w.gPackages[i]).gDeps))), .t (.row 5 (GTrait.trs ((w.gPackages[i]).gTraits))), .t (.row 3 (GDataType.trs ((w.gPackages[i]).gDataTypes))), .t (.row 12 (GInstance.trs ((w.gPackages[i]).gInstances))), .t (.row 16 (GFunction.trs ((w.gPackages[i]).gFunctions)))]) rfl rfl rfl rfl rfl rfl rfl sz126 (Nat.le_of_ble_eq_true rfl) rfl) ?_
    refine AL.nil ?_
    refine AWP.seq ?_
    refine AWP.region_lit ?_
    refine AL.cons rfl (AOp.fieldPtr (k := 2) (d := 0) (e := 2) rfl rfl rfl fo126_2) ?_
    refine AL.cons rfl (AOp.loadPtr1 rfl rfl rfl rfl sh121 rfl) ?_
    refine AL.fact (lk_lenN 20 rfl rfl (GTrait.trs_len _)) (fun hl4 => ?_)
    refine AL.cons rfl (AOp.lenN rfl rfl rfl rfl el121 (GTrait.trs_len _)) ?_
    refine AL.cons rfl (AOp.move (.inl rfl) rfl rfl) ?_
    refine AL.nil ?_
    refine AWP.block ?_
    refine AWP.loopJ (ι := Nat) (fun k => k ≤ (w.gPackages[i]).gTraits.length ∧ (w.gPackages[i]).gTraits.find? (fun x => decide (GTrait.gName x = s)) = ((w.gPackages[i]).gTraits.drop k).find? (fun x => decide (GTrait.gName x = s))) (fun k => ⟨[(0, (GProgram.pv w)), (1, .t (.leaf (.string (s)))), (2, .ptr 0 0), (4, .ptr 1 0), (7, .t (.leaf (.int .i64 (((i : Nat) : Int))))), (8, .ptr 2 0), (12, .t (.row 6 (GPackage.trs (w.gPackages)))), (13, .t (.leaf (.int .i64 (((w.gPackages.length : Nat) : Int))))), (14, .t (.leaf (.int .i64 (((i : Nat) : Int))))), (20, .t (.row 5 (GTrait.trs ((w.gPackages[i]).gTraits)))), (21, .t (.leaf (.int .i64 (((((w.gPackages[i]).gTraits).length : Nat) : Int))))), (22, .t (.leaf (.int .i64 (((k : Nat) : Int)))))], ⟨[some ⟨31, [.t (.row 6 (GPackage.trs (w.gPackages)))]⟩, some ⟨94, [.t (.leaf (.string (⟨#[]⟩))), .nil, .t (.leaf (.bool (false))), .t (.leaf (.bool (false))), .nil]⟩, some ⟨126, [.t (.leaf (.string ((w.gPackages[i]).gName))), .t (.row 1 (strTrs ((w.gPackages[i]).gDeps))), .t (.row 5 (GTrait.trs ((w.gPackages[i]).gTraits))), .t (.row 3 (GDataType.trs ((w.gPackages[i]).gDataTypes))), .t (.row 12 (GInstance.trs ((w.gPackages[i]).gInstances))), .t (.row 16 (GFunction.trs ((w.gPackages[i]).gFunctions)))]⟩], []⟩⟩) (fun k => (w.gPackages[i]).gTraits.length - k) 0 ?_ ?_ ?_
    · exact ⟨Nat.zero_le _, rfl⟩
    · skip
      exact Wk.mk (StLe.mk' ⟨⟨rfl, by (repeat' (first | exact PV.Le.refl _ | exact LeL.nil | exact PV.Le.nil _ | exact PV.Le.acc _ _ _ | apply LeL.cons | apply PV.Le.agg | apply PV.Le.tup)), rfl⟩, ⟨⟨rfl, by (repeat' (first | exact PV.Le.refl _ | exact LeL.nil | exact PV.Le.nil _ | exact PV.Le.acc _ _ _ | apply LeL.cons | apply PV.Le.agg | apply PV.Le.tup)), rfl⟩, ⟨⟨rfl, by (repeat' (first | exact PV.Le.refl _ | exact LeL.nil | exact PV.Le.nil _ | exact PV.Le.acc _ _ _ | apply LeL.cons | apply PV.Le.agg | apply PV.Le.tup)), rfl⟩, trivial⟩⟩⟩ rfl) (keeps_nil hC) ⟨⟨_, rfl, .refl _, rfl⟩, ⟨⟨_, rfl, .refl _, rfl⟩, ⟨⟨_, rfl, .refl _, rfl⟩, ⟨⟨_, rfl, .refl _, rfl⟩, ⟨⟨_, rfl, .refl _, rfl⟩, ⟨⟨_, rfl, .refl _, rfl⟩, ⟨⟨_, rfl, .refl _, rfl⟩, ⟨⟨_, rfl, .refl _, rfl⟩, ⟨⟨_, rfl, .refl _, rfl⟩, ⟨⟨_, rfl, .refl _, rfl⟩, ⟨⟨_, rfl, .refl _, rfl⟩, ⟨⟨_, rfl, by (repeat' (first | exact PV.Le.refl _ | exact LeL.nil | exact PV.Le.nil _ | exact PV.Le.acc _ _ _ | apply LeL.cons | apply PV.Le.agg | apply PV.Le.tup)), rfl⟩, trivial⟩⟩⟩⟩⟩⟩⟩⟩⟩⟩⟩⟩
    rintro k hJ5
    obtain ⟨hk1, hk2⟩ := hJ5
    refine AWP.seq ?_
    refine AWP.region_lit ?_
    refine AL.cons rfl (AOp.lss rfl rfl rfl rfl) ?_
    refine AL.nil ?_
    refine AWP.seq ?_
    refine AWP.cond rfl (fun h6 => ?_) (fun h6 => ?_)
    · skip
      have h6b := h6
      try simp only [Bool.and_eq_true, Bool.or_eq_true, Bool.and_eq_false_iff, Bool.or_eq_false_iff, decide_eq_true_eq, decide_eq_false_iff_not, Bool.not_eq_true', Bool.not_eq_false', Bool.not_eq_eq_eq_not, Bool.not_true, Bool.not_false, ge_iff_le, gt_iff_lt, Int.not_lt, Int.not_le] at h6b
      have h6n : k < ((w.gPackages[i]).gTraits).length := by omega
      refine AWP.skip ?_
      refine AWP.seq ?_
      refine AWP.block ?_
      refine AWP.seq ?_
      refine AWP.region_lit ?_
      refine AL.cons rfl (AOp.index (k := k) rfl rfl rfl rfl rfl (GTrait.trs_cs h6n) el121) ?_
      refine AL.cons rfl (AOp.loadEptr (ds := [.leaf (.string ((((w.gPackages[i]).gTraits)[k]).gName)), .row 1 (strTrs ((((w.gPackages[i]).gTraits)[k]).gSupertraits)), .leaf (.bool ((((w.gPackages[i]).gTraits)[k]).gAuto)), .leaf (.bool ((((w.gPackages[i]).gTraits)[k]).gAssoc)), .row 16 (GSignature.trs ((((w.gPackages[i]).gTraits)[k]).gSignatures))]) rfl rfl rfl sh94 rfl rfl) ?_
      refine AL.cons rfl (AOp.alloc rfl rfl zr94) ?_
      refine AL.cons rfl (AOp.storePtr (cs := [.t (.leaf (.string ((((w.gPackages[i]).gTraits)[k]).gName))), .t (.row 1 (strTrs ((((w.gPackages[i]).gTraits)[k]).gSupertraits))), .t (.leaf (.bool ((((w.gPackages[i]).gTraits)[k]).gAuto))), .t (.leaf (.bool ((((w.gPackages[i]).gTraits)[k]).gAssoc))), .t (.row 16 (GSignature.trs ((((w.gPackages[i]).gTraits)[k]).gSignatures)))]) (ds := [.t (.leaf (.string ((((w.gPackages[i]).gTraits)[k]).gName))), .t (.row 1 (strTrs ((((w.gPackages[i]).gTraits)[k]).gSupertraits))), .t (.leaf (.bool ((((w.gPackages[i]).gTraits)[k]).gAuto))), .t (.leaf (.bool ((((w.gPackages[i]).gTraits)[k]).gAssoc))), .t (.row 16 (GSignature.trs ((((w.gPackages[i]).gTraits)[k]).gSignatures)))]) rfl rfl rfl rfl rfl rfl rfl sz94 (Nat.le_of_ble_eq_true rfl) rfl) ?_
      refine AL.nil ?_
      refine AWP.seq ?_
      refine AWP.region_lit ?_
      refine AL.cons rfl (AOp.fieldPtr (k := 3) (d := 0) (e := 0) rfl rfl rfl fo94_0) ?_
      refine AL.cons rfl (AOp.loadPtr1 rfl rfl rfl rfl sh9 rfl) ?_
      refine AL.cons rfl (AOp.move (.inl rfl) rfl rfl) ?_
      refine AL.cons rfl (AOp.eqlS rfl rfl rfl rfl) ?_
      refine AL.nil ?_
      refine AWP.cond rfl (fun h7 => ?_) (fun h7 => ?_)
      · skip
        have h7b := h7
        try simp only [Bool.and_eq_true, Bool.or_eq_true, Bool.and_eq_false_iff, Bool.or_eq_false_iff, decide_eq_true_eq, decide_eq_false_iff_not, Bool.not_eq_true', Bool.not_eq_false', Bool.not_eq_eq_eq_not, Bool.not_true, Bool.not_false, ge_iff_le, gt_iff_lt, Int.not_lt, Int.not_le] at h7b
        refine AWP.seq ?_
        refine AWP.region_lit ?_
        refine AL.cons rfl (AOp.loadPtr (cs := [.t (.leaf (.string ((((w.gPackages[i]).gTraits)[k]).gName))), .t (.row 1 (strTrs ((((w.gPackages[i]).gTraits)[k]).gSupertraits))), .t (.leaf (.bool ((((w.gPackages[i]).gTraits)[k]).gAuto))), .t (.leaf (.bool ((((w.gPackages[i]).gTraits)[k]).gAssoc))), .t (.row 16 (GSignature.trs ((((w.gPackages[i]).gTraits)[k]).gSignatures)))]) rfl rfl rfl rfl sh94 rfl rfl) ?_
        refine AL.cons rfl (AOp.move (.inl rfl) rfl rfl) ?_
        refine AL.cons rfl (AOp.storePtr (cs := [.t (.leaf (.string ((((w.gPackages[i]).gTraits)[k]).gName))), .t (.row 1 (strTrs ((((w.gPackages[i]).gTraits)[k]).gSupertraits))), .t (.leaf (.bool ((((w.gPackages[i]).gTraits)[k]).gAuto))), .t (.leaf (.bool ((((w.gPackages[i]).gTraits)[k]).gAssoc))), .t (.row 16 (GSignature.trs ((((w.gPackages[i]).gTraits)[k]).gSignatures)))]) (ds := [.t (.leaf (.string ((((w.gPackages[i]).gTraits)[k]).gName))), .t (.row 1 (strTrs ((((w.gPackages[i]).gTraits)[k]).gSupertraits))), .t (.leaf (.bool ((((w.gPackages[i]).gTraits)[k]).gAuto))), .t (.leaf (.bool ((((w.gPackages[i]).gTraits)[k]).gAssoc))), .t (.row 16 (GSignature.trs ((((w.gPackages[i]).gTraits)[k]).gSignatures)))]) rfl rfl rfl rfl rfl rfl rfl sz94 (Nat.le_of_ble_eq_true rfl) rfl) ?_
        refine AL.cons rfl (AOp.move (.inr rfl) rfl rfl) ?_
        refine AL.cons rfl (AOp.move (.inr rfl) rfl rfl) ?_
        refine AL.nil ?_
        refine AWP.ret ?_
        exact Ends.mk (ps := [_, _, _]) (.inr rfl) ⟨⟨_, _, _, rfl, rfl, sh94, rfl, rfl⟩, rfl, rfl, trivial⟩ rfl (StLe.mk' (st' := ⟨[], []⟩) trivial rfl) (keeps_nil hC) (q := (.tup [(GTrait.pv (((w.gPackages[i]).gTraits)[k])), .t (.leaf (.int .i64 (((i : Nat) : Int)))), .t (.leaf (.bool (true)))] : PV)) (by (repeat' (first | exact PV.Le.refl _ | exact LeL.nil | exact PV.Le.nil _ | exact PV.Le.acc _ _ _ | apply LeL.cons | apply PV.Le.agg | apply PV.Le.tup))) rfl ⟨by exact optTrait_some (findP_hit (by omega) (by omega) hi2 hk2 (by assumption)), rfl⟩
      · skip
        have h7b := h7
        try simp only [Bool.and_eq_true, Bool.or_eq_true, Bool.and_eq_false_iff, Bool.or_eq_false_iff, decide_eq_true_eq, decide_eq_false_iff_not, Bool.not_eq_true', Bool.not_eq_false', Bool.not_eq_eq_eq_not, Bool.not_true, Bool.not_false, ge_iff_le, gt_iff_lt, Int.not_lt, Int.not_le] at h7b
        refine AWP.skip ?_
        refine AWP.region_lit ?_
        refine AL.cons rfl (AOp.addI rfl rfl rfl rfl (c := ((k + 1 : Nat) : Int)) (by omega) (by omega)) ?_
        refine AL.cons rfl (AOp.move (.inl rfl) rfl rfl) ?_
        refine AL.nil ?_
        refine ⟨k + 1, ?_, ?_, ?_⟩
        · exact ⟨by omega, findP_next (by omega) hk2 (by assumption)⟩
        · skip
          exact Wk.mk (StLe.mk' ⟨⟨rfl, by (repeat' (first | exact PV.Le.refl _ | exact LeL.nil | exact PV.Le.nil _ | exact PV.Le.acc _ _ _ | apply LeL.cons | apply PV.Le.agg | apply PV.Le.tup)), rfl⟩, ⟨⟨rfl, by (repeat' (first | exact PV.Le.refl _ | exact LeL.nil | exact PV.Le.nil _ | exact PV.Le.acc _ _ _ | apply LeL.cons | apply PV.Le.agg | apply PV.Le.tup)), rfl⟩, ⟨⟨rfl, by (repeat' (first | exact PV.Le.refl _ | exact LeL.nil | exact PV.Le.nil _ | exact PV.Le.acc _ _ _ | apply LeL.cons | apply PV.Le.agg | apply PV.Le.tup)), rfl⟩, trivial⟩⟩⟩ rfl) (keeps_nil hC) ⟨⟨_, rfl, .refl _, rfl⟩, ⟨⟨_, rfl, .refl _, rfl⟩, ⟨⟨_, rfl, .refl _, rfl⟩, ⟨⟨_, rfl, .refl _, rfl⟩, ⟨⟨_, rfl, .refl _, rfl⟩, ⟨⟨_, rfl, .refl _, rfl⟩, ⟨⟨_, rfl, .refl _, rfl⟩, ⟨⟨_, rfl, .refl _, rfl⟩, ⟨⟨_, rfl, .refl _, rfl⟩, ⟨⟨_, rfl, .refl _, rfl⟩, ⟨⟨_, rfl, .refl _, rfl⟩, ⟨⟨_, rfl, by (repeat' (first | exact PV.Le.refl _ | exact LeL.nil | exact PV.Le.nil _ | exact PV.Le.acc _ _ _ | apply LeL.cons | apply PV.Le.agg | apply PV.Le.tup)), rfl⟩, trivial⟩⟩⟩⟩⟩⟩⟩⟩⟩⟩⟩⟩
        · omega
    · skip
      have h6b := h6
      try simp only [Bool.and_eq_true, Bool.or_eq_true, Bool.and_eq_false_iff, Bool.or_eq_false_iff, decide_eq_true_eq, decide_eq_false_iff_not, Bool.not_eq_true', Bool.not_eq_false', Bool.not_eq_eq_eq_not, Bool.not_true, Bool.not_false, ge_iff_le, gt_iff_lt, Int.not_lt, Int.not_le] at h6b
      have h6n : k ≥ ((w.gPackages[i]).gTraits).length := by omega
      refine AWP.exit ?_
      refine AWP.region_lit ?_
      refine AL.cons rfl (AOp.addI rfl rfl rfl rfl (c := ((i + 1 : Nat) : Int)) (by omega) (by omega)) ?_
      refine AL.cons rfl (AOp.move (.inl rfl) rfl rfl) ?_
      refine AL.nil ?_
      refine ⟨i + 1, ?_, ?_, ?_⟩
      · exact ⟨by omega, findP_miss (by omega) hi2 hk2 (by omega)⟩
      · skip
        exact Wk.mk (StLe.mk' ⟨⟨rfl, by (repeat' (first | exact PV.Le.refl _ | exact LeL.nil | exact PV.Le.nil _ | exact PV.Le.acc _ _ _ | apply LeL.cons | apply PV.Le.agg | apply PV.Le.tup)), rfl⟩, ⟨⟨rfl, by (repeat' (first | exact PV.Le.refl _ | exact LeL.nil | exact PV.Le.nil _ | exact PV.Le.acc _ _ _ | apply LeL.cons | apply PV.Le.agg | apply PV.Le.tup)), rfl⟩, trivial⟩⟩ rfl) (keeps_nil hC) ⟨⟨_, rfl, .refl _, rfl⟩, ⟨⟨_, rfl, .refl _, rfl⟩, ⟨⟨_, rfl, .refl _, rfl⟩, ⟨⟨_, rfl, .refl _, rfl⟩, ⟨⟨_, rfl, .refl _, rfl⟩, ⟨⟨_, rfl, .refl _, rfl⟩, ⟨⟨_, rfl, by (repeat' (first | exact PV.Le.refl _ | exact LeL.nil | exact PV.Le.nil _ | exact PV.Le.acc _ _ _ | apply LeL.cons | apply PV.Le.agg | apply PV.Le.tup)), rfl⟩, trivial⟩⟩⟩⟩⟩⟩⟩
      · omega
  · skip
    have h3b := h3
    try simp only [Bool.and_eq_true, Bool.or_eq_true, Bool.and_eq_false_iff, Bool.or_eq_false_iff, decide_eq_true_eq, decide_eq_false_iff_not, Bool.not_eq_true', Bool.not_eq_false', Bool.not_eq_eq_eq_not, Bool.not_true, Bool.not_false, ge_iff_le, gt_iff_lt, Int.not_lt, Int.not_le] at h3b
    have h3n : i ≥ w.gPackages.length := by omega
    refine AWP.exit ?_
    refine AWP.seq ?_
    refine AWP.region_lit ?_
    refine AL.cons rfl (AOp.build rfl rfl zr94 pl94 rfl rfl) ?_
    refine AL.cons rfl (AOp.storePtr (cs := [.t (.leaf (.string (⟨#[]⟩))), .nil, .t (.leaf (.bool (false))), .t (.leaf (.bool (false))), .nil]) (ds := [.t (.leaf (.string (⟨#[]⟩))), .nil, .t (.leaf (.bool (false))), .t (.leaf (.bool (false))), .nil]) rfl rfl rfl rfl rfl rfl rfl sz94 (Nat.le_of_ble_eq_true rfl) rfl) ?_
    refine AL.cons rfl (AOp.move (.inr rfl) rfl rfl) ?_
    refine AL.cons rfl (AOp.move (.inr rfl) rfl rfl) ?_
    refine AL.nil ?_
    refine AWP.ret ?_
    exact Ends.mk (ps := [_, _, _]) (.inr rfl) ⟨⟨_, _, _, rfl, rfl, sh94, rfl, rfl⟩, rfl, rfl, trivial⟩ rfl (StLe.mk' (st' := ⟨[], []⟩) trivial rfl) (keeps_nil hC) (q := PV.tup [GTrait.pv GTrait.zero, .t (.leaf (.int .i64 (0))), .t (.leaf (.bool (false)))]) (by (repeat' (first | exact PV.Le.refl _ | exact LeL.nil | exact PV.Le.nil _ | exact PV.Le.acc _ _ _ | apply LeL.cons | apply PV.Le.agg | apply PV.Le.tup))) rfl ⟨by exact optTrait_none (findP_end hi2 (by omega)), rfl⟩

set_option maxRecDepth 100000 in
set_option maxHeartbeats 4000000 in
theorem trait_spec (w : GProgram) (s : ByteArray) : AFun Tryz.prog 78 [(GProgram.pv w), .t (.leaf (.string (s)))] (.tup [(GTrait.pv (oTrait (w.traitAt s))), .t (.leaf (.int .i64 (oInt (w.traitAt s)))), .t (.leaf (.bool ((w.traitAt s).isSome)))]) := by
  refine ACalls.intro Tryz.func78 rfl (by first | decide | (simp; done) | (simp; decide)) ?_
  intro C hC
  refine AWP.seq ?_
  refine AWP.region_lit ?_
  refine AL.cons rfl (AOp.box (cs := [.t (.row 6 (GPackage.trs (w.gPackages)))]) rfl rfl rfl rfl rfl) ?_
  refine AL.cons rfl (AOp.alloc rfl rfl zr94) ?_
  refine AL.cons rfl (AOp.move (.inr rfl) rfl rfl) ?_
  refine AL.cons rfl (AOp.move (.inr rfl) rfl rfl) ?_
  refine AL.nil ?_
  refine AWP.seq ?_
  refine AWP.seq ?_
  refine AWP.region_lit ?_
  refine AL.cons rfl (AOp.move (.inr rfl) rfl rfl) ?_
  refine AL.nil ?_
  refine AWP.block ?_
  refine AWP.loopJ (ι := Nat) (fun i => i ≤ w.gPackages.length ∧ findP GTrait.gName GPackage.gTraits s 0 w.gPackages = findP GTrait.gName GPackage.gTraits s i (w.gPackages.drop i)) (fun i => ⟨[(0, (GProgram.pv w)), (1, .t (.leaf (.string (s)))), (2, .ptr 0 0), (4, .ptr 1 0), (7, .t (.leaf (.int .i64 (((i : Nat) : Int)))))], ⟨[some ⟨31, [.t (.row 6 (GPackage.trs (w.gPackages)))]⟩, some ⟨94, [.t (.leaf (.string (⟨#[]⟩))), .nil, .t (.leaf (.bool (false))), .t (.leaf (.bool (false))), .nil]⟩], []⟩⟩) (fun i => w.gPackages.length - i) 0 ?_ ?_ ?_
  · exact ⟨Nat.zero_le _, rfl⟩
  · skip
    exact Wk.mk (StLe.mk' ⟨⟨rfl, by (repeat' (first | exact PV.Le.refl _ | exact LeL.nil | exact PV.Le.nil _ | exact PV.Le.acc _ _ _ | apply LeL.cons | apply PV.Le.agg | apply PV.Le.tup)), rfl⟩, ⟨⟨rfl, by (repeat' (first | exact PV.Le.refl _ | exact LeL.nil | exact PV.Le.nil _ | exact PV.Le.acc _ _ _ | apply LeL.cons | apply PV.Le.agg | apply PV.Le.tup)), rfl⟩, trivial⟩⟩ rfl) (keeps_nil hC) ⟨⟨_, rfl, .refl _, rfl⟩, ⟨⟨_, rfl, .refl _, rfl⟩, ⟨⟨_, rfl, .refl _, rfl⟩, ⟨⟨_, rfl, .refl _, rfl⟩, ⟨⟨_, rfl, by (repeat' (first | exact PV.Le.refl _ | exact LeL.nil | exact PV.Le.nil _ | exact PV.Le.acc _ _ _ | apply LeL.cons | apply PV.Le.agg | apply PV.Le.tup)), rfl⟩, trivial⟩⟩⟩⟩⟩
  rintro i hJ1
  obtain ⟨hi1, hi2⟩ := hJ1
  refine AWP.seq ?_
  refine AWP.seq ?_
  refine AWP.region_lit ?_
  refine AL.cons rfl (AOp.move (.inl rfl) rfl rfl) ?_
  refine AL.cons rfl (AOp.fieldPtr (k := 0) (d := 0) (e := 0) rfl rfl rfl fo31_0) ?_
  refine AL.cons rfl (AOp.loadPtr1 rfl rfl rfl rfl sh29 rfl) ?_
  refine AL.fact (lk_lenN 11 rfl rfl (GPackage.trs_len _)) (fun hl2 => ?_)
  refine AL.cons rfl (AOp.lenN rfl rfl rfl rfl el29 (GPackage.trs_len _)) ?_
  refine AL.cons rfl (AOp.lss rfl rfl rfl rfl) ?_
  refine AL.nil ?_
  refine AWP.cond rfl (fun h3 => ?_) (fun h3 => ?_)
  · skip
    have h3b := h3
    try simp only [Bool.and_eq_true, Bool.or_eq_true, Bool.and_eq_false_iff, Bool.or_eq_false_iff, decide_eq_true_eq, decide_eq_false_iff_not, Bool.not_eq_true', Bool.not_eq_false', Bool.not_eq_eq_eq_not, Bool.not_true, Bool.not_false, ge_iff_le, gt_iff_lt, Int.not_lt, Int.not_le] at h3b
    have h3n : i < w.gPackages.length := by omega
    refine AWP.skip ?_
    refine AWP.seq ?_
    refine AWP.block ?_
    refine AWP.seq ?_
    refine AWP.region_lit ?_
    refine AL.cons rfl (AOp.move (.inr rfl) rfl rfl) ?_
    refine AL.nil ?_
    refine AWP.block ?_
    refine AWP.loopJ (ι := Nat) (fun k => k ≤ (w.gPackages[i]).gTraits.length ∧ (w.gPackages[i]).gTraits.find? (fun x => decide (GTrait.gName x = s)) = ((w.gPackages[i]).gTraits.drop k).find? (fun x => decide (GTrait.gName x = s))) (fun k => ⟨[(0, (GProgram.pv w)), (1, .t (.leaf (.string (s)))), (2, .ptr 0 0), (4, .ptr 1 0), (7, .t (.leaf (.int .i64 (((i : Nat) : Int))))), (8, .t (.leaf (.int .i64 (((k : Nat) : Int)))))], ⟨[some ⟨31, [.t (.row 6 (GPackage.trs (w.gPackages)))]⟩, some ⟨94, [.t (.leaf (.string (⟨#[]⟩))), .nil, .t (.leaf (.bool (false))), .t (.leaf (.bool (false))), .nil]⟩], []⟩⟩) (fun k => (w.gPackages[i]).gTraits.length - k) 0 ?_ ?_ ?_
    · exact ⟨Nat.zero_le _, rfl⟩
    · skip
      exact Wk.mk (StLe.mk' ⟨⟨rfl, by (repeat' (first | exact PV.Le.refl _ | exact LeL.nil | exact PV.Le.nil _ | exact PV.Le.acc _ _ _ | apply LeL.cons | apply PV.Le.agg | apply PV.Le.tup)), rfl⟩, ⟨⟨rfl, by (repeat' (first | exact PV.Le.refl _ | exact LeL.nil | exact PV.Le.nil _ | exact PV.Le.acc _ _ _ | apply LeL.cons | apply PV.Le.agg | apply PV.Le.tup)), rfl⟩, trivial⟩⟩ rfl) (keeps_nil hC) ⟨⟨_, rfl, .refl _, rfl⟩, ⟨⟨_, rfl, .refl _, rfl⟩, ⟨⟨_, rfl, .refl _, rfl⟩, ⟨⟨_, rfl, .refl _, rfl⟩, ⟨⟨_, rfl, .refl _, rfl⟩, ⟨⟨_, rfl, by (repeat' (first | exact PV.Le.refl _ | exact LeL.nil | exact PV.Le.nil _ | exact PV.Le.acc _ _ _ | apply LeL.cons | apply PV.Le.agg | apply PV.Le.tup)), rfl⟩, trivial⟩⟩⟩⟩⟩⟩
    rintro k hJ4
    obtain ⟨hk1, hk2⟩ := hJ4
    refine AWP.seq ?_
    refine AWP.seq ?_
    refine AWP.region_lit ?_
    refine AL.cons rfl (AOp.move (.inl rfl) rfl rfl) ?_
    refine AL.cons rfl (AOp.fieldPtr (k := 0) (d := 0) (e := 0) rfl rfl rfl fo31_0) ?_
    refine AL.cons rfl (AOp.loadPtr1 rfl rfl rfl rfl sh29 rfl) ?_
    refine AL.cons rfl (AOp.move (.inl rfl) rfl rfl) ?_
    refine AL.cons rfl (AOp.index (k := i) rfl rfl rfl rfl rfl (GPackage.trs_cs h3n) el29) ?_
    refine AL.cons rfl (AOp.fieldEptr (cs := (GPackage.cs (w.gPackages[i]))) (e := 2) rfl rfl rfl fo126_2) ?_
    refine AL.cons rfl (AOp.loadEptr1 (d := .row 5 (GTrait.trs ((w.gPackages[i]).gTraits))) rfl rfl rfl sh121 rfl) ?_
    refine AL.fact (lk_lenN 22 rfl rfl (GTrait.trs_len _)) (fun hl5 => ?_)
    refine AL.cons rfl (AOp.lenN rfl rfl rfl rfl el121 (GTrait.trs_len _)) ?_
    refine AL.cons rfl (AOp.lss rfl rfl rfl rfl) ?_
    refine AL.nil ?_
    refine AWP.cond rfl (fun h6 => ?_) (fun h6 => ?_)
    · skip
      have h6b := h6
      try simp only [Bool.and_eq_true, Bool.or_eq_true, Bool.and_eq_false_iff, Bool.or_eq_false_iff, decide_eq_true_eq, decide_eq_false_iff_not, Bool.not_eq_true', Bool.not_eq_false', Bool.not_eq_eq_eq_not, Bool.not_true, Bool.not_false, ge_iff_le, gt_iff_lt, Int.not_lt, Int.not_le] at h6b
      have h6n : k < ((w.gPackages[i]).gTraits).length := by omega
      refine AWP.skip ?_
      refine AWP.seq ?_
      refine AWP.block ?_
      refine AWP.seq ?_
      refine AWP.region_lit ?_
      refine AL.cons rfl (AOp.fieldPtr (k := 0) (d := 0) (e := 0) rfl rfl rfl fo31_0) ?_
      refine AL.cons rfl (AOp.loadPtr1 rfl rfl rfl rfl sh29 rfl) ?_
      refine AL.cons rfl (AOp.move (.inl rfl) rfl rfl) ?_
      refine AL.cons rfl (AOp.index (k := i) rfl rfl rfl rfl rfl (GPackage.trs_cs h3n) el29) ?_
      refine AL.cons rfl (AOp.fieldEptr (cs := (GPackage.cs (w.gPackages[i]))) (e := 2) rfl rfl rfl fo126_2) ?_
      refine AL.cons rfl (AOp.loadEptr1 (d := .row 5 (GTrait.trs ((w.gPackages[i]).gTraits))) rfl rfl rfl sh121 rfl) ?_
      refine AL.cons rfl (AOp.move (.inl rfl) rfl rfl) ?_
      refine AL.cons rfl (AOp.index (k := k) rfl rfl rfl rfl rfl (GTrait.trs_cs h6n) el121) ?_
      refine AL.cons rfl (AOp.fieldEptr (cs := (GTrait.cs (((w.gPackages[i]).gTraits)[k]))) (e := 0) rfl rfl rfl fo94_0) ?_
      refine AL.cons rfl (AOp.loadEptr1 (d := .leaf (.string ((((w.gPackages[i]).gTraits)[k]).gName))) rfl rfl rfl sh9 rfl) ?_
      refine AL.cons rfl (AOp.move (.inl rfl) rfl rfl) ?_
      refine AL.cons rfl (AOp.eqlS rfl rfl rfl rfl) ?_
      refine AL.nil ?_
      refine AWP.cond rfl (fun h7 => ?_) (fun h7 => ?_)
      · skip
        have h7b := h7
        try simp only [Bool.and_eq_true, Bool.or_eq_true, Bool.and_eq_false_iff, Bool.or_eq_false_iff, decide_eq_true_eq, decide_eq_false_iff_not, Bool.not_eq_true', Bool.not_eq_false', Bool.not_eq_eq_eq_not, Bool.not_true, Bool.not_false, ge_iff_le, gt_iff_lt, Int.not_lt, Int.not_le] at h7b
        refine AWP.seq ?_
        refine AWP.region_lit ?_
        refine AL.cons rfl (AOp.fieldPtr (k := 0) (d := 0) (e := 0) rfl rfl rfl fo31_0) ?_
        refine AL.cons rfl (AOp.loadPtr1 rfl rfl rfl rfl sh29 rfl) ?_
        refine AL.cons rfl (AOp.move (.inl rfl) rfl rfl) ?_
        refine AL.cons rfl (AOp.index (k := i) rfl rfl rfl rfl rfl (GPackage.trs_cs h3n) el29) ?_
        refine AL.cons rfl (AOp.fieldEptr (cs := (GPackage.cs (w.gPackages[i]))) (e := 2) rfl rfl rfl fo126_2) ?_
        refine AL.cons rfl (AOp.loadEptr1 (d := .row 5 (GTrait.trs ((w.gPackages[i]).gTraits))) rfl rfl rfl sh121 rfl) ?_
        refine AL.cons rfl (AOp.move (.inl rfl) rfl rfl) ?_
        refine AL.cons rfl (AOp.index (k := k) rfl rfl rfl rfl rfl (GTrait.trs_cs h6n) el121) ?_
        refine AL.cons rfl (AOp.loadEptr (ds := [.leaf (.string ((((w.gPackages[i]).gTraits)[k]).gName)), .row 1 (strTrs ((((w.gPackages[i]).gTraits)[k]).gSupertraits)), .leaf (.bool ((((w.gPackages[i]).gTraits)[k]).gAuto)), .leaf (.bool ((((w.gPackages[i]).gTraits)[k]).gAssoc)), .row 16 (GSignature.trs ((((w.gPackages[i]).gTraits)[k]).gSignatures))]) rfl rfl rfl sh94 rfl rfl) ?_
        refine AL.cons rfl (AOp.move (.inl rfl) rfl rfl) ?_
        refine AL.cons rfl (AOp.storePtr (cs := [.t (.leaf (.string ((((w.gPackages[i]).gTraits)[k]).gName))), .t (.row 1 (strTrs ((((w.gPackages[i]).gTraits)[k]).gSupertraits))), .t (.leaf (.bool ((((w.gPackages[i]).gTraits)[k]).gAuto))), .t (.leaf (.bool ((((w.gPackages[i]).gTraits)[k]).gAssoc))), .t (.row 16 (GSignature.trs ((((w.gPackages[i]).gTraits)[k]).gSignatures)))]) (ds := [.t (.leaf (.string ((((w.gPackages[i]).gTraits)[k]).gName))), .t (.row 1 (strTrs ((((w.gPackages[i]).gTraits)[k]).gSupertraits))), .t (.leaf (.bool ((((w.gPackages[i]).gTraits)[k]).gAuto))), .t (.leaf (.bool ((((w.gPackages[i]).gTraits)[k]).gAssoc))), .t (.row 16 (GSignature.trs ((((w.gPackages[i]).gTraits)[k]).gSignatures)))]) rfl rfl rfl rfl rfl rfl rfl sz94 (Nat.le_of_ble_eq_true rfl) rfl) ?_
        refine AL.cons rfl (AOp.move (.inr rfl) rfl rfl) ?_
        refine AL.cons rfl (AOp.move (.inr rfl) rfl rfl) ?_
        refine AL.nil ?_
        refine AWP.ret ?_
        exact Ends.mk (ps := [_, _, _]) (.inr rfl) ⟨⟨_, _, _, rfl, rfl, sh94, rfl, rfl⟩, rfl, rfl, trivial⟩ rfl (StLe.mk' (st' := ⟨[], []⟩) trivial rfl) (keeps_nil hC) (q := (.tup [(GTrait.pv (((w.gPackages[i]).gTraits)[k])), .t (.leaf (.int .i64 (((i : Nat) : Int)))), .t (.leaf (.bool (true)))] : PV)) (by (repeat' (first | exact PV.Le.refl _ | exact LeL.nil | exact PV.Le.nil _ | exact PV.Le.acc _ _ _ | apply LeL.cons | apply PV.Le.agg | apply PV.Le.tup))) rfl ⟨by exact optTrait_some (findP_hit (by omega) (by omega) hi2 hk2 (by assumption)), rfl⟩
      · skip
        have h7b := h7
        try simp only [Bool.and_eq_true, Bool.or_eq_true, Bool.and_eq_false_iff, Bool.or_eq_false_iff, decide_eq_true_eq, decide_eq_false_iff_not, Bool.not_eq_true', Bool.not_eq_false', Bool.not_eq_eq_eq_not, Bool.not_true, Bool.not_false, ge_iff_le, gt_iff_lt, Int.not_lt, Int.not_le] at h7b
        refine AWP.skip ?_
        refine AWP.region_lit ?_
        refine AL.cons rfl (AOp.move (.inl rfl) rfl rfl) ?_
        refine AL.cons rfl (AOp.addI rfl rfl rfl rfl (c := ((k + 1 : Nat) : Int)) (by omega) (by omega)) ?_
        refine AL.cons rfl (AOp.move (.inr rfl) rfl rfl) ?_
        refine AL.nil ?_
        refine ⟨k + 1, ?_, ?_, ?_⟩
        · exact ⟨by omega, findP_next (by omega) hk2 (by assumption)⟩
        · skip
          exact Wk.mk (StLe.mk' ⟨⟨rfl, by (repeat' (first | exact PV.Le.refl _ | exact LeL.nil | exact PV.Le.nil _ | exact PV.Le.acc _ _ _ | apply LeL.cons | apply PV.Le.agg | apply PV.Le.tup)), rfl⟩, ⟨⟨rfl, by (repeat' (first | exact PV.Le.refl _ | exact LeL.nil | exact PV.Le.nil _ | exact PV.Le.acc _ _ _ | apply LeL.cons | apply PV.Le.agg | apply PV.Le.tup)), rfl⟩, trivial⟩⟩ rfl) (keeps_nil hC) ⟨⟨_, rfl, .refl _, rfl⟩, ⟨⟨_, rfl, .refl _, rfl⟩, ⟨⟨_, rfl, .refl _, rfl⟩, ⟨⟨_, rfl, .refl _, rfl⟩, ⟨⟨_, rfl, .refl _, rfl⟩, ⟨⟨_, rfl, by (repeat' (first | exact PV.Le.refl _ | exact LeL.nil | exact PV.Le.nil _ | exact PV.Le.acc _ _ _ | apply LeL.cons | apply PV.Le.agg | apply PV.Le.tup)), rfl⟩, trivial⟩⟩⟩⟩⟩⟩
        · omega
    · skip
      have h6b := h6
      try simp only [Bool.and_eq_true, Bool.or_eq_true, Bool.and_eq_false_iff, Bool.or_eq_false_iff, decide_eq_true_eq, decide_eq_false_iff_not, Bool.not_eq_true', Bool.not_eq_false', Bool.not_eq_eq_eq_not, Bool.not_true, Bool.not_false, ge_iff_le, gt_iff_lt, Int.not_lt, Int.not_le] at h6b
      have h6n : k ≥ ((w.gPackages[i]).gTraits).length := by omega
      refine AWP.exit ?_
      refine AWP.region_lit ?_
      refine AL.cons rfl (AOp.move (.inl rfl) rfl rfl) ?_
      refine AL.cons rfl (AOp.addI rfl rfl rfl rfl (c := ((i + 1 : Nat) : Int)) (by omega) (by omega)) ?_
      refine AL.cons rfl (AOp.move (.inr rfl) rfl rfl) ?_
      refine AL.nil ?_
      refine ⟨i + 1, ?_, ?_, ?_⟩
      · exact ⟨by omega, findP_miss (by omega) hi2 hk2 (by omega)⟩
      · skip
        exact Wk.mk (StLe.mk' ⟨⟨rfl, by (repeat' (first | exact PV.Le.refl _ | exact LeL.nil | exact PV.Le.nil _ | exact PV.Le.acc _ _ _ | apply LeL.cons | apply PV.Le.agg | apply PV.Le.tup)), rfl⟩, ⟨⟨rfl, by (repeat' (first | exact PV.Le.refl _ | exact LeL.nil | exact PV.Le.nil _ | exact PV.Le.acc _ _ _ | apply LeL.cons | apply PV.Le.agg | apply PV.Le.tup)), rfl⟩, trivial⟩⟩ rfl) (keeps_nil hC) ⟨⟨_, rfl, .refl _, rfl⟩, ⟨⟨_, rfl, .refl _, rfl⟩, ⟨⟨_, rfl, .refl _, rfl⟩, ⟨⟨_, rfl, .refl _, rfl⟩, ⟨⟨_, rfl, by (repeat' (first | exact PV.Le.refl _ | exact LeL.nil | exact PV.Le.nil _ | exact PV.Le.acc _ _ _ | apply LeL.cons | apply PV.Le.agg | apply PV.Le.tup)), rfl⟩, trivial⟩⟩⟩⟩⟩
      · omega
  · skip
    have h3b := h3
    try simp only [Bool.and_eq_true, Bool.or_eq_true, Bool.and_eq_false_iff, Bool.or_eq_false_iff, decide_eq_true_eq, decide_eq_false_iff_not, Bool.not_eq_true', Bool.not_eq_false', Bool.not_eq_eq_eq_not, Bool.not_true, Bool.not_false, ge_iff_le, gt_iff_lt, Int.not_lt, Int.not_le] at h3b
    have h3n : i ≥ w.gPackages.length := by omega
    refine AWP.exit ?_
    refine AWP.seq ?_
    refine AWP.region_lit ?_
    refine AL.cons rfl (AOp.build rfl rfl zr94 pl94 rfl rfl) ?_
    refine AL.cons rfl (AOp.storePtr (cs := [.t (.leaf (.string (⟨#[]⟩))), .nil, .t (.leaf (.bool (false))), .t (.leaf (.bool (false))), .nil]) (ds := [.t (.leaf (.string (⟨#[]⟩))), .nil, .t (.leaf (.bool (false))), .t (.leaf (.bool (false))), .nil]) rfl rfl rfl rfl rfl rfl rfl sz94 (Nat.le_of_ble_eq_true rfl) rfl) ?_
    refine AL.cons rfl (AOp.move (.inr rfl) rfl rfl) ?_
    refine AL.cons rfl (AOp.move (.inr rfl) rfl rfl) ?_
    refine AL.nil ?_
    refine AWP.ret ?_
    exact Ends.mk (ps := [_, _, _]) (.inr rfl) ⟨⟨_, _, _, rfl, rfl, sh94, rfl, rfl⟩, rfl, rfl, trivial⟩ rfl (StLe.mk' (st' := ⟨[], []⟩) trivial rfl) (keeps_nil hC) (q := PV.tup [GTrait.pv GTrait.zero, .t (.leaf (.int .i64 (0))), .t (.leaf (.bool (false)))]) (by (repeat' (first | exact PV.Le.refl _ | exact LeL.nil | exact PV.Le.nil _ | exact PV.Le.acc _ _ _ | apply LeL.cons | apply PV.Le.agg | apply PV.Le.tup))) rfl ⟨by exact optTrait_none (findP_end hi2 (by omega)), rfl⟩

def GProgram.dataAt (w : GProgram) (s : ByteArray) : Option (GDataType × Nat) := findP GDataType.gName GPackage.gDataTypes s 0 w.gPackages
def GDataType.zero : GDataType := .mk ⟨#[]⟩ [] []
def oDataType (o : Option (GDataType × Nat)) : GDataType := match o with | some (x, _) => x | none => GDataType.zero
abbrev optDataType (o : Option (GDataType × Nat)) : PV := .tup [GDataType.pv (oDataType o), .t (.leaf (.int .i64 (oInt o))), .t (.leaf (.bool o.isSome))]
theorem optDataType_some {o : Option (GDataType × Nat)} {x : GDataType} {i : Nat} (h : o = some (x, i)) : PV.tup [GDataType.pv x, .t (.leaf (.int .i64 (i : Int))), .t (.leaf (.bool true))] = optDataType o := by rw [h]; rfl
theorem optDataType_none {o : Option (GDataType × Nat)} (h : o = none) : PV.tup [GDataType.pv GDataType.zero, .t (.leaf (.int .i64 0)), .t (.leaf (.bool false))] = optDataType o := by rw [h]; rfl

set_option maxRecDepth 100000 in
set_option maxHeartbeats 4000000 in
theorem data_impl (w : GProgram) (s : ByteArray) : AFun Tryz.prog 142 [(GProgram.pv w), .t (.leaf (.string (s)))] (.tup [(GDataType.pv (oDataType (w.dataAt s))), .t (.leaf (.int .i64 (oInt (w.dataAt s)))), .t (.leaf (.bool ((w.dataAt s).isSome)))]) := by
  refine ACalls.intro Tryz.func142 rfl (by first | decide | (simp; done) | (simp; decide)) ?_
  intro C hC
  refine AWP.seq ?_
  refine AWP.region_lit ?_
  refine AL.cons rfl (AOp.box (cs := [.t (.row 6 (GPackage.trs (w.gPackages)))]) rfl rfl rfl rfl rfl) ?_
  refine AL.cons rfl (AOp.alloc rfl rfl zr171) ?_
  refine AL.cons rfl (AOp.move (.inr rfl) rfl rfl) ?_
  refine AL.cons rfl (AOp.move (.inr rfl) rfl rfl) ?_
  refine AL.nil ?_
  refine AWP.seq ?_
  refine AWP.seq ?_
  refine AWP.region_lit ?_
  refine AL.cons rfl (AOp.fieldPtr (k := 0) (d := 0) (e := 0) rfl rfl rfl fo31_0) ?_
  refine AL.cons rfl (AOp.loadPtr1 rfl rfl rfl rfl sh29 rfl) ?_
  refine AL.fact (lk_lenN 12 rfl rfl (GPackage.trs_len _)) (fun hl1 => ?_)
  refine AL.cons rfl (AOp.lenN rfl rfl rfl rfl el29 (GPackage.trs_len _)) ?_
  refine AL.cons rfl (AOp.move (.inl rfl) rfl rfl) ?_
  refine AL.nil ?_
  refine AWP.block ?_
  refine AWP.loopJ (ι := Nat) (fun i => i ≤ w.gPackages.length ∧ findP GDataType.gName GPackage.gDataTypes s 0 w.gPackages = findP GDataType.gName GPackage.gDataTypes s i (w.gPackages.drop i)) (fun i => ⟨[(0, (GProgram.pv w)), (1, .t (.leaf (.string (s)))), (2, .ptr 0 0), (4, .ptr 1 0), (12, .t (.row 6 (GPackage.trs (w.gPackages)))), (13, .t (.leaf (.int .i64 (((w.gPackages.length : Nat) : Int))))), (14, .t (.leaf (.int .i64 (((i : Nat) : Int)))))], ⟨[some ⟨31, [.t (.row 6 (GPackage.trs (w.gPackages)))]⟩, some ⟨171, [.t (.leaf (.string (⟨#[]⟩))), .nil, .nil]⟩], []⟩⟩) (fun i => w.gPackages.length - i) 0 ?_ ?_ ?_
  · exact ⟨Nat.zero_le _, rfl⟩
  · skip
    exact Wk.mk (StLe.mk' ⟨⟨rfl, by (repeat' (first | exact PV.Le.refl _ | exact LeL.nil | exact PV.Le.nil _ | exact PV.Le.acc _ _ _ | apply LeL.cons | apply PV.Le.agg | apply PV.Le.tup)), rfl⟩, ⟨⟨rfl, by (repeat' (first | exact PV.Le.refl _ | exact LeL.nil | exact PV.Le.nil _ | exact PV.Le.acc _ _ _ | apply LeL.cons | apply PV.Le.agg | apply PV.Le.tup)), rfl⟩, trivial⟩⟩ rfl) (keeps_nil hC) ⟨⟨_, rfl, .refl _, rfl⟩, ⟨⟨_, rfl, .refl _, rfl⟩, ⟨⟨_, rfl, .refl _, rfl⟩, ⟨⟨_, rfl, .refl _, rfl⟩, ⟨⟨_, rfl, .refl _, rfl⟩, ⟨⟨_, rfl, .refl _, rfl⟩, ⟨⟨_, rfl, by (repeat' (first | exact PV.Le.refl _ | exact LeL.nil | exact PV.Le.nil _ | exact PV.Le.acc _ _ _ | apply LeL.cons | apply PV.Le.agg | apply PV.Le.tup)), rfl⟩, trivial⟩⟩⟩⟩⟩⟩⟩
  rintro i hJ2
  obtain ⟨hi1, hi2⟩ := hJ2
  refine AWP.seq ?_
  refine AWP.region_lit ?_
  refine AL.cons rfl (AOp.lss rfl rfl rfl rfl) ?_
  refine AL.nil ?_
  refine AWP.seq ?_
  refine AWP.cond rfl (fun h3 => ?_) (fun h3 => ?_)
  · skip
    have h3b := h3
    try simp only [Bool.and_eq_true, Bool.or_eq_true, Bool.and_eq_false_iff, Bool.or_eq_false_iff, decide_eq_true_eq, decide_eq_false_iff_not, Bool.not_eq_true', Bool.not_eq_false', Bool.not_eq_eq_eq_not, Bool.not_true, Bool.not_false, ge_iff_le, gt_iff_lt, Int.not_lt, Int.not_le] at h3b
    have h3n : i < w.gPackages.length := by omega
    refine AWP.skip ?_
    refine AWP.seq ?_
    refine AWP.block ?_
    refine AWP.seq ?_
    refine AWP.region_lit ?_
    refine AL.cons rfl (AOp.move (.inl rfl) rfl rfl) ?_
    refine AL.cons rfl (AOp.index (k := i) rfl rfl rfl rfl rfl (GPackage.trs_cs h3n) el29) ?_
    refine AL.cons rfl (AOp.loadEptr (ds := [.leaf (.string ((w.gPackages[i]).gName)), .row 1 (strTrs ((w.gPackages[i]).gDeps)), .row 5 (GTrait.trs ((w.gPackages[i]).gTraits)), .row 3 (GDataType.trs ((w.gPackages[i]).gDataTypes)), .row 12 (GInstance.trs ((w.gPackages[i]).gInstances)), .row 16 (GFunction.trs ((w.gPackages[i]).gFunctions))]) rfl rfl rfl sh126 rfl rfl) ?_
    refine AL.cons rfl (AOp.alloc rfl rfl zr126) ?_
    refine AL.cons rfl (AOp.move (.inr rfl) rfl rfl) ?_
    refine AL.cons rfl (AOp.storePtr (cs := [.t (.leaf (.string ((w.gPackages[i]).gName))), .t (.row 1 (strTrs ((w.gPackages[i]).gDeps))), .t (.row 5 (GTrait.trs ((w.gPackages[i]).gTraits))), .t (.row 3 (GDataType.trs ((w.gPackages[i]).gDataTypes))), .t (.row 12 (GInstance.trs ((w.gPackages[i]).gInstances))), .t (.row 16 (GFunction.trs ((w.gPackages[i]).gFunctions)))]) (ds := [.t (.leaf (.string ((w.gPackages[i]).gName))), .t (.row 1 (strTrs ((w.gPackages[i]).gDeps))), .t (.row 5 (GTrait.trs ((w.gPackages[i]).gTraits))), .t (.row 3 (GDataType.trs ((w.gPackages[i]).gDataTypes))), .t (.row 12 (GInstance.trs ((w.gPackages[i]).gInstances))), .t (.row 16 (GFunction.trs ((w.gPackages[i]).gFunctions)))]) rfl rfl rfl rfl rfl rfl rfl sz126 (Nat.le_of_ble_eq_true rfl) rfl) ?_
    refine AL.nil ?_
    refine AWP.seq ?_
    refine AWP.region_lit ?_
    refine AL.cons rfl (AOp.fieldPtr (k := 2) (d := 0) (e := 3) rfl rfl rfl fo126_3) ?_
    refine AL.cons rfl (AOp.loadPtr1 rfl rfl rfl rfl sh122 rfl) ?_
    refine AL.fact (lk_lenN 20 rfl rfl (GDataType.trs_len _)) (fun hl4 => ?_)
    refine AL.cons rfl (AOp.lenN rfl rfl rfl rfl el122 (GDataType.trs_len _)) ?_
    refine AL.cons rfl (AOp.move (.inl rfl) rfl rfl) ?_
    refine AL.nil ?_
    refine AWP.block ?_
    refine AWP.loopJ (ι := Nat) (fun k => k ≤ (w.gPackages[i]).gDataTypes.length ∧ (w.gPackages[i]).gDataTypes.find? (fun x => decide (GDataType.gName x = s)) = ((w.gPackages[i]).gDataTypes.drop k).find? (fun x => decide (GDataType.gName x = s))) (fun k => ⟨[(0, (GProgram.pv w)), (1, .t (.leaf (.string (s)))), (2, .ptr 0 0), (4, .ptr 1 0), (7, .t (.leaf (.int .i64 (((i : Nat) : Int))))), (8, .ptr 2 0), (12, .t (.row 6 (GPackage.trs (w.gPackages)))), (13, .t (.leaf (.int .i64 (((w.gPackages.length : Nat) : Int))))), (14, .t (.leaf (.int .i64 (((i : Nat) : Int))))), (20, .t (.row 3 (GDataType.trs ((w.gPackages[i]).gDataTypes)))), (21, .t (.leaf (.int .i64 (((((w.gPackages[i]).gDataTypes).length : Nat) : Int))))), (22, .t (.leaf (.int .i64 (((k : Nat) : Int)))))], ⟨[some ⟨31, [.t (.row 6 (GPackage.trs (w.gPackages)))]⟩, some ⟨171, [.t (.leaf (.string (⟨#[]⟩))), .nil, .nil]⟩, some ⟨126, [.t (.leaf (.string ((w.gPackages[i]).gName))), .t (.row 1 (strTrs ((w.gPackages[i]).gDeps))), .t (.row 5 (GTrait.trs ((w.gPackages[i]).gTraits))), .t (.row 3 (GDataType.trs ((w.gPackages[i]).gDataTypes))), .t (.row 12 (GInstance.trs ((w.gPackages[i]).gInstances))), .t (.row 16 (GFunction.trs ((w.gPackages[i]).gFunctions)))]⟩], []⟩⟩) (fun k => (w.gPackages[i]).gDataTypes.length - k) 0 ?_ ?_ ?_
    · exact ⟨Nat.zero_le _, rfl⟩
    · skip
      exact Wk.mk (StLe.mk' ⟨⟨rfl, by (repeat' (first | exact PV.Le.refl _ | exact LeL.nil | exact PV.Le.nil _ | exact PV.Le.acc _ _ _ | apply LeL.cons | apply PV.Le.agg | apply PV.Le.tup)), rfl⟩, ⟨⟨rfl, by (repeat' (first | exact PV.Le.refl _ | exact LeL.nil | exact PV.Le.nil _ | exact PV.Le.acc _ _ _ | apply LeL.cons | apply PV.Le.agg | apply PV.Le.tup)), rfl⟩, ⟨⟨rfl, by (repeat' (first | exact PV.Le.refl _ | exact LeL.nil | exact PV.Le.nil _ | exact PV.Le.acc _ _ _ | apply LeL.cons | apply PV.Le.agg | apply PV.Le.tup)), rfl⟩, trivial⟩⟩⟩ rfl) (keeps_nil hC) ⟨⟨_, rfl, .refl _, rfl⟩, ⟨⟨_, rfl, .refl _, rfl⟩, ⟨⟨_, rfl, .refl _, rfl⟩, ⟨⟨_, rfl, .refl _, rfl⟩, ⟨⟨_, rfl, .refl _, rfl⟩, ⟨⟨_, rfl, .refl _, rfl⟩, ⟨⟨_, rfl, .refl _, rfl⟩, ⟨⟨_, rfl, .refl _, rfl⟩, ⟨⟨_, rfl, .refl _, rfl⟩, ⟨⟨_, rfl, .refl _, rfl⟩, ⟨⟨_, rfl, .refl _, rfl⟩, ⟨⟨_, rfl, by (repeat' (first | exact PV.Le.refl _ | exact LeL.nil | exact PV.Le.nil _ | exact PV.Le.acc _ _ _ | apply LeL.cons | apply PV.Le.agg | apply PV.Le.tup)), rfl⟩, trivial⟩⟩⟩⟩⟩⟩⟩⟩⟩⟩⟩⟩
    rintro k hJ5
    obtain ⟨hk1, hk2⟩ := hJ5
    refine AWP.seq ?_
    refine AWP.region_lit ?_
    refine AL.cons rfl (AOp.lss rfl rfl rfl rfl) ?_
    refine AL.nil ?_
    refine AWP.seq ?_
    refine AWP.cond rfl (fun h6 => ?_) (fun h6 => ?_)
    · skip
      have h6b := h6
      try simp only [Bool.and_eq_true, Bool.or_eq_true, Bool.and_eq_false_iff, Bool.or_eq_false_iff, decide_eq_true_eq, decide_eq_false_iff_not, Bool.not_eq_true', Bool.not_eq_false', Bool.not_eq_eq_eq_not, Bool.not_true, Bool.not_false, ge_iff_le, gt_iff_lt, Int.not_lt, Int.not_le] at h6b
      have h6n : k < ((w.gPackages[i]).gDataTypes).length := by omega
      refine AWP.skip ?_
      refine AWP.seq ?_
      refine AWP.block ?_
      refine AWP.seq ?_
      refine AWP.region_lit ?_
      refine AL.cons rfl (AOp.index (k := k) rfl rfl rfl rfl rfl (GDataType.trs_cs h6n) el122) ?_
      refine AL.cons rfl (AOp.loadEptr (ds := [.leaf (.string ((((w.gPackages[i]).gDataTypes)[k]).gName)), .row 1 (strTrs ((((w.gPackages[i]).gDataTypes)[k]).gVars)), .row 2 (GConstructor.trs ((((w.gPackages[i]).gDataTypes)[k]).gConstructors))]) rfl rfl rfl sh171 rfl rfl) ?_
      refine AL.cons rfl (AOp.alloc rfl rfl zr171) ?_
      refine AL.cons rfl (AOp.storePtr (cs := [.t (.leaf (.string ((((w.gPackages[i]).gDataTypes)[k]).gName))), .t (.row 1 (strTrs ((((w.gPackages[i]).gDataTypes)[k]).gVars))), .t (.row 2 (GConstructor.trs ((((w.gPackages[i]).gDataTypes)[k]).gConstructors)))]) (ds := [.t (.leaf (.string ((((w.gPackages[i]).gDataTypes)[k]).gName))), .t (.row 1 (strTrs ((((w.gPackages[i]).gDataTypes)[k]).gVars))), .t (.row 2 (GConstructor.trs ((((w.gPackages[i]).gDataTypes)[k]).gConstructors)))]) rfl rfl rfl rfl rfl rfl rfl sz171 (Nat.le_of_ble_eq_true rfl) rfl) ?_
      refine AL.nil ?_
      refine AWP.seq ?_
      refine AWP.region_lit ?_
      refine AL.cons rfl (AOp.fieldPtr (k := 3) (d := 0) (e := 0) rfl rfl rfl fo171_0) ?_
      refine AL.cons rfl (AOp.loadPtr1 rfl rfl rfl rfl sh9 rfl) ?_
      refine AL.cons rfl (AOp.move (.inl rfl) rfl rfl) ?_
      refine AL.cons rfl (AOp.eqlS rfl rfl rfl rfl) ?_
      refine AL.nil ?_
      refine AWP.cond rfl (fun h7 => ?_) (fun h7 => ?_)
      · skip
        have h7b := h7
        try simp only [Bool.and_eq_true, Bool.or_eq_true, Bool.and_eq_false_iff, Bool.or_eq_false_iff, decide_eq_true_eq, decide_eq_false_iff_not, Bool.not_eq_true', Bool.not_eq_false', Bool.not_eq_eq_eq_not, Bool.not_true, Bool.not_false, ge_iff_le, gt_iff_lt, Int.not_lt, Int.not_le] at h7b
        refine AWP.seq ?_
        refine AWP.region_lit ?_
        refine AL.cons rfl (AOp.loadPtr (cs := [.t (.leaf (.string ((((w.gPackages[i]).gDataTypes)[k]).gName))), .t (.row 1 (strTrs ((((w.gPackages[i]).gDataTypes)[k]).gVars))), .t (.row 2 (GConstructor.trs ((((w.gPackages[i]).gDataTypes)[k]).gConstructors)))]) rfl rfl rfl rfl sh171 rfl rfl) ?_
        refine AL.cons rfl (AOp.move (.inl rfl) rfl rfl) ?_
        refine AL.cons rfl (AOp.storePtr (cs := [.t (.leaf (.string ((((w.gPackages[i]).gDataTypes)[k]).gName))), .t (.row 1 (strTrs ((((w.gPackages[i]).gDataTypes)[k]).gVars))), .t (.row 2 (GConstructor.trs ((((w.gPackages[i]).gDataTypes)[k]).gConstructors)))]) (ds := [.t (.leaf (.string ((((w.gPackages[i]).gDataTypes)[k]).gName))), .t (.row 1 (strTrs ((((w.gPackages[i]).gDataTypes)[k]).gVars))), .t (.row 2 (GConstructor.trs ((((w.gPackages[i]).gDataTypes)[k]).gConstructors)))]) rfl rfl rfl rfl rfl rfl rfl sz171 (Nat.le_of_ble_eq_true rfl) rfl) ?_
        refine AL.cons rfl (AOp.move (.inr rfl) rfl rfl) ?_
        refine AL.cons rfl (AOp.move (.inr rfl) rfl rfl) ?_
        refine AL.nil ?_
        refine AWP.ret ?_
        exact Ends.mk (ps := [_, _, _]) (.inr rfl) ⟨⟨_, _, _, rfl, rfl, sh171, rfl, rfl⟩, rfl, rfl, trivial⟩ rfl (StLe.mk' (st' := ⟨[], []⟩) trivial rfl) (keeps_nil hC) (q := (.tup [(GDataType.pv (((w.gPackages[i]).gDataTypes)[k])), .t (.leaf (.int .i64 (((i : Nat) : Int)))), .t (.leaf (.bool (true)))] : PV)) (by (repeat' (first | exact PV.Le.refl _ | exact LeL.nil | exact PV.Le.nil _ | exact PV.Le.acc _ _ _ | apply LeL.cons | apply PV.Le.agg | apply PV.Le.tup))) rfl ⟨by exact optDataType_some (findP_hit (by omega) (by omega) hi2 hk2 (by assumption)), rfl⟩
      · skip
        have h7b := h7
        try simp only [Bool.and_eq_true, Bool.or_eq_true, Bool.and_eq_false_iff, Bool.or_eq_false_iff, decide_eq_true_eq, decide_eq_false_iff_not, Bool.not_eq_true', Bool.not_eq_false', Bool.not_eq_eq_eq_not, Bool.not_true, Bool.not_false, ge_iff_le, gt_iff_lt, Int.not_lt, Int.not_le] at h7b
        refine AWP.skip ?_
        refine AWP.region_lit ?_
        refine AL.cons rfl (AOp.addI rfl rfl rfl rfl (c := ((k + 1 : Nat) : Int)) (by omega) (by omega)) ?_
        refine AL.cons rfl (AOp.move (.inl rfl) rfl rfl) ?_
        refine AL.nil ?_
        refine ⟨k + 1, ?_, ?_, ?_⟩
        · exact ⟨by omega, findP_next (by omega) hk2 (by assumption)⟩
        · skip
          exact Wk.mk (StLe.mk' ⟨⟨rfl, by (repeat' (first | exact PV.Le.refl _ | exact LeL.nil | exact PV.Le.nil _ | exact PV.Le.acc _ _ _ | apply LeL.cons | apply PV.Le.agg | apply PV.Le.tup)), rfl⟩, ⟨⟨rfl, by (repeat' (first | exact PV.Le.refl _ | exact LeL.nil | exact PV.Le.nil _ | exact PV.Le.acc _ _ _ | apply LeL.cons | apply PV.Le.agg | apply PV.Le.tup)), rfl⟩, ⟨⟨rfl, by (repeat' (first | exact PV.Le.refl _ | exact LeL.nil | exact PV.Le.nil _ | exact PV.Le.acc _ _ _ | apply LeL.cons | apply PV.Le.agg | apply PV.Le.tup)), rfl⟩, trivial⟩⟩⟩ rfl) (keeps_nil hC) ⟨⟨_, rfl, .refl _, rfl⟩, ⟨⟨_, rfl, .refl _, rfl⟩, ⟨⟨_, rfl, .refl _, rfl⟩, ⟨⟨_, rfl, .refl _, rfl⟩, ⟨⟨_, rfl, .refl _, rfl⟩, ⟨⟨_, rfl, .refl _, rfl⟩, ⟨⟨_, rfl, .refl _, rfl⟩, ⟨⟨_, rfl, .refl _, rfl⟩, ⟨⟨_, rfl, .refl _, rfl⟩, ⟨⟨_, rfl, .refl _, rfl⟩, ⟨⟨_, rfl, .refl _, rfl⟩, ⟨⟨_, rfl, by (repeat' (first | exact PV.Le.refl _ | exact LeL.nil | exact PV.Le.nil _ | exact PV.Le.acc _ _ _ | apply LeL.cons | apply PV.Le.agg | apply PV.Le.tup)), rfl⟩, trivial⟩⟩⟩⟩⟩⟩⟩⟩⟩⟩⟩⟩
        · omega
    · skip
      have h6b := h6
      try simp only [Bool.and_eq_true, Bool.or_eq_true, Bool.and_eq_false_iff, Bool.or_eq_false_iff, decide_eq_true_eq, decide_eq_false_iff_not, Bool.not_eq_true', Bool.not_eq_false', Bool.not_eq_eq_eq_not, Bool.not_true, Bool.not_false, ge_iff_le, gt_iff_lt, Int.not_lt, Int.not_le] at h6b
      have h6n : k ≥ ((w.gPackages[i]).gDataTypes).length := by omega
      refine AWP.exit ?_
      refine AWP.region_lit ?_
      refine AL.cons rfl (AOp.addI rfl rfl rfl rfl (c := ((i + 1 : Nat) : Int)) (by omega) (by omega)) ?_
      refine AL.cons rfl (AOp.move (.inl rfl) rfl rfl) ?_
      refine AL.nil ?_
      refine ⟨i + 1, ?_, ?_, ?_⟩
      · exact ⟨by omega, findP_miss (by omega) hi2 hk2 (by omega)⟩
      · skip
        exact Wk.mk (StLe.mk' ⟨⟨rfl, by (repeat' (first | exact PV.Le.refl _ | exact LeL.nil | exact PV.Le.nil _ | exact PV.Le.acc _ _ _ | apply LeL.cons | apply PV.Le.agg | apply PV.Le.tup)), rfl⟩, ⟨⟨rfl, by (repeat' (first | exact PV.Le.refl _ | exact LeL.nil | exact PV.Le.nil _ | exact PV.Le.acc _ _ _ | apply LeL.cons | apply PV.Le.agg | apply PV.Le.tup)), rfl⟩, trivial⟩⟩ rfl) (keeps_nil hC) ⟨⟨_, rfl, .refl _, rfl⟩, ⟨⟨_, rfl, .refl _, rfl⟩, ⟨⟨_, rfl, .refl _, rfl⟩, ⟨⟨_, rfl, .refl _, rfl⟩, ⟨⟨_, rfl, .refl _, rfl⟩, ⟨⟨_, rfl, .refl _, rfl⟩, ⟨⟨_, rfl, by (repeat' (first | exact PV.Le.refl _ | exact LeL.nil | exact PV.Le.nil _ | exact PV.Le.acc _ _ _ | apply LeL.cons | apply PV.Le.agg | apply PV.Le.tup)), rfl⟩, trivial⟩⟩⟩⟩⟩⟩⟩
      · omega
  · skip
    have h3b := h3
    try simp only [Bool.and_eq_true, Bool.or_eq_true, Bool.and_eq_false_iff, Bool.or_eq_false_iff, decide_eq_true_eq, decide_eq_false_iff_not, Bool.not_eq_true', Bool.not_eq_false', Bool.not_eq_eq_eq_not, Bool.not_true, Bool.not_false, ge_iff_le, gt_iff_lt, Int.not_lt, Int.not_le] at h3b
    have h3n : i ≥ w.gPackages.length := by omega
    refine AWP.exit ?_
    refine AWP.seq ?_
    refine AWP.region_lit ?_
    refine AL.cons rfl (AOp.build rfl rfl zr171 pl171 rfl rfl) ?_
    refine AL.cons rfl (AOp.storePtr (cs := [.t (.leaf (.string (⟨#[]⟩))), .nil, .nil]) (ds := [.t (.leaf (.string (⟨#[]⟩))), .nil, .nil]) rfl rfl rfl rfl rfl rfl rfl sz171 (Nat.le_of_ble_eq_true rfl) rfl) ?_
    refine AL.cons rfl (AOp.move (.inr rfl) rfl rfl) ?_
    refine AL.cons rfl (AOp.move (.inr rfl) rfl rfl) ?_
    refine AL.nil ?_
    refine AWP.ret ?_
    exact Ends.mk (ps := [_, _, _]) (.inr rfl) ⟨⟨_, _, _, rfl, rfl, sh171, rfl, rfl⟩, rfl, rfl, trivial⟩ rfl (StLe.mk' (st' := ⟨[], []⟩) trivial rfl) (keeps_nil hC) (q := PV.tup [GDataType.pv GDataType.zero, .t (.leaf (.int .i64 (0))), .t (.leaf (.bool (false)))]) (by (repeat' (first | exact PV.Le.refl _ | exact LeL.nil | exact PV.Le.nil _ | exact PV.Le.acc _ _ _ | apply LeL.cons | apply PV.Le.agg | apply PV.Le.tup))) rfl ⟨by exact optDataType_none (findP_end hi2 (by omega)), rfl⟩

set_option maxRecDepth 100000 in
set_option maxHeartbeats 4000000 in
theorem data_spec (w : GProgram) (s : ByteArray) : AFun Tryz.prog 139 [(GProgram.pv w), .t (.leaf (.string (s)))] (.tup [(GDataType.pv (oDataType (w.dataAt s))), .t (.leaf (.int .i64 (oInt (w.dataAt s)))), .t (.leaf (.bool ((w.dataAt s).isSome)))]) := by
  refine ACalls.intro Tryz.func139 rfl (by first | decide | (simp; done) | (simp; decide)) ?_
  intro C hC
  refine AWP.seq ?_
  refine AWP.region_lit ?_
  refine AL.cons rfl (AOp.box (cs := [.t (.row 6 (GPackage.trs (w.gPackages)))]) rfl rfl rfl rfl rfl) ?_
  refine AL.cons rfl (AOp.alloc rfl rfl zr171) ?_
  refine AL.cons rfl (AOp.move (.inr rfl) rfl rfl) ?_
  refine AL.cons rfl (AOp.move (.inr rfl) rfl rfl) ?_
  refine AL.nil ?_
  refine AWP.seq ?_
  refine AWP.seq ?_
  refine AWP.region_lit ?_
  refine AL.cons rfl (AOp.move (.inr rfl) rfl rfl) ?_
  refine AL.nil ?_
  refine AWP.block ?_
  refine AWP.loopJ (ι := Nat) (fun i => i ≤ w.gPackages.length ∧ findP GDataType.gName GPackage.gDataTypes s 0 w.gPackages = findP GDataType.gName GPackage.gDataTypes s i (w.gPackages.drop i)) (fun i => ⟨[(0, (GProgram.pv w)), (1, .t (.leaf (.string (s)))), (2, .ptr 0 0), (4, .ptr 1 0), (7, .t (.leaf (.int .i64 (((i : Nat) : Int)))))], ⟨[some ⟨31, [.t (.row 6 (GPackage.trs (w.gPackages)))]⟩, some ⟨171, [.t (.leaf (.string (⟨#[]⟩))), .nil, .nil]⟩], []⟩⟩) (fun i => w.gPackages.length - i) 0 ?_ ?_ ?_
  · exact ⟨Nat.zero_le _, rfl⟩
  · skip
    exact Wk.mk (StLe.mk' ⟨⟨rfl, by (repeat' (first | exact PV.Le.refl _ | exact LeL.nil | exact PV.Le.nil _ | exact PV.Le.acc _ _ _ | apply LeL.cons | apply PV.Le.agg | apply PV.Le.tup)), rfl⟩, ⟨⟨rfl, by (repeat' (first | exact PV.Le.refl _ | exact LeL.nil | exact PV.Le.nil _ | exact PV.Le.acc _ _ _ | apply LeL.cons | apply PV.Le.agg | apply PV.Le.tup)), rfl⟩, trivial⟩⟩ rfl) (keeps_nil hC) ⟨⟨_, rfl, .refl _, rfl⟩, ⟨⟨_, rfl, .refl _, rfl⟩, ⟨⟨_, rfl, .refl _, rfl⟩, ⟨⟨_, rfl, .refl _, rfl⟩, ⟨⟨_, rfl, by (repeat' (first | exact PV.Le.refl _ | exact LeL.nil | exact PV.Le.nil _ | exact PV.Le.acc _ _ _ | apply LeL.cons | apply PV.Le.agg | apply PV.Le.tup)), rfl⟩, trivial⟩⟩⟩⟩⟩
  rintro i hJ1
  obtain ⟨hi1, hi2⟩ := hJ1
  refine AWP.seq ?_
  refine AWP.seq ?_
  refine AWP.region_lit ?_
  refine AL.cons rfl (AOp.move (.inl rfl) rfl rfl) ?_
  refine AL.cons rfl (AOp.fieldPtr (k := 0) (d := 0) (e := 0) rfl rfl rfl fo31_0) ?_
  refine AL.cons rfl (AOp.loadPtr1 rfl rfl rfl rfl sh29 rfl) ?_
  refine AL.fact (lk_lenN 11 rfl rfl (GPackage.trs_len _)) (fun hl2 => ?_)
  refine AL.cons rfl (AOp.lenN rfl rfl rfl rfl el29 (GPackage.trs_len _)) ?_
  refine AL.cons rfl (AOp.lss rfl rfl rfl rfl) ?_
  refine AL.nil ?_
  refine AWP.cond rfl (fun h3 => ?_) (fun h3 => ?_)
  · skip
    have h3b := h3
    try simp only [Bool.and_eq_true, Bool.or_eq_true, Bool.and_eq_false_iff, Bool.or_eq_false_iff, decide_eq_true_eq, decide_eq_false_iff_not, Bool.not_eq_true', Bool.not_eq_false', Bool.not_eq_eq_eq_not, Bool.not_true, Bool.not_false, ge_iff_le, gt_iff_lt, Int.not_lt, Int.not_le] at h3b
    have h3n : i < w.gPackages.length := by omega
    refine AWP.skip ?_
    refine AWP.seq ?_
    refine AWP.block ?_
    refine AWP.seq ?_
    refine AWP.region_lit ?_
    refine AL.cons rfl (AOp.move (.inr rfl) rfl rfl) ?_
    refine AL.nil ?_
    refine AWP.block ?_
    refine AWP.loopJ (ι := Nat) (fun k => k ≤ (w.gPackages[i]).gDataTypes.length ∧ (w.gPackages[i]).gDataTypes.find? (fun x => decide (GDataType.gName x = s)) = ((w.gPackages[i]).gDataTypes.drop k).find? (fun x => decide (GDataType.gName x = s))) (fun k => ⟨[(0, (GProgram.pv w)), (1, .t (.leaf (.string (s)))), (2, .ptr 0 0), (4, .ptr 1 0), (7, .t (.leaf (.int .i64 (((i : Nat) : Int))))), (8, .t (.leaf (.int .i64 (((k : Nat) : Int)))))], ⟨[some ⟨31, [.t (.row 6 (GPackage.trs (w.gPackages)))]⟩, some ⟨171, [.t (.leaf (.string (⟨#[]⟩))), .nil, .nil]⟩], []⟩⟩) (fun k => (w.gPackages[i]).gDataTypes.length - k) 0 ?_ ?_ ?_
    · exact ⟨Nat.zero_le _, rfl⟩
    · skip
      exact Wk.mk (StLe.mk' ⟨⟨rfl, by (repeat' (first | exact PV.Le.refl _ | exact LeL.nil | exact PV.Le.nil _ | exact PV.Le.acc _ _ _ | apply LeL.cons | apply PV.Le.agg | apply PV.Le.tup)), rfl⟩, ⟨⟨rfl, by (repeat' (first | exact PV.Le.refl _ | exact LeL.nil | exact PV.Le.nil _ | exact PV.Le.acc _ _ _ | apply LeL.cons | apply PV.Le.agg | apply PV.Le.tup)), rfl⟩, trivial⟩⟩ rfl) (keeps_nil hC) ⟨⟨_, rfl, .refl _, rfl⟩, ⟨⟨_, rfl, .refl _, rfl⟩, ⟨⟨_, rfl, .refl _, rfl⟩, ⟨⟨_, rfl, .refl _, rfl⟩, ⟨⟨_, rfl, .refl _, rfl⟩, ⟨⟨_, rfl, by (repeat' (first | exact PV.Le.refl _ | exact LeL.nil | exact PV.Le.nil _ | exact PV.Le.acc _ _ _ | apply LeL.cons | apply PV.Le.agg | apply PV.Le.tup)), rfl⟩, trivial⟩⟩⟩⟩⟩⟩
    rintro k hJ4
    obtain ⟨hk1, hk2⟩ := hJ4
    refine AWP.seq ?_
    refine AWP.seq ?_
    refine AWP.region_lit ?_
    refine AL.cons rfl (AOp.move (.inl rfl) rfl rfl) ?_
    refine AL.cons rfl (AOp.fieldPtr (k := 0) (d := 0) (e := 0) rfl rfl rfl fo31_0) ?_
    refine AL.cons rfl (AOp.loadPtr1 rfl rfl rfl rfl sh29 rfl) ?_
    refine AL.cons rfl (AOp.move (.inl rfl) rfl rfl) ?_
    refine AL.cons rfl (AOp.index (k := i) rfl rfl rfl rfl rfl (GPackage.trs_cs h3n) el29) ?_
    refine AL.cons rfl (AOp.fieldEptr (cs := (GPackage.cs (w.gPackages[i]))) (e := 3) rfl rfl rfl fo126_3) ?_
    refine AL.cons rfl (AOp.loadEptr1 (d := .row 3 (GDataType.trs ((w.gPackages[i]).gDataTypes))) rfl rfl rfl sh122 rfl) ?_
    refine AL.fact (lk_lenN 22 rfl rfl (GDataType.trs_len _)) (fun hl5 => ?_)
    refine AL.cons rfl (AOp.lenN rfl rfl rfl rfl el122 (GDataType.trs_len _)) ?_
    refine AL.cons rfl (AOp.lss rfl rfl rfl rfl) ?_
    refine AL.nil ?_
    refine AWP.cond rfl (fun h6 => ?_) (fun h6 => ?_)
    · skip
      have h6b := h6
      try simp only [Bool.and_eq_true, Bool.or_eq_true, Bool.and_eq_false_iff, Bool.or_eq_false_iff, decide_eq_true_eq, decide_eq_false_iff_not, Bool.not_eq_true', Bool.not_eq_false', Bool.not_eq_eq_eq_not, Bool.not_true, Bool.not_false, ge_iff_le, gt_iff_lt, Int.not_lt, Int.not_le] at h6b
      have h6n : k < ((w.gPackages[i]).gDataTypes).length := by omega
      refine AWP.skip ?_
      refine AWP.seq ?_
      refine AWP.block ?_
      refine AWP.seq ?_
      refine AWP.region_lit ?_
      refine AL.cons rfl (AOp.fieldPtr (k := 0) (d := 0) (e := 0) rfl rfl rfl fo31_0) ?_
      refine AL.cons rfl (AOp.loadPtr1 rfl rfl rfl rfl sh29 rfl) ?_
      refine AL.cons rfl (AOp.move (.inl rfl) rfl rfl) ?_
      refine AL.cons rfl (AOp.index (k := i) rfl rfl rfl rfl rfl (GPackage.trs_cs h3n) el29) ?_
      refine AL.cons rfl (AOp.fieldEptr (cs := (GPackage.cs (w.gPackages[i]))) (e := 3) rfl rfl rfl fo126_3) ?_
      refine AL.cons rfl (AOp.loadEptr1 (d := .row 3 (GDataType.trs ((w.gPackages[i]).gDataTypes))) rfl rfl rfl sh122 rfl) ?_
      refine AL.cons rfl (AOp.move (.inl rfl) rfl rfl) ?_
      refine AL.cons rfl (AOp.index (k := k) rfl rfl rfl rfl rfl (GDataType.trs_cs h6n) el122) ?_
      refine AL.cons rfl (AOp.fieldEptr (cs := (GDataType.cs (((w.gPackages[i]).gDataTypes)[k]))) (e := 0) rfl rfl rfl fo171_0) ?_
      refine AL.cons rfl (AOp.loadEptr1 (d := .leaf (.string ((((w.gPackages[i]).gDataTypes)[k]).gName))) rfl rfl rfl sh9 rfl) ?_
      refine AL.cons rfl (AOp.move (.inl rfl) rfl rfl) ?_
      refine AL.cons rfl (AOp.eqlS rfl rfl rfl rfl) ?_
      refine AL.nil ?_
      refine AWP.cond rfl (fun h7 => ?_) (fun h7 => ?_)
      · skip
        have h7b := h7
        try simp only [Bool.and_eq_true, Bool.or_eq_true, Bool.and_eq_false_iff, Bool.or_eq_false_iff, decide_eq_true_eq, decide_eq_false_iff_not, Bool.not_eq_true', Bool.not_eq_false', Bool.not_eq_eq_eq_not, Bool.not_true, Bool.not_false, ge_iff_le, gt_iff_lt, Int.not_lt, Int.not_le] at h7b
        refine AWP.seq ?_
        refine AWP.region_lit ?_
        refine AL.cons rfl (AOp.fieldPtr (k := 0) (d := 0) (e := 0) rfl rfl rfl fo31_0) ?_
        refine AL.cons rfl (AOp.loadPtr1 rfl rfl rfl rfl sh29 rfl) ?_
        refine AL.cons rfl (AOp.move (.inl rfl) rfl rfl) ?_
        refine AL.cons rfl (AOp.index (k := i) rfl rfl rfl rfl rfl (GPackage.trs_cs h3n) el29) ?_
        refine AL.cons rfl (AOp.fieldEptr (cs := (GPackage.cs (w.gPackages[i]))) (e := 3) rfl rfl rfl fo126_3) ?_
        refine AL.cons rfl (AOp.loadEptr1 (d := .row 3 (GDataType.trs ((w.gPackages[i]).gDataTypes))) rfl rfl rfl sh122 rfl) ?_
        refine AL.cons rfl (AOp.move (.inl rfl) rfl rfl) ?_
        refine AL.cons rfl (AOp.index (k := k) rfl rfl rfl rfl rfl (GDataType.trs_cs h6n) el122) ?_
        refine AL.cons rfl (AOp.loadEptr (ds := [.leaf (.string ((((w.gPackages[i]).gDataTypes)[k]).gName)), .row 1 (strTrs ((((w.gPackages[i]).gDataTypes)[k]).gVars)), .row 2 (GConstructor.trs ((((w.gPackages[i]).gDataTypes)[k]).gConstructors))]) rfl rfl rfl sh171 rfl rfl) ?_
        refine AL.cons rfl (AOp.move (.inl rfl) rfl rfl) ?_
        refine AL.cons rfl (AOp.storePtr (cs := [.t (.leaf (.string ((((w.gPackages[i]).gDataTypes)[k]).gName))), .t (.row 1 (strTrs ((((w.gPackages[i]).gDataTypes)[k]).gVars))), .t (.row 2 (GConstructor.trs ((((w.gPackages[i]).gDataTypes)[k]).gConstructors)))]) (ds := [.t (.leaf (.string ((((w.gPackages[i]).gDataTypes)[k]).gName))), .t (.row 1 (strTrs ((((w.gPackages[i]).gDataTypes)[k]).gVars))), .t (.row 2 (GConstructor.trs ((((w.gPackages[i]).gDataTypes)[k]).gConstructors)))]) rfl rfl rfl rfl rfl rfl rfl sz171 (Nat.le_of_ble_eq_true rfl) rfl) ?_
        refine AL.cons rfl (AOp.move (.inr rfl) rfl rfl) ?_
        refine AL.cons rfl (AOp.move (.inr rfl) rfl rfl) ?_
        refine AL.nil ?_
        refine AWP.ret ?_
        exact Ends.mk (ps := [_, _, _]) (.inr rfl) ⟨⟨_, _, _, rfl, rfl, sh171, rfl, rfl⟩, rfl, rfl, trivial⟩ rfl (StLe.mk' (st' := ⟨[], []⟩) trivial rfl) (keeps_nil hC) (q := (.tup [(GDataType.pv (((w.gPackages[i]).gDataTypes)[k])), .t (.leaf (.int .i64 (((i : Nat) : Int)))), .t (.leaf (.bool (true)))] : PV)) (by (repeat' (first | exact PV.Le.refl _ | exact LeL.nil | exact PV.Le.nil _ | exact PV.Le.acc _ _ _ | apply LeL.cons | apply PV.Le.agg | apply PV.Le.tup))) rfl ⟨by exact optDataType_some (findP_hit (by omega) (by omega) hi2 hk2 (by assumption)), rfl⟩
      · skip
        have h7b := h7
        try simp only [Bool.and_eq_true, Bool.or_eq_true, Bool.and_eq_false_iff, Bool.or_eq_false_iff, decide_eq_true_eq, decide_eq_false_iff_not, Bool.not_eq_true', Bool.not_eq_false', Bool.not_eq_eq_eq_not, Bool.not_true, Bool.not_false, ge_iff_le, gt_iff_lt, Int.not_lt, Int.not_le] at h7b
        refine AWP.skip ?_
        refine AWP.region_lit ?_
        refine AL.cons rfl (AOp.move (.inl rfl) rfl rfl) ?_
        refine AL.cons rfl (AOp.addI rfl rfl rfl rfl (c := ((k + 1 : Nat) : Int)) (by omega) (by omega)) ?_
        refine AL.cons rfl (AOp.move (.inr rfl) rfl rfl) ?_
        refine AL.nil ?_
        refine ⟨k + 1, ?_, ?_, ?_⟩
        · exact ⟨by omega, findP_next (by omega) hk2 (by assumption)⟩
        · skip
          exact Wk.mk (StLe.mk' ⟨⟨rfl, by (repeat' (first | exact PV.Le.refl _ | exact LeL.nil | exact PV.Le.nil _ | exact PV.Le.acc _ _ _ | apply LeL.cons | apply PV.Le.agg | apply PV.Le.tup)), rfl⟩, ⟨⟨rfl, by (repeat' (first | exact PV.Le.refl _ | exact LeL.nil | exact PV.Le.nil _ | exact PV.Le.acc _ _ _ | apply LeL.cons | apply PV.Le.agg | apply PV.Le.tup)), rfl⟩, trivial⟩⟩ rfl) (keeps_nil hC) ⟨⟨_, rfl, .refl _, rfl⟩, ⟨⟨_, rfl, .refl _, rfl⟩, ⟨⟨_, rfl, .refl _, rfl⟩, ⟨⟨_, rfl, .refl _, rfl⟩, ⟨⟨_, rfl, .refl _, rfl⟩, ⟨⟨_, rfl, by (repeat' (first | exact PV.Le.refl _ | exact LeL.nil | exact PV.Le.nil _ | exact PV.Le.acc _ _ _ | apply LeL.cons | apply PV.Le.agg | apply PV.Le.tup)), rfl⟩, trivial⟩⟩⟩⟩⟩⟩
        · omega
    · skip
      have h6b := h6
      try simp only [Bool.and_eq_true, Bool.or_eq_true, Bool.and_eq_false_iff, Bool.or_eq_false_iff, decide_eq_true_eq, decide_eq_false_iff_not, Bool.not_eq_true', Bool.not_eq_false', Bool.not_eq_eq_eq_not, Bool.not_true, Bool.not_false, ge_iff_le, gt_iff_lt, Int.not_lt, Int.not_le] at h6b
      have h6n : k ≥ ((w.gPackages[i]).gDataTypes).length := by omega
      refine AWP.exit ?_
      refine AWP.region_lit ?_
      refine AL.cons rfl (AOp.move (.inl rfl) rfl rfl) ?_
      refine AL.cons rfl (AOp.addI rfl rfl rfl rfl (c := ((i + 1 : Nat) : Int)) (by omega) (by omega)) ?_
      refine AL.cons rfl (AOp.move (.inr rfl) rfl rfl) ?_
      refine AL.nil ?_
      refine ⟨i + 1, ?_, ?_, ?_⟩
      · exact ⟨by omega, findP_miss (by omega) hi2 hk2 (by omega)⟩
      · skip
        exact Wk.mk (StLe.mk' ⟨⟨rfl, by (repeat' (first | exact PV.Le.refl _ | exact LeL.nil | exact PV.Le.nil _ | exact PV.Le.acc _ _ _ | apply LeL.cons | apply PV.Le.agg | apply PV.Le.tup)), rfl⟩, ⟨⟨rfl, by (repeat' (first | exact PV.Le.refl _ | exact LeL.nil | exact PV.Le.nil _ | exact PV.Le.acc _ _ _ | apply LeL.cons | apply PV.Le.agg | apply PV.Le.tup)), rfl⟩, trivial⟩⟩ rfl) (keeps_nil hC) ⟨⟨_, rfl, .refl _, rfl⟩, ⟨⟨_, rfl, .refl _, rfl⟩, ⟨⟨_, rfl, .refl _, rfl⟩, ⟨⟨_, rfl, .refl _, rfl⟩, ⟨⟨_, rfl, by (repeat' (first | exact PV.Le.refl _ | exact LeL.nil | exact PV.Le.nil _ | exact PV.Le.acc _ _ _ | apply LeL.cons | apply PV.Le.agg | apply PV.Le.tup)), rfl⟩, trivial⟩⟩⟩⟩⟩
      · omega
  · skip
    have h3b := h3
    try simp only [Bool.and_eq_true, Bool.or_eq_true, Bool.and_eq_false_iff, Bool.or_eq_false_iff, decide_eq_true_eq, decide_eq_false_iff_not, Bool.not_eq_true', Bool.not_eq_false', Bool.not_eq_eq_eq_not, Bool.not_true, Bool.not_false, ge_iff_le, gt_iff_lt, Int.not_lt, Int.not_le] at h3b
    have h3n : i ≥ w.gPackages.length := by omega
    refine AWP.exit ?_
    refine AWP.seq ?_
    refine AWP.region_lit ?_
    refine AL.cons rfl (AOp.build rfl rfl zr171 pl171 rfl rfl) ?_
    refine AL.cons rfl (AOp.storePtr (cs := [.t (.leaf (.string (⟨#[]⟩))), .nil, .nil]) (ds := [.t (.leaf (.string (⟨#[]⟩))), .nil, .nil]) rfl rfl rfl rfl rfl rfl rfl sz171 (Nat.le_of_ble_eq_true rfl) rfl) ?_
    refine AL.cons rfl (AOp.move (.inr rfl) rfl rfl) ?_
    refine AL.cons rfl (AOp.move (.inr rfl) rfl rfl) ?_
    refine AL.nil ?_
    refine AWP.ret ?_
    exact Ends.mk (ps := [_, _, _]) (.inr rfl) ⟨⟨_, _, _, rfl, rfl, sh171, rfl, rfl⟩, rfl, rfl, trivial⟩ rfl (StLe.mk' (st' := ⟨[], []⟩) trivial rfl) (keeps_nil hC) (q := PV.tup [GDataType.pv GDataType.zero, .t (.leaf (.int .i64 (0))), .t (.leaf (.bool (false)))]) (by (repeat' (first | exact PV.Le.refl _ | exact LeL.nil | exact PV.Le.nil _ | exact PV.Le.acc _ _ _ | apply LeL.cons | apply PV.Le.agg | apply PV.Le.tup))) rfl ⟨by exact optDataType_none (findP_end hi2 (by omega)), rfl⟩

def GProgram.functionAt (w : GProgram) (s : ByteArray) : Option (GFunction × Nat) := findP GFunction.gName GPackage.gFunctions s 0 w.gPackages
def GFunction.zero : GFunction := .mk ⟨#[]⟩ [] [] [] (.mk 0 ⟨#[]⟩ []) (.mk 0 ⟨#[]⟩ ⟨#[]⟩ 0 (.mk 0 ⟨#[]⟩ []) [] [])
def oFunction (o : Option (GFunction × Nat)) : GFunction := match o with | some (x, _) => x | none => GFunction.zero
abbrev optFunction (o : Option (GFunction × Nat)) : PV := .tup [GFunction.pv (oFunction o), .t (.leaf (.int .i64 (oInt o))), .t (.leaf (.bool o.isSome))]
theorem optFunction_some {o : Option (GFunction × Nat)} {x : GFunction} {i : Nat} (h : o = some (x, i)) : PV.tup [GFunction.pv x, .t (.leaf (.int .i64 (i : Int))), .t (.leaf (.bool true))] = optFunction o := by rw [h]; rfl
theorem optFunction_none {o : Option (GFunction × Nat)} (h : o = none) : PV.tup [GFunction.pv GFunction.zero, .t (.leaf (.int .i64 0)), .t (.leaf (.bool false))] = optFunction o := by rw [h]; rfl

set_option maxRecDepth 100000 in
set_option maxHeartbeats 4000000 in
theorem function_impl (w : GProgram) (s : ByteArray) : AFun Tryz.prog 127 [(GProgram.pv w), .t (.leaf (.string (s)))] (.tup [(GFunction.pv (oFunction (w.functionAt s))), .t (.leaf (.int .i64 (oInt (w.functionAt s)))), .t (.leaf (.bool ((w.functionAt s).isSome)))]) := by
  refine ACalls.intro Tryz.func127 rfl (by first | decide | (simp; done) | (simp; decide)) ?_
  intro C hC
  refine AWP.seq ?_
  refine AWP.region_lit ?_
  refine AL.cons rfl (AOp.box (cs := [.t (.row 6 (GPackage.trs (w.gPackages)))]) rfl rfl rfl rfl rfl) ?_
  refine AL.cons rfl (AOp.alloc rfl rfl zr105) ?_
  refine AL.cons rfl (AOp.move (.inr rfl) rfl rfl) ?_
  refine AL.cons rfl (AOp.move (.inr rfl) rfl rfl) ?_
  refine AL.nil ?_
  refine AWP.seq ?_
  refine AWP.seq ?_
  refine AWP.region_lit ?_
  refine AL.cons rfl (AOp.fieldPtr (k := 0) (d := 0) (e := 0) rfl rfl rfl fo31_0) ?_
  refine AL.cons rfl (AOp.loadPtr1 rfl rfl rfl rfl sh29 rfl) ?_
  refine AL.fact (lk_lenN 12 rfl rfl (GPackage.trs_len _)) (fun hl1 => ?_)
  refine AL.cons rfl (AOp.lenN rfl rfl rfl rfl el29 (GPackage.trs_len _)) ?_
  refine AL.cons rfl (AOp.move (.inl rfl) rfl rfl) ?_
  refine AL.nil ?_
  refine AWP.block ?_
  refine AWP.loopJ (ι := Nat) (fun i => i ≤ w.gPackages.length ∧ findP GFunction.gName GPackage.gFunctions s 0 w.gPackages = findP GFunction.gName GPackage.gFunctions s i (w.gPackages.drop i)) (fun i => ⟨[(0, (GProgram.pv w)), (1, .t (.leaf (.string (s)))), (2, .ptr 0 0), (4, .ptr 1 0), (12, .t (.row 6 (GPackage.trs (w.gPackages)))), (13, .t (.leaf (.int .i64 (((w.gPackages.length : Nat) : Int))))), (14, .t (.leaf (.int .i64 (((i : Nat) : Int)))))], ⟨[some ⟨31, [.t (.row 6 (GPackage.trs (w.gPackages)))]⟩, some ⟨105, [.t (.leaf (.string (⟨#[]⟩))), .nil, .nil, .nil, .t (.leaf (.int .i64 (0))), .t (.leaf (.string (⟨#[]⟩))), .nil, .t (.leaf (.int .i64 (0))), .t (.leaf (.string (⟨#[]⟩))), .t (.leaf (.string (⟨#[]⟩))), .t (.leaf (.int .i64 (0))), .t (.leaf (.int .i64 (0))), .t (.leaf (.string (⟨#[]⟩))), .nil, .nil, .nil]⟩], []⟩⟩) (fun i => w.gPackages.length - i) 0 ?_ ?_ ?_
  · exact ⟨Nat.zero_le _, rfl⟩
  · skip
    exact Wk.mk (StLe.mk' ⟨⟨rfl, by (repeat' (first | exact PV.Le.refl _ | exact LeL.nil | exact PV.Le.nil _ | exact PV.Le.acc _ _ _ | apply LeL.cons | apply PV.Le.agg | apply PV.Le.tup)), rfl⟩, ⟨⟨rfl, by (repeat' (first | exact PV.Le.refl _ | exact LeL.nil | exact PV.Le.nil _ | exact PV.Le.acc _ _ _ | apply LeL.cons | apply PV.Le.agg | apply PV.Le.tup)), rfl⟩, trivial⟩⟩ rfl) (keeps_nil hC) ⟨⟨_, rfl, .refl _, rfl⟩, ⟨⟨_, rfl, .refl _, rfl⟩, ⟨⟨_, rfl, .refl _, rfl⟩, ⟨⟨_, rfl, .refl _, rfl⟩, ⟨⟨_, rfl, .refl _, rfl⟩, ⟨⟨_, rfl, .refl _, rfl⟩, ⟨⟨_, rfl, by (repeat' (first | exact PV.Le.refl _ | exact LeL.nil | exact PV.Le.nil _ | exact PV.Le.acc _ _ _ | apply LeL.cons | apply PV.Le.agg | apply PV.Le.tup)), rfl⟩, trivial⟩⟩⟩⟩⟩⟩⟩
  rintro i hJ2
  obtain ⟨hi1, hi2⟩ := hJ2
  refine AWP.seq ?_
  refine AWP.region_lit ?_
  refine AL.cons rfl (AOp.lss rfl rfl rfl rfl) ?_
  refine AL.nil ?_
  refine AWP.seq ?_
  refine AWP.cond rfl (fun h3 => ?_) (fun h3 => ?_)
  · skip
    have h3b := h3
    try simp only [Bool.and_eq_true, Bool.or_eq_true, Bool.and_eq_false_iff, Bool.or_eq_false_iff, decide_eq_true_eq, decide_eq_false_iff_not, Bool.not_eq_true', Bool.not_eq_false', Bool.not_eq_eq_eq_not, Bool.not_true, Bool.not_false, ge_iff_le, gt_iff_lt, Int.not_lt, Int.not_le] at h3b
    have h3n : i < w.gPackages.length := by omega
    refine AWP.skip ?_
    refine AWP.seq ?_
    refine AWP.block ?_
    refine AWP.seq ?_
    refine AWP.region_lit ?_
    refine AL.cons rfl (AOp.move (.inl rfl) rfl rfl) ?_
    refine AL.cons rfl (AOp.index (k := i) rfl rfl rfl rfl rfl (GPackage.trs_cs h3n) el29) ?_
    refine AL.cons rfl (AOp.loadEptr (ds := [.leaf (.string ((w.gPackages[i]).gName)), .row 1 (strTrs ((w.gPackages[i]).gDeps)), .row 5 (GTrait.trs ((w.gPackages[i]).gTraits)), .row 3 (GDataType.trs ((w.gPackages[i]).gDataTypes)), .row 12 (GInstance.trs ((w.gPackages[i]).gInstances)), .row 16 (GFunction.trs ((w.gPackages[i]).gFunctions))]) rfl rfl rfl sh126 rfl rfl) ?_
    refine AL.cons rfl (AOp.alloc rfl rfl zr126) ?_
    refine AL.cons rfl (AOp.move (.inr rfl) rfl rfl) ?_
    refine AL.cons rfl (AOp.storePtr (cs := [.t (.leaf (.string ((w.gPackages[i]).gName))), .t (.row 1 (strTrs ((w.gPackages[i]).gDeps))), .t (.row 5 (GTrait.trs ((w.gPackages[i]).gTraits))), .t (.row 3 (GDataType.trs ((w.gPackages[i]).gDataTypes))), .t (.row 12 (GInstance.trs ((w.gPackages[i]).gInstances))), .t (.row 16 (GFunction.trs ((w.gPackages[i]).gFunctions)))]) (ds := [.t (.leaf (.string ((w.gPackages[i]).gName))), .t (.row 1 (strTrs ((w.gPackages[i]).gDeps))), .t (.row 5 (GTrait.trs ((w.gPackages[i]).gTraits))), .t (.row 3 (GDataType.trs ((w.gPackages[i]).gDataTypes))), .t (.row 12 (GInstance.trs ((w.gPackages[i]).gInstances))), .t (.row 16 (GFunction.trs ((w.gPackages[i]).gFunctions)))]) rfl rfl rfl rfl rfl rfl rfl sz126 (Nat.le_of_ble_eq_true rfl) rfl) ?_
    refine AL.nil ?_
    refine AWP.seq ?_
    refine AWP.region_lit ?_
    refine AL.cons rfl (AOp.fieldPtr (k := 2) (d := 0) (e := 5) rfl rfl rfl fo126_5) ?_
    refine AL.cons rfl (AOp.loadPtr1 rfl rfl rfl rfl sh124 rfl) ?_
    refine AL.fact (lk_lenN 20 rfl rfl (GFunction.trs_len _)) (fun hl4 => ?_)
    refine AL.cons rfl (AOp.lenN rfl rfl rfl rfl el124 (GFunction.trs_len _)) ?_
    refine AL.cons rfl (AOp.move (.inl rfl) rfl rfl) ?_
    refine AL.nil ?_
    refine AWP.block ?_
    refine AWP.loopJ (ι := Nat) (fun k => k ≤ (w.gPackages[i]).gFunctions.length ∧ (w.gPackages[i]).gFunctions.find? (fun x => decide (GFunction.gName x = s)) = ((w.gPackages[i]).gFunctions.drop k).find? (fun x => decide (GFunction.gName x = s))) (fun k => ⟨[(0, (GProgram.pv w)), (1, .t (.leaf (.string (s)))), (2, .ptr 0 0), (4, .ptr 1 0), (7, .t (.leaf (.int .i64 (((i : Nat) : Int))))), (8, .ptr 2 0), (12, .t (.row 6 (GPackage.trs (w.gPackages)))), (13, .t (.leaf (.int .i64 (((w.gPackages.length : Nat) : Int))))), (14, .t (.leaf (.int .i64 (((i : Nat) : Int))))), (20, .t (.row 16 (GFunction.trs ((w.gPackages[i]).gFunctions)))), (21, .t (.leaf (.int .i64 (((((w.gPackages[i]).gFunctions).length : Nat) : Int))))), (22, .t (.leaf (.int .i64 (((k : Nat) : Int)))))], ⟨[some ⟨31, [.t (.row 6 (GPackage.trs (w.gPackages)))]⟩, some ⟨105, [.t (.leaf (.string (⟨#[]⟩))), .nil, .nil, .nil, .t (.leaf (.int .i64 (0))), .t (.leaf (.string (⟨#[]⟩))), .nil, .t (.leaf (.int .i64 (0))), .t (.leaf (.string (⟨#[]⟩))), .t (.leaf (.string (⟨#[]⟩))), .t (.leaf (.int .i64 (0))), .t (.leaf (.int .i64 (0))), .t (.leaf (.string (⟨#[]⟩))), .nil, .nil, .nil]⟩, some ⟨126, [.t (.leaf (.string ((w.gPackages[i]).gName))), .t (.row 1 (strTrs ((w.gPackages[i]).gDeps))), .t (.row 5 (GTrait.trs ((w.gPackages[i]).gTraits))), .t (.row 3 (GDataType.trs ((w.gPackages[i]).gDataTypes))), .t (.row 12 (GInstance.trs ((w.gPackages[i]).gInstances))), .t (.row 16 (GFunction.trs ((w.gPackages[i]).gFunctions)))]⟩], []⟩⟩) (fun k => (w.gPackages[i]).gFunctions.length - k) 0 ?_ ?_ ?_
    · exact ⟨Nat.zero_le _, rfl⟩
    · skip
      exact Wk.mk (StLe.mk' ⟨⟨rfl, by (repeat' (first | exact PV.Le.refl _ | exact LeL.nil | exact PV.Le.nil _ | exact PV.Le.acc _ _ _ | apply LeL.cons | apply PV.Le.agg | apply PV.Le.tup)), rfl⟩, ⟨⟨rfl, by (repeat' (first | exact PV.Le.refl _ | exact LeL.nil | exact PV.Le.nil _ | exact PV.Le.acc _ _ _ | apply LeL.cons | apply PV.Le.agg | apply PV.Le.tup)), rfl⟩, ⟨⟨rfl, by (repeat' (first | exact PV.Le.refl _ | exact LeL.nil | exact PV.Le.nil _ | exact PV.Le.acc _ _ _ | apply LeL.cons | apply PV.Le.agg | apply PV.Le.tup)), rfl⟩, trivial⟩⟩⟩ rfl) (keeps_nil hC) ⟨⟨_, rfl, .refl _, rfl⟩, ⟨⟨_, rfl, .refl _, rfl⟩, ⟨⟨_, rfl, .refl _, rfl⟩, ⟨⟨_, rfl, .refl _, rfl⟩, ⟨⟨_, rfl, .refl _, rfl⟩, ⟨⟨_, rfl, .refl _, rfl⟩, ⟨⟨_, rfl, .refl _, rfl⟩, ⟨⟨_, rfl, .refl _, rfl⟩, ⟨⟨_, rfl, .refl _, rfl⟩, ⟨⟨_, rfl, .refl _, rfl⟩, ⟨⟨_, rfl, .refl _, rfl⟩, ⟨⟨_, rfl, by (repeat' (first | exact PV.Le.refl _ | exact LeL.nil | exact PV.Le.nil _ | exact PV.Le.acc _ _ _ | apply LeL.cons | apply PV.Le.agg | apply PV.Le.tup)), rfl⟩, trivial⟩⟩⟩⟩⟩⟩⟩⟩⟩⟩⟩⟩
    rintro k hJ5
    obtain ⟨hk1, hk2⟩ := hJ5
    refine AWP.seq ?_
    refine AWP.region_lit ?_
    refine AL.cons rfl (AOp.lss rfl rfl rfl rfl) ?_
    refine AL.nil ?_
    refine AWP.seq ?_
    refine AWP.cond rfl (fun h6 => ?_) (fun h6 => ?_)
    · skip
      have h6b := h6
      try simp only [Bool.and_eq_true, Bool.or_eq_true, Bool.and_eq_false_iff, Bool.or_eq_false_iff, decide_eq_true_eq, decide_eq_false_iff_not, Bool.not_eq_true', Bool.not_eq_false', Bool.not_eq_eq_eq_not, Bool.not_true, Bool.not_false, ge_iff_le, gt_iff_lt, Int.not_lt, Int.not_le] at h6b
      have h6n : k < ((w.gPackages[i]).gFunctions).length := by omega
      refine AWP.skip ?_
      refine AWP.seq ?_
      refine AWP.block ?_
      refine AWP.seq ?_
      refine AWP.region_lit ?_
      refine AL.cons rfl (AOp.index (k := k) rfl rfl rfl rfl rfl (GFunction.trs_cs h6n) el124) ?_
      refine AL.cons rfl (AOp.loadEptr (ds := [.leaf (.string ((((w.gPackages[i]).gFunctions)[k]).gName)), .row 1 (strTrs ((((w.gPackages[i]).gFunctions)[k]).gVars)), .row 4 (GBound.trs ((((w.gPackages[i]).gFunctions)[k]).gWhere)), .row 4 (GParam.trs ((((w.gPackages[i]).gFunctions)[k]).gParams)), .leaf (.int .i64 ((((w.gPackages[i]).gFunctions)[k]).gResult.gKind)), .leaf (.string ((((w.gPackages[i]).gFunctions)[k]).gResult.gName)), .row 3 (GType.trs ((((w.gPackages[i]).gFunctions)[k]).gResult.gArgs)), .leaf (.int .i64 ((((w.gPackages[i]).gFunctions)[k]).gBody.gKind)), .leaf (.string ((((w.gPackages[i]).gFunctions)[k]).gBody.gTrait)), .leaf (.string ((((w.gPackages[i]).gFunctions)[k]).gBody.gName)), .leaf (.int .i64 ((((w.gPackages[i]).gFunctions)[k]).gBody.gN)), .leaf (.int .i64 ((((w.gPackages[i]).gFunctions)[k]).gBody.gType.gKind)), .leaf (.string ((((w.gPackages[i]).gFunctions)[k]).gBody.gType.gName)), .row 3 (GType.trs ((((w.gPackages[i]).gFunctions)[k]).gBody.gType.gArgs)), .row 9 (GExpr.trs ((((w.gPackages[i]).gFunctions)[k]).gBody.gArgs)), .row 11 (GArm.trs ((((w.gPackages[i]).gFunctions)[k]).gBody.gArms))]) rfl rfl rfl sh105 rfl rfl) ?_
      refine AL.cons rfl (AOp.alloc rfl rfl zr105) ?_
      refine AL.cons rfl (AOp.storePtr (cs := [.t (.leaf (.string ((((w.gPackages[i]).gFunctions)[k]).gName))), .t (.row 1 (strTrs ((((w.gPackages[i]).gFunctions)[k]).gVars))), .t (.row 4 (GBound.trs ((((w.gPackages[i]).gFunctions)[k]).gWhere))), .t (.row 4 (GParam.trs ((((w.gPackages[i]).gFunctions)[k]).gParams))), .t (.leaf (.int .i64 ((((w.gPackages[i]).gFunctions)[k]).gResult.gKind))), .t (.leaf (.string ((((w.gPackages[i]).gFunctions)[k]).gResult.gName))), .t (.row 3 (GType.trs ((((w.gPackages[i]).gFunctions)[k]).gResult.gArgs))), .t (.leaf (.int .i64 ((((w.gPackages[i]).gFunctions)[k]).gBody.gKind))), .t (.leaf (.string ((((w.gPackages[i]).gFunctions)[k]).gBody.gTrait))), .t (.leaf (.string ((((w.gPackages[i]).gFunctions)[k]).gBody.gName))), .t (.leaf (.int .i64 ((((w.gPackages[i]).gFunctions)[k]).gBody.gN))), .t (.leaf (.int .i64 ((((w.gPackages[i]).gFunctions)[k]).gBody.gType.gKind))), .t (.leaf (.string ((((w.gPackages[i]).gFunctions)[k]).gBody.gType.gName))), .t (.row 3 (GType.trs ((((w.gPackages[i]).gFunctions)[k]).gBody.gType.gArgs))), .t (.row 9 (GExpr.trs ((((w.gPackages[i]).gFunctions)[k]).gBody.gArgs))), .t (.row 11 (GArm.trs ((((w.gPackages[i]).gFunctions)[k]).gBody.gArms)))]) (ds := [.t (.leaf (.string ((((w.gPackages[i]).gFunctions)[k]).gName))), .t (.row 1 (strTrs ((((w.gPackages[i]).gFunctions)[k]).gVars))), .t (.row 4 (GBound.trs ((((w.gPackages[i]).gFunctions)[k]).gWhere))), .t (.row 4 (GParam.trs ((((w.gPackages[i]).gFunctions)[k]).gParams))), .t (.leaf (.int .i64 ((((w.gPackages[i]).gFunctions)[k]).gResult.gKind))), .t (.leaf (.string ((((w.gPackages[i]).gFunctions)[k]).gResult.gName))), .t (.row 3 (GType.trs ((((w.gPackages[i]).gFunctions)[k]).gResult.gArgs))), .t (.leaf (.int .i64 ((((w.gPackages[i]).gFunctions)[k]).gBody.gKind))), .t (.leaf (.string ((((w.gPackages[i]).gFunctions)[k]).gBody.gTrait))), .t (.leaf (.string ((((w.gPackages[i]).gFunctions)[k]).gBody.gName))), .t (.leaf (.int .i64 ((((w.gPackages[i]).gFunctions)[k]).gBody.gN))), .t (.leaf (.int .i64 ((((w.gPackages[i]).gFunctions)[k]).gBody.gType.gKind))), .t (.leaf (.string ((((w.gPackages[i]).gFunctions)[k]).gBody.gType.gName))), .t (.row 3 (GType.trs ((((w.gPackages[i]).gFunctions)[k]).gBody.gType.gArgs))), .t (.row 9 (GExpr.trs ((((w.gPackages[i]).gFunctions)[k]).gBody.gArgs))), .t (.row 11 (GArm.trs ((((w.gPackages[i]).gFunctions)[k]).gBody.gArms)))]) rfl rfl rfl rfl rfl rfl rfl sz105 (Nat.le_of_ble_eq_true rfl) rfl) ?_
      refine AL.nil ?_
      refine AWP.seq ?_
      refine AWP.region_lit ?_
      refine AL.cons rfl (AOp.fieldPtr (k := 3) (d := 0) (e := 0) rfl rfl rfl fo105_0) ?_
      refine AL.cons rfl (AOp.loadPtr1 rfl rfl rfl rfl sh9 rfl) ?_
      refine AL.cons rfl (AOp.move (.inl rfl) rfl rfl) ?_
      refine AL.cons rfl (AOp.eqlS rfl rfl rfl rfl) ?_
      refine AL.nil ?_
      refine AWP.cond rfl (fun h7 => ?_) (fun h7 => ?_)
      · skip
        have h7b := h7
        try simp only [Bool.and_eq_true, Bool.or_eq_true, Bool.and_eq_false_iff, Bool.or_eq_false_iff, decide_eq_true_eq, decide_eq_false_iff_not, Bool.not_eq_true', Bool.not_eq_false', Bool.not_eq_eq_eq_not, Bool.not_true, Bool.not_false, ge_iff_le, gt_iff_lt, Int.not_lt, Int.not_le] at h7b
        refine AWP.seq ?_
        refine AWP.region_lit ?_
        refine AL.cons rfl (AOp.loadPtr (cs := [.t (.leaf (.string ((((w.gPackages[i]).gFunctions)[k]).gName))), .t (.row 1 (strTrs ((((w.gPackages[i]).gFunctions)[k]).gVars))), .t (.row 4 (GBound.trs ((((w.gPackages[i]).gFunctions)[k]).gWhere))), .t (.row 4 (GParam.trs ((((w.gPackages[i]).gFunctions)[k]).gParams))), .t (.leaf (.int .i64 ((((w.gPackages[i]).gFunctions)[k]).gResult.gKind))), .t (.leaf (.string ((((w.gPackages[i]).gFunctions)[k]).gResult.gName))), .t (.row 3 (GType.trs ((((w.gPackages[i]).gFunctions)[k]).gResult.gArgs))), .t (.leaf (.int .i64 ((((w.gPackages[i]).gFunctions)[k]).gBody.gKind))), .t (.leaf (.string ((((w.gPackages[i]).gFunctions)[k]).gBody.gTrait))), .t (.leaf (.string ((((w.gPackages[i]).gFunctions)[k]).gBody.gName))), .t (.leaf (.int .i64 ((((w.gPackages[i]).gFunctions)[k]).gBody.gN))), .t (.leaf (.int .i64 ((((w.gPackages[i]).gFunctions)[k]).gBody.gType.gKind))), .t (.leaf (.string ((((w.gPackages[i]).gFunctions)[k]).gBody.gType.gName))), .t (.row 3 (GType.trs ((((w.gPackages[i]).gFunctions)[k]).gBody.gType.gArgs))), .t (.row 9 (GExpr.trs ((((w.gPackages[i]).gFunctions)[k]).gBody.gArgs))), .t (.row 11 (GArm.trs ((((w.gPackages[i]).gFunctions)[k]).gBody.gArms)))]) rfl rfl rfl rfl sh105 rfl rfl) ?_
        refine AL.cons rfl (AOp.move (.inl rfl) rfl rfl) ?_
        refine AL.cons rfl (AOp.storePtr (cs := [.t (.leaf (.string ((((w.gPackages[i]).gFunctions)[k]).gName))), .t (.row 1 (strTrs ((((w.gPackages[i]).gFunctions)[k]).gVars))), .t (.row 4 (GBound.trs ((((w.gPackages[i]).gFunctions)[k]).gWhere))), .t (.row 4 (GParam.trs ((((w.gPackages[i]).gFunctions)[k]).gParams))), .t (.leaf (.int .i64 ((((w.gPackages[i]).gFunctions)[k]).gResult.gKind))), .t (.leaf (.string ((((w.gPackages[i]).gFunctions)[k]).gResult.gName))), .t (.row 3 (GType.trs ((((w.gPackages[i]).gFunctions)[k]).gResult.gArgs))), .t (.leaf (.int .i64 ((((w.gPackages[i]).gFunctions)[k]).gBody.gKind))), .t (.leaf (.string ((((w.gPackages[i]).gFunctions)[k]).gBody.gTrait))), .t (.leaf (.string ((((w.gPackages[i]).gFunctions)[k]).gBody.gName))), .t (.leaf (.int .i64 ((((w.gPackages[i]).gFunctions)[k]).gBody.gN))), .t (.leaf (.int .i64 ((((w.gPackages[i]).gFunctions)[k]).gBody.gType.gKind))), .t (.leaf (.string ((((w.gPackages[i]).gFunctions)[k]).gBody.gType.gName))), .t (.row 3 (GType.trs ((((w.gPackages[i]).gFunctions)[k]).gBody.gType.gArgs))), .t (.row 9 (GExpr.trs ((((w.gPackages[i]).gFunctions)[k]).gBody.gArgs))), .t (.row 11 (GArm.trs ((((w.gPackages[i]).gFunctions)[k]).gBody.gArms)))]) (ds := [.t (.leaf (.string ((((w.gPackages[i]).gFunctions)[k]).gName))), .t (.row 1 (strTrs ((((w.gPackages[i]).gFunctions)[k]).gVars))), .t (.row 4 (GBound.trs ((((w.gPackages[i]).gFunctions)[k]).gWhere))), .t (.row 4 (GParam.trs ((((w.gPackages[i]).gFunctions)[k]).gParams))), .t (.leaf (.int .i64 ((((w.gPackages[i]).gFunctions)[k]).gResult.gKind))), .t (.leaf (.string ((((w.gPackages[i]).gFunctions)[k]).gResult.gName))), .t (.row 3 (GType.trs ((((w.gPackages[i]).gFunctions)[k]).gResult.gArgs))), .t (.leaf (.int .i64 ((((w.gPackages[i]).gFunctions)[k]).gBody.gKind))), .t (.leaf (.string ((((w.gPackages[i]).gFunctions)[k]).gBody.gTrait))), .t (.leaf (.string ((((w.gPackages[i]).gFunctions)[k]).gBody.gName))), .t (.leaf (.int .i64 ((((w.gPackages[i]).gFunctions)[k]).gBody.gN))), .t (.leaf (.int .i64 ((((w.gPackages[i]).gFunctions)[k]).gBody.gType.gKind))), .t (.leaf (.string ((((w.gPackages[i]).gFunctions)[k]).gBody.gType.gName))), .t (.row 3 (GType.trs ((((w.gPackages[i]).gFunctions)[k]).gBody.gType.gArgs))), .t (.row 9 (GExpr.trs ((((w.gPackages[i]).gFunctions)[k]).gBody.gArgs))), .t (.row 11 (GArm.trs ((((w.gPackages[i]).gFunctions)[k]).gBody.gArms)))]) rfl rfl rfl rfl rfl rfl rfl sz105 (Nat.le_of_ble_eq_true rfl) rfl) ?_
        refine AL.cons rfl (AOp.move (.inr rfl) rfl rfl) ?_
        refine AL.cons rfl (AOp.move (.inr rfl) rfl rfl) ?_
        refine AL.nil ?_
        refine AWP.ret ?_
        exact Ends.mk (ps := [_, _, _]) (.inr rfl) ⟨⟨_, _, _, rfl, rfl, sh105, rfl, rfl⟩, rfl, rfl, trivial⟩ rfl (StLe.mk' (st' := ⟨[], []⟩) trivial rfl) (keeps_nil hC) (q := (.tup [(GFunction.pv (((w.gPackages[i]).gFunctions)[k])), .t (.leaf (.int .i64 (((i : Nat) : Int)))), .t (.leaf (.bool (true)))] : PV)) (by (repeat' (first | exact PV.Le.refl _ | exact LeL.nil | exact PV.Le.nil _ | exact PV.Le.acc _ _ _ | apply LeL.cons | apply PV.Le.agg | apply PV.Le.tup))) rfl ⟨by exact optFunction_some (findP_hit (by omega) (by omega) hi2 hk2 (by assumption)), rfl⟩
      · skip
        have h7b := h7
        try simp only [Bool.and_eq_true, Bool.or_eq_true, Bool.and_eq_false_iff, Bool.or_eq_false_iff, decide_eq_true_eq, decide_eq_false_iff_not, Bool.not_eq_true', Bool.not_eq_false', Bool.not_eq_eq_eq_not, Bool.not_true, Bool.not_false, ge_iff_le, gt_iff_lt, Int.not_lt, Int.not_le] at h7b
        refine AWP.skip ?_
        refine AWP.region_lit ?_
        refine AL.cons rfl (AOp.addI rfl rfl rfl rfl (c := ((k + 1 : Nat) : Int)) (by omega) (by omega)) ?_
        refine AL.cons rfl (AOp.move (.inl rfl) rfl rfl) ?_
        refine AL.nil ?_
        refine ⟨k + 1, ?_, ?_, ?_⟩
        · exact ⟨by omega, findP_next (by omega) hk2 (by assumption)⟩
        · skip
          exact Wk.mk (StLe.mk' ⟨⟨rfl, by (repeat' (first | exact PV.Le.refl _ | exact LeL.nil | exact PV.Le.nil _ | exact PV.Le.acc _ _ _ | apply LeL.cons | apply PV.Le.agg | apply PV.Le.tup)), rfl⟩, ⟨⟨rfl, by (repeat' (first | exact PV.Le.refl _ | exact LeL.nil | exact PV.Le.nil _ | exact PV.Le.acc _ _ _ | apply LeL.cons | apply PV.Le.agg | apply PV.Le.tup)), rfl⟩, ⟨⟨rfl, by (repeat' (first | exact PV.Le.refl _ | exact LeL.nil | exact PV.Le.nil _ | exact PV.Le.acc _ _ _ | apply LeL.cons | apply PV.Le.agg | apply PV.Le.tup)), rfl⟩, trivial⟩⟩⟩ rfl) (keeps_nil hC) ⟨⟨_, rfl, .refl _, rfl⟩, ⟨⟨_, rfl, .refl _, rfl⟩, ⟨⟨_, rfl, .refl _, rfl⟩, ⟨⟨_, rfl, .refl _, rfl⟩, ⟨⟨_, rfl, .refl _, rfl⟩, ⟨⟨_, rfl, .refl _, rfl⟩, ⟨⟨_, rfl, .refl _, rfl⟩, ⟨⟨_, rfl, .refl _, rfl⟩, ⟨⟨_, rfl, .refl _, rfl⟩, ⟨⟨_, rfl, .refl _, rfl⟩, ⟨⟨_, rfl, .refl _, rfl⟩, ⟨⟨_, rfl, by (repeat' (first | exact PV.Le.refl _ | exact LeL.nil | exact PV.Le.nil _ | exact PV.Le.acc _ _ _ | apply LeL.cons | apply PV.Le.agg | apply PV.Le.tup)), rfl⟩, trivial⟩⟩⟩⟩⟩⟩⟩⟩⟩⟩⟩⟩
        · omega
    · skip
      have h6b := h6
      try simp only [Bool.and_eq_true, Bool.or_eq_true, Bool.and_eq_false_iff, Bool.or_eq_false_iff, decide_eq_true_eq, decide_eq_false_iff_not, Bool.not_eq_true', Bool.not_eq_false', Bool.not_eq_eq_eq_not, Bool.not_true, Bool.not_false, ge_iff_le, gt_iff_lt, Int.not_lt, Int.not_le] at h6b
      have h6n : k ≥ ((w.gPackages[i]).gFunctions).length := by omega
      refine AWP.exit ?_
      refine AWP.region_lit ?_
      refine AL.cons rfl (AOp.addI rfl rfl rfl rfl (c := ((i + 1 : Nat) : Int)) (by omega) (by omega)) ?_
      refine AL.cons rfl (AOp.move (.inl rfl) rfl rfl) ?_
      refine AL.nil ?_
      refine ⟨i + 1, ?_, ?_, ?_⟩
      · exact ⟨by omega, findP_miss (by omega) hi2 hk2 (by omega)⟩
      · skip
        exact Wk.mk (StLe.mk' ⟨⟨rfl, by (repeat' (first | exact PV.Le.refl _ | exact LeL.nil | exact PV.Le.nil _ | exact PV.Le.acc _ _ _ | apply LeL.cons | apply PV.Le.agg | apply PV.Le.tup)), rfl⟩, ⟨⟨rfl, by (repeat' (first | exact PV.Le.refl _ | exact LeL.nil | exact PV.Le.nil _ | exact PV.Le.acc _ _ _ | apply LeL.cons | apply PV.Le.agg | apply PV.Le.tup)), rfl⟩, trivial⟩⟩ rfl) (keeps_nil hC) ⟨⟨_, rfl, .refl _, rfl⟩, ⟨⟨_, rfl, .refl _, rfl⟩, ⟨⟨_, rfl, .refl _, rfl⟩, ⟨⟨_, rfl, .refl _, rfl⟩, ⟨⟨_, rfl, .refl _, rfl⟩, ⟨⟨_, rfl, .refl _, rfl⟩, ⟨⟨_, rfl, by (repeat' (first | exact PV.Le.refl _ | exact LeL.nil | exact PV.Le.nil _ | exact PV.Le.acc _ _ _ | apply LeL.cons | apply PV.Le.agg | apply PV.Le.tup)), rfl⟩, trivial⟩⟩⟩⟩⟩⟩⟩
      · omega
  · skip
    have h3b := h3
    try simp only [Bool.and_eq_true, Bool.or_eq_true, Bool.and_eq_false_iff, Bool.or_eq_false_iff, decide_eq_true_eq, decide_eq_false_iff_not, Bool.not_eq_true', Bool.not_eq_false', Bool.not_eq_eq_eq_not, Bool.not_true, Bool.not_false, ge_iff_le, gt_iff_lt, Int.not_lt, Int.not_le] at h3b
    have h3n : i ≥ w.gPackages.length := by omega
    refine AWP.exit ?_
    refine AWP.seq ?_
    refine AWP.region_lit ?_
    refine AL.cons rfl (AOp.build rfl rfl zr105 pl105 rfl rfl) ?_
    refine AL.cons rfl (AOp.storePtr (cs := [.t (.leaf (.string (⟨#[]⟩))), .nil, .nil, .nil, .t (.leaf (.int .i64 (0))), .t (.leaf (.string (⟨#[]⟩))), .nil, .t (.leaf (.int .i64 (0))), .t (.leaf (.string (⟨#[]⟩))), .t (.leaf (.string (⟨#[]⟩))), .t (.leaf (.int .i64 (0))), .t (.leaf (.int .i64 (0))), .t (.leaf (.string (⟨#[]⟩))), .nil, .nil, .nil]) (ds := [.t (.leaf (.string (⟨#[]⟩))), .nil, .nil, .nil, .t (.leaf (.int .i64 (0))), .t (.leaf (.string (⟨#[]⟩))), .nil, .t (.leaf (.int .i64 (0))), .t (.leaf (.string (⟨#[]⟩))), .t (.leaf (.string (⟨#[]⟩))), .t (.leaf (.int .i64 (0))), .t (.leaf (.int .i64 (0))), .t (.leaf (.string (⟨#[]⟩))), .nil, .nil, .nil]) rfl rfl rfl rfl rfl rfl rfl sz105 (Nat.le_of_ble_eq_true rfl) rfl) ?_
    refine AL.cons rfl (AOp.move (.inr rfl) rfl rfl) ?_
    refine AL.cons rfl (AOp.move (.inr rfl) rfl rfl) ?_
    refine AL.nil ?_
    refine AWP.ret ?_
    exact Ends.mk (ps := [_, _, _]) (.inr rfl) ⟨⟨_, _, _, rfl, rfl, sh105, rfl, rfl⟩, rfl, rfl, trivial⟩ rfl (StLe.mk' (st' := ⟨[], []⟩) trivial rfl) (keeps_nil hC) (q := PV.tup [GFunction.pv GFunction.zero, .t (.leaf (.int .i64 (0))), .t (.leaf (.bool (false)))]) (by (repeat' (first | exact PV.Le.refl _ | exact LeL.nil | exact PV.Le.nil _ | exact PV.Le.acc _ _ _ | apply LeL.cons | apply PV.Le.agg | apply PV.Le.tup))) rfl ⟨by exact optFunction_none (findP_end hi2 (by omega)), rfl⟩

set_option maxRecDepth 100000 in
set_option maxHeartbeats 4000000 in
theorem function_spec (w : GProgram) (s : ByteArray) : AFun Tryz.prog 125 [(GProgram.pv w), .t (.leaf (.string (s)))] (.tup [(GFunction.pv (oFunction (w.functionAt s))), .t (.leaf (.int .i64 (oInt (w.functionAt s)))), .t (.leaf (.bool ((w.functionAt s).isSome)))]) := by
  refine ACalls.intro Tryz.func125 rfl (by first | decide | (simp; done) | (simp; decide)) ?_
  intro C hC
  refine AWP.seq ?_
  refine AWP.region_lit ?_
  refine AL.cons rfl (AOp.box (cs := [.t (.row 6 (GPackage.trs (w.gPackages)))]) rfl rfl rfl rfl rfl) ?_
  refine AL.cons rfl (AOp.alloc rfl rfl zr105) ?_
  refine AL.cons rfl (AOp.move (.inr rfl) rfl rfl) ?_
  refine AL.cons rfl (AOp.move (.inr rfl) rfl rfl) ?_
  refine AL.nil ?_
  refine AWP.seq ?_
  refine AWP.seq ?_
  refine AWP.region_lit ?_
  refine AL.cons rfl (AOp.move (.inr rfl) rfl rfl) ?_
  refine AL.nil ?_
  refine AWP.block ?_
  refine AWP.loopJ (ι := Nat) (fun i => i ≤ w.gPackages.length ∧ findP GFunction.gName GPackage.gFunctions s 0 w.gPackages = findP GFunction.gName GPackage.gFunctions s i (w.gPackages.drop i)) (fun i => ⟨[(0, (GProgram.pv w)), (1, .t (.leaf (.string (s)))), (2, .ptr 0 0), (4, .ptr 1 0), (7, .t (.leaf (.int .i64 (((i : Nat) : Int)))))], ⟨[some ⟨31, [.t (.row 6 (GPackage.trs (w.gPackages)))]⟩, some ⟨105, [.t (.leaf (.string (⟨#[]⟩))), .nil, .nil, .nil, .t (.leaf (.int .i64 (0))), .t (.leaf (.string (⟨#[]⟩))), .nil, .t (.leaf (.int .i64 (0))), .t (.leaf (.string (⟨#[]⟩))), .t (.leaf (.string (⟨#[]⟩))), .t (.leaf (.int .i64 (0))), .t (.leaf (.int .i64 (0))), .t (.leaf (.string (⟨#[]⟩))), .nil, .nil, .nil]⟩], []⟩⟩) (fun i => w.gPackages.length - i) 0 ?_ ?_ ?_
  · exact ⟨Nat.zero_le _, rfl⟩
  · skip
    exact Wk.mk (StLe.mk' ⟨⟨rfl, by (repeat' (first | exact PV.Le.refl _ | exact LeL.nil | exact PV.Le.nil _ | exact PV.Le.acc _ _ _ | apply LeL.cons | apply PV.Le.agg | apply PV.Le.tup)), rfl⟩, ⟨⟨rfl, by (repeat' (first | exact PV.Le.refl _ | exact LeL.nil | exact PV.Le.nil _ | exact PV.Le.acc _ _ _ | apply LeL.cons | apply PV.Le.agg | apply PV.Le.tup)), rfl⟩, trivial⟩⟩ rfl) (keeps_nil hC) ⟨⟨_, rfl, .refl _, rfl⟩, ⟨⟨_, rfl, .refl _, rfl⟩, ⟨⟨_, rfl, .refl _, rfl⟩, ⟨⟨_, rfl, .refl _, rfl⟩, ⟨⟨_, rfl, by (repeat' (first | exact PV.Le.refl _ | exact LeL.nil | exact PV.Le.nil _ | exact PV.Le.acc _ _ _ | apply LeL.cons | apply PV.Le.agg | apply PV.Le.tup)), rfl⟩, trivial⟩⟩⟩⟩⟩
  rintro i hJ1
  obtain ⟨hi1, hi2⟩ := hJ1
  refine AWP.seq ?_
  refine AWP.seq ?_
  refine AWP.region_lit ?_
  refine AL.cons rfl (AOp.move (.inl rfl) rfl rfl) ?_
  refine AL.cons rfl (AOp.fieldPtr (k := 0) (d := 0) (e := 0) rfl rfl rfl fo31_0) ?_
  refine AL.cons rfl (AOp.loadPtr1 rfl rfl rfl rfl sh29 rfl) ?_
  refine AL.fact (lk_lenN 11 rfl rfl (GPackage.trs_len _)) (fun hl2 => ?_)
  refine AL.cons rfl (AOp.lenN rfl rfl rfl rfl el29 (GPackage.trs_len _)) ?_
  refine AL.cons rfl (AOp.lss rfl rfl rfl rfl) ?_
  refine AL.nil ?_
  refine AWP.cond rfl (fun h3 => ?_) (fun h3 => ?_)
  · skip
    have h3b := h3
    try simp only [Bool.and_eq_true, Bool.or_eq_true, Bool.and_eq_false_iff, Bool.or_eq_false_iff, decide_eq_true_eq, decide_eq_false_iff_not, Bool.not_eq_true', Bool.not_eq_false', Bool.not_eq_eq_eq_not, Bool.not_true, Bool.not_false, ge_iff_le, gt_iff_lt, Int.not_lt, Int.not_le] at h3b
    have h3n : i < w.gPackages.length := by omega
    refine AWP.skip ?_
    refine AWP.seq ?_
    refine AWP.block ?_
    refine AWP.seq ?_
    refine AWP.region_lit ?_
    refine AL.cons rfl (AOp.move (.inr rfl) rfl rfl) ?_
    refine AL.nil ?_
    refine AWP.block ?_
    refine AWP.loopJ (ι := Nat) (fun k => k ≤ (w.gPackages[i]).gFunctions.length ∧ (w.gPackages[i]).gFunctions.find? (fun x => decide (GFunction.gName x = s)) = ((w.gPackages[i]).gFunctions.drop k).find? (fun x => decide (GFunction.gName x = s))) (fun k => ⟨[(0, (GProgram.pv w)), (1, .t (.leaf (.string (s)))), (2, .ptr 0 0), (4, .ptr 1 0), (7, .t (.leaf (.int .i64 (((i : Nat) : Int))))), (8, .t (.leaf (.int .i64 (((k : Nat) : Int)))))], ⟨[some ⟨31, [.t (.row 6 (GPackage.trs (w.gPackages)))]⟩, some ⟨105, [.t (.leaf (.string (⟨#[]⟩))), .nil, .nil, .nil, .t (.leaf (.int .i64 (0))), .t (.leaf (.string (⟨#[]⟩))), .nil, .t (.leaf (.int .i64 (0))), .t (.leaf (.string (⟨#[]⟩))), .t (.leaf (.string (⟨#[]⟩))), .t (.leaf (.int .i64 (0))), .t (.leaf (.int .i64 (0))), .t (.leaf (.string (⟨#[]⟩))), .nil, .nil, .nil]⟩], []⟩⟩) (fun k => (w.gPackages[i]).gFunctions.length - k) 0 ?_ ?_ ?_
    · exact ⟨Nat.zero_le _, rfl⟩
    · skip
      exact Wk.mk (StLe.mk' ⟨⟨rfl, by (repeat' (first | exact PV.Le.refl _ | exact LeL.nil | exact PV.Le.nil _ | exact PV.Le.acc _ _ _ | apply LeL.cons | apply PV.Le.agg | apply PV.Le.tup)), rfl⟩, ⟨⟨rfl, by (repeat' (first | exact PV.Le.refl _ | exact LeL.nil | exact PV.Le.nil _ | exact PV.Le.acc _ _ _ | apply LeL.cons | apply PV.Le.agg | apply PV.Le.tup)), rfl⟩, trivial⟩⟩ rfl) (keeps_nil hC) ⟨⟨_, rfl, .refl _, rfl⟩, ⟨⟨_, rfl, .refl _, rfl⟩, ⟨⟨_, rfl, .refl _, rfl⟩, ⟨⟨_, rfl, .refl _, rfl⟩, ⟨⟨_, rfl, .refl _, rfl⟩, ⟨⟨_, rfl, by (repeat' (first | exact PV.Le.refl _ | exact LeL.nil | exact PV.Le.nil _ | exact PV.Le.acc _ _ _ | apply LeL.cons | apply PV.Le.agg | apply PV.Le.tup)), rfl⟩, trivial⟩⟩⟩⟩⟩⟩
    rintro k hJ4
    obtain ⟨hk1, hk2⟩ := hJ4
    refine AWP.seq ?_
    refine AWP.seq ?_
    refine AWP.region_lit ?_
    refine AL.cons rfl (AOp.move (.inl rfl) rfl rfl) ?_
    refine AL.cons rfl (AOp.fieldPtr (k := 0) (d := 0) (e := 0) rfl rfl rfl fo31_0) ?_
    refine AL.cons rfl (AOp.loadPtr1 rfl rfl rfl rfl sh29 rfl) ?_
    refine AL.cons rfl (AOp.move (.inl rfl) rfl rfl) ?_
    refine AL.cons rfl (AOp.index (k := i) rfl rfl rfl rfl rfl (GPackage.trs_cs h3n) el29) ?_
    refine AL.cons rfl (AOp.fieldEptr (cs := (GPackage.cs (w.gPackages[i]))) (e := 5) rfl rfl rfl fo126_5) ?_
    refine AL.cons rfl (AOp.loadEptr1 (d := .row 16 (GFunction.trs ((w.gPackages[i]).gFunctions))) rfl rfl rfl sh124 rfl) ?_
    refine AL.fact (lk_lenN 22 rfl rfl (GFunction.trs_len _)) (fun hl5 => ?_)
    refine AL.cons rfl (AOp.lenN rfl rfl rfl rfl el124 (GFunction.trs_len _)) ?_
    refine AL.cons rfl (AOp.lss rfl rfl rfl rfl) ?_
    refine AL.nil ?_
    refine AWP.cond rfl (fun h6 => ?_) (fun h6 => ?_)
    · skip
      have h6b := h6
      try simp only [Bool.and_eq_true, Bool.or_eq_true, Bool.and_eq_false_iff, Bool.or_eq_false_iff, decide_eq_true_eq, decide_eq_false_iff_not, Bool.not_eq_true', Bool.not_eq_false', Bool.not_eq_eq_eq_not, Bool.not_true, Bool.not_false, ge_iff_le, gt_iff_lt, Int.not_lt, Int.not_le] at h6b
      have h6n : k < ((w.gPackages[i]).gFunctions).length := by omega
      refine AWP.skip ?_
      refine AWP.seq ?_
      refine AWP.block ?_
      refine AWP.seq ?_
      refine AWP.region_lit ?_
      refine AL.cons rfl (AOp.fieldPtr (k := 0) (d := 0) (e := 0) rfl rfl rfl fo31_0) ?_
      refine AL.cons rfl (AOp.loadPtr1 rfl rfl rfl rfl sh29 rfl) ?_
      refine AL.cons rfl (AOp.move (.inl rfl) rfl rfl) ?_
      refine AL.cons rfl (AOp.index (k := i) rfl rfl rfl rfl rfl (GPackage.trs_cs h3n) el29) ?_
      refine AL.cons rfl (AOp.fieldEptr (cs := (GPackage.cs (w.gPackages[i]))) (e := 5) rfl rfl rfl fo126_5) ?_
      refine AL.cons rfl (AOp.loadEptr1 (d := .row 16 (GFunction.trs ((w.gPackages[i]).gFunctions))) rfl rfl rfl sh124 rfl) ?_
      refine AL.cons rfl (AOp.move (.inl rfl) rfl rfl) ?_
      refine AL.cons rfl (AOp.index (k := k) rfl rfl rfl rfl rfl (GFunction.trs_cs h6n) el124) ?_
      refine AL.cons rfl (AOp.fieldEptr (cs := (GFunction.cs (((w.gPackages[i]).gFunctions)[k]))) (e := 0) rfl rfl rfl fo105_0) ?_
      refine AL.cons rfl (AOp.loadEptr1 (d := .leaf (.string ((((w.gPackages[i]).gFunctions)[k]).gName))) rfl rfl rfl sh9 rfl) ?_
      refine AL.cons rfl (AOp.move (.inl rfl) rfl rfl) ?_
      refine AL.cons rfl (AOp.eqlS rfl rfl rfl rfl) ?_
      refine AL.nil ?_
      refine AWP.cond rfl (fun h7 => ?_) (fun h7 => ?_)
      · skip
        have h7b := h7
        try simp only [Bool.and_eq_true, Bool.or_eq_true, Bool.and_eq_false_iff, Bool.or_eq_false_iff, decide_eq_true_eq, decide_eq_false_iff_not, Bool.not_eq_true', Bool.not_eq_false', Bool.not_eq_eq_eq_not, Bool.not_true, Bool.not_false, ge_iff_le, gt_iff_lt, Int.not_lt, Int.not_le] at h7b
        refine AWP.seq ?_
        refine AWP.region_lit ?_
        refine AL.cons rfl (AOp.fieldPtr (k := 0) (d := 0) (e := 0) rfl rfl rfl fo31_0) ?_
        refine AL.cons rfl (AOp.loadPtr1 rfl rfl rfl rfl sh29 rfl) ?_
        refine AL.cons rfl (AOp.move (.inl rfl) rfl rfl) ?_
        refine AL.cons rfl (AOp.index (k := i) rfl rfl rfl rfl rfl (GPackage.trs_cs h3n) el29) ?_
        refine AL.cons rfl (AOp.fieldEptr (cs := (GPackage.cs (w.gPackages[i]))) (e := 5) rfl rfl rfl fo126_5) ?_
        refine AL.cons rfl (AOp.loadEptr1 (d := .row 16 (GFunction.trs ((w.gPackages[i]).gFunctions))) rfl rfl rfl sh124 rfl) ?_
        refine AL.cons rfl (AOp.move (.inl rfl) rfl rfl) ?_
        refine AL.cons rfl (AOp.index (k := k) rfl rfl rfl rfl rfl (GFunction.trs_cs h6n) el124) ?_
        refine AL.cons rfl (AOp.loadEptr (ds := [.leaf (.string ((((w.gPackages[i]).gFunctions)[k]).gName)), .row 1 (strTrs ((((w.gPackages[i]).gFunctions)[k]).gVars)), .row 4 (GBound.trs ((((w.gPackages[i]).gFunctions)[k]).gWhere)), .row 4 (GParam.trs ((((w.gPackages[i]).gFunctions)[k]).gParams)), .leaf (.int .i64 ((((w.gPackages[i]).gFunctions)[k]).gResult.gKind)), .leaf (.string ((((w.gPackages[i]).gFunctions)[k]).gResult.gName)), .row 3 (GType.trs ((((w.gPackages[i]).gFunctions)[k]).gResult.gArgs)), .leaf (.int .i64 ((((w.gPackages[i]).gFunctions)[k]).gBody.gKind)), .leaf (.string ((((w.gPackages[i]).gFunctions)[k]).gBody.gTrait)), .leaf (.string ((((w.gPackages[i]).gFunctions)[k]).gBody.gName)), .leaf (.int .i64 ((((w.gPackages[i]).gFunctions)[k]).gBody.gN)), .leaf (.int .i64 ((((w.gPackages[i]).gFunctions)[k]).gBody.gType.gKind)), .leaf (.string ((((w.gPackages[i]).gFunctions)[k]).gBody.gType.gName)), .row 3 (GType.trs ((((w.gPackages[i]).gFunctions)[k]).gBody.gType.gArgs)), .row 9 (GExpr.trs ((((w.gPackages[i]).gFunctions)[k]).gBody.gArgs)), .row 11 (GArm.trs ((((w.gPackages[i]).gFunctions)[k]).gBody.gArms))]) rfl rfl rfl sh105 rfl rfl) ?_
        refine AL.cons rfl (AOp.move (.inl rfl) rfl rfl) ?_
        refine AL.cons rfl (AOp.storePtr (cs := [.t (.leaf (.string ((((w.gPackages[i]).gFunctions)[k]).gName))), .t (.row 1 (strTrs ((((w.gPackages[i]).gFunctions)[k]).gVars))), .t (.row 4 (GBound.trs ((((w.gPackages[i]).gFunctions)[k]).gWhere))), .t (.row 4 (GParam.trs ((((w.gPackages[i]).gFunctions)[k]).gParams))), .t (.leaf (.int .i64 ((((w.gPackages[i]).gFunctions)[k]).gResult.gKind))), .t (.leaf (.string ((((w.gPackages[i]).gFunctions)[k]).gResult.gName))), .t (.row 3 (GType.trs ((((w.gPackages[i]).gFunctions)[k]).gResult.gArgs))), .t (.leaf (.int .i64 ((((w.gPackages[i]).gFunctions)[k]).gBody.gKind))), .t (.leaf (.string ((((w.gPackages[i]).gFunctions)[k]).gBody.gTrait))), .t (.leaf (.string ((((w.gPackages[i]).gFunctions)[k]).gBody.gName))), .t (.leaf (.int .i64 ((((w.gPackages[i]).gFunctions)[k]).gBody.gN))), .t (.leaf (.int .i64 ((((w.gPackages[i]).gFunctions)[k]).gBody.gType.gKind))), .t (.leaf (.string ((((w.gPackages[i]).gFunctions)[k]).gBody.gType.gName))), .t (.row 3 (GType.trs ((((w.gPackages[i]).gFunctions)[k]).gBody.gType.gArgs))), .t (.row 9 (GExpr.trs ((((w.gPackages[i]).gFunctions)[k]).gBody.gArgs))), .t (.row 11 (GArm.trs ((((w.gPackages[i]).gFunctions)[k]).gBody.gArms)))]) (ds := [.t (.leaf (.string ((((w.gPackages[i]).gFunctions)[k]).gName))), .t (.row 1 (strTrs ((((w.gPackages[i]).gFunctions)[k]).gVars))), .t (.row 4 (GBound.trs ((((w.gPackages[i]).gFunctions)[k]).gWhere))), .t (.row 4 (GParam.trs ((((w.gPackages[i]).gFunctions)[k]).gParams))), .t (.leaf (.int .i64 ((((w.gPackages[i]).gFunctions)[k]).gResult.gKind))), .t (.leaf (.string ((((w.gPackages[i]).gFunctions)[k]).gResult.gName))), .t (.row 3 (GType.trs ((((w.gPackages[i]).gFunctions)[k]).gResult.gArgs))), .t (.leaf (.int .i64 ((((w.gPackages[i]).gFunctions)[k]).gBody.gKind))), .t (.leaf (.string ((((w.gPackages[i]).gFunctions)[k]).gBody.gTrait))), .t (.leaf (.string ((((w.gPackages[i]).gFunctions)[k]).gBody.gName))), .t (.leaf (.int .i64 ((((w.gPackages[i]).gFunctions)[k]).gBody.gN))), .t (.leaf (.int .i64 ((((w.gPackages[i]).gFunctions)[k]).gBody.gType.gKind))), .t (.leaf (.string ((((w.gPackages[i]).gFunctions)[k]).gBody.gType.gName))), .t (.row 3 (GType.trs ((((w.gPackages[i]).gFunctions)[k]).gBody.gType.gArgs))), .t (.row 9 (GExpr.trs ((((w.gPackages[i]).gFunctions)[k]).gBody.gArgs))), .t (.row 11 (GArm.trs ((((w.gPackages[i]).gFunctions)[k]).gBody.gArms)))]) rfl rfl rfl rfl rfl rfl rfl sz105 (Nat.le_of_ble_eq_true rfl) rfl) ?_
        refine AL.cons rfl (AOp.move (.inr rfl) rfl rfl) ?_
        refine AL.cons rfl (AOp.move (.inr rfl) rfl rfl) ?_
        refine AL.nil ?_
        refine AWP.ret ?_
        exact Ends.mk (ps := [_, _, _]) (.inr rfl) ⟨⟨_, _, _, rfl, rfl, sh105, rfl, rfl⟩, rfl, rfl, trivial⟩ rfl (StLe.mk' (st' := ⟨[], []⟩) trivial rfl) (keeps_nil hC) (q := (.tup [(GFunction.pv (((w.gPackages[i]).gFunctions)[k])), .t (.leaf (.int .i64 (((i : Nat) : Int)))), .t (.leaf (.bool (true)))] : PV)) (by (repeat' (first | exact PV.Le.refl _ | exact LeL.nil | exact PV.Le.nil _ | exact PV.Le.acc _ _ _ | apply LeL.cons | apply PV.Le.agg | apply PV.Le.tup))) rfl ⟨by exact optFunction_some (findP_hit (by omega) (by omega) hi2 hk2 (by assumption)), rfl⟩
      · skip
        have h7b := h7
        try simp only [Bool.and_eq_true, Bool.or_eq_true, Bool.and_eq_false_iff, Bool.or_eq_false_iff, decide_eq_true_eq, decide_eq_false_iff_not, Bool.not_eq_true', Bool.not_eq_false', Bool.not_eq_eq_eq_not, Bool.not_true, Bool.not_false, ge_iff_le, gt_iff_lt, Int.not_lt, Int.not_le] at h7b
        refine AWP.skip ?_
        refine AWP.region_lit ?_
        refine AL.cons rfl (AOp.move (.inl rfl) rfl rfl) ?_
        refine AL.cons rfl (AOp.addI rfl rfl rfl rfl (c := ((k + 1 : Nat) : Int)) (by omega) (by omega)) ?_
        refine AL.cons rfl (AOp.move (.inr rfl) rfl rfl) ?_
        refine AL.nil ?_
        refine ⟨k + 1, ?_, ?_, ?_⟩
        · exact ⟨by omega, findP_next (by omega) hk2 (by assumption)⟩
        · skip
          exact Wk.mk (StLe.mk' ⟨⟨rfl, by (repeat' (first | exact PV.Le.refl _ | exact LeL.nil | exact PV.Le.nil _ | exact PV.Le.acc _ _ _ | apply LeL.cons | apply PV.Le.agg | apply PV.Le.tup)), rfl⟩, ⟨⟨rfl, by (repeat' (first | exact PV.Le.refl _ | exact LeL.nil | exact PV.Le.nil _ | exact PV.Le.acc _ _ _ | apply LeL.cons | apply PV.Le.agg | apply PV.Le.tup)), rfl⟩, trivial⟩⟩ rfl) (keeps_nil hC) ⟨⟨_, rfl, .refl _, rfl⟩, ⟨⟨_, rfl, .refl _, rfl⟩, ⟨⟨_, rfl, .refl _, rfl⟩, ⟨⟨_, rfl, .refl _, rfl⟩, ⟨⟨_, rfl, .refl _, rfl⟩, ⟨⟨_, rfl, by (repeat' (first | exact PV.Le.refl _ | exact LeL.nil | exact PV.Le.nil _ | exact PV.Le.acc _ _ _ | apply LeL.cons | apply PV.Le.agg | apply PV.Le.tup)), rfl⟩, trivial⟩⟩⟩⟩⟩⟩
        · omega
    · skip
      have h6b := h6
      try simp only [Bool.and_eq_true, Bool.or_eq_true, Bool.and_eq_false_iff, Bool.or_eq_false_iff, decide_eq_true_eq, decide_eq_false_iff_not, Bool.not_eq_true', Bool.not_eq_false', Bool.not_eq_eq_eq_not, Bool.not_true, Bool.not_false, ge_iff_le, gt_iff_lt, Int.not_lt, Int.not_le] at h6b
      have h6n : k ≥ ((w.gPackages[i]).gFunctions).length := by omega
      refine AWP.exit ?_
      refine AWP.region_lit ?_
      refine AL.cons rfl (AOp.move (.inl rfl) rfl rfl) ?_
      refine AL.cons rfl (AOp.addI rfl rfl rfl rfl (c := ((i + 1 : Nat) : Int)) (by omega) (by omega)) ?_
      refine AL.cons rfl (AOp.move (.inr rfl) rfl rfl) ?_
      refine AL.nil ?_
      refine ⟨i + 1, ?_, ?_, ?_⟩
      · exact ⟨by omega, findP_miss (by omega) hi2 hk2 (by omega)⟩
      · skip
        exact Wk.mk (StLe.mk' ⟨⟨rfl, by (repeat' (first | exact PV.Le.refl _ | exact LeL.nil | exact PV.Le.nil _ | exact PV.Le.acc _ _ _ | apply LeL.cons | apply PV.Le.agg | apply PV.Le.tup)), rfl⟩, ⟨⟨rfl, by (repeat' (first | exact PV.Le.refl _ | exact LeL.nil | exact PV.Le.nil _ | exact PV.Le.acc _ _ _ | apply LeL.cons | apply PV.Le.agg | apply PV.Le.tup)), rfl⟩, trivial⟩⟩ rfl) (keeps_nil hC) ⟨⟨_, rfl, .refl _, rfl⟩, ⟨⟨_, rfl, .refl _, rfl⟩, ⟨⟨_, rfl, .refl _, rfl⟩, ⟨⟨_, rfl, .refl _, rfl⟩, ⟨⟨_, rfl, by (repeat' (first | exact PV.Le.refl _ | exact LeL.nil | exact PV.Le.nil _ | exact PV.Le.acc _ _ _ | apply LeL.cons | apply PV.Le.agg | apply PV.Le.tup)), rfl⟩, trivial⟩⟩⟩⟩⟩
      · omega
  · skip
    have h3b := h3
    try simp only [Bool.and_eq_true, Bool.or_eq_true, Bool.and_eq_false_iff, Bool.or_eq_false_iff, decide_eq_true_eq, decide_eq_false_iff_not, Bool.not_eq_true', Bool.not_eq_false', Bool.not_eq_eq_eq_not, Bool.not_true, Bool.not_false, ge_iff_le, gt_iff_lt, Int.not_lt, Int.not_le] at h3b
    have h3n : i ≥ w.gPackages.length := by omega
    refine AWP.exit ?_
    refine AWP.seq ?_
    refine AWP.region_lit ?_
    refine AL.cons rfl (AOp.build rfl rfl zr105 pl105 rfl rfl) ?_
    refine AL.cons rfl (AOp.storePtr (cs := [.t (.leaf (.string (⟨#[]⟩))), .nil, .nil, .nil, .t (.leaf (.int .i64 (0))), .t (.leaf (.string (⟨#[]⟩))), .nil, .t (.leaf (.int .i64 (0))), .t (.leaf (.string (⟨#[]⟩))), .t (.leaf (.string (⟨#[]⟩))), .t (.leaf (.int .i64 (0))), .t (.leaf (.int .i64 (0))), .t (.leaf (.string (⟨#[]⟩))), .nil, .nil, .nil]) (ds := [.t (.leaf (.string (⟨#[]⟩))), .nil, .nil, .nil, .t (.leaf (.int .i64 (0))), .t (.leaf (.string (⟨#[]⟩))), .nil, .t (.leaf (.int .i64 (0))), .t (.leaf (.string (⟨#[]⟩))), .t (.leaf (.string (⟨#[]⟩))), .t (.leaf (.int .i64 (0))), .t (.leaf (.int .i64 (0))), .t (.leaf (.string (⟨#[]⟩))), .nil, .nil, .nil]) rfl rfl rfl rfl rfl rfl rfl sz105 (Nat.le_of_ble_eq_true rfl) rfl) ?_
    refine AL.cons rfl (AOp.move (.inr rfl) rfl rfl) ?_
    refine AL.cons rfl (AOp.move (.inr rfl) rfl rfl) ?_
    refine AL.nil ?_
    refine AWP.ret ?_
    exact Ends.mk (ps := [_, _, _]) (.inr rfl) ⟨⟨_, _, _, rfl, rfl, sh105, rfl, rfl⟩, rfl, rfl, trivial⟩ rfl (StLe.mk' (st' := ⟨[], []⟩) trivial rfl) (keeps_nil hC) (q := PV.tup [GFunction.pv GFunction.zero, .t (.leaf (.int .i64 (0))), .t (.leaf (.bool (false)))]) (by (repeat' (first | exact PV.Le.refl _ | exact LeL.nil | exact PV.Le.nil _ | exact PV.Le.acc _ _ _ | apply LeL.cons | apply PV.Le.agg | apply PV.Le.tup))) rfl ⟨by exact optFunction_none (findP_end hi2 (by omega)), rfl⟩

end Go.Proofs.YtnakkelglbcecaaGreat

namespace Go.Proofs.YtnakkelglbcecaaGreat
set_option linter.unusedSimpArgs false
set_option linter.unusedVariables false
open Go.RowKit Go.WalkArith Go.IntWalk Go.WideShapes

def iAnd (x y : Int) : Int := IntKind.wrap .i64 ((BitVec.ofInt 64 x &&& BitVec.ofInt 64 y).toNat : Int)
def iXor (x y : Int) : Int := IntKind.wrap .i64 ((BitVec.ofInt 64 x ^^^ BitVec.ofInt 64 y).toNat : Int)
def iShr (x y : Int) : Int := x.fdiv (2 ^ (min y.toNat 64))
def wrap64 (x : Int) : Int := IntKind.wrap .i64 x

section
variable {P : Program} {C : Ctx} {n : Nat} {s : AS} {o : Oper}
/-- A constant of which nothing is said. -/
theorem AOp.moveAny {v : Value} (ho : o.op = .assign (.const v) ∨ o.op = .move (.const v)) : AOp P C n o s (s.delO o.dst) := fun m a w h K Q hK => by
  have h1 : (execOp a.eval o).run P w = .ok (.value v) w := by
    unfold execOp
    rcases ho with ho | ho <;> simp [ho, Act.eval]
  unfold Oper.wp
  rw [h1]
  exact hK m _ w (h.del o.dst v)
theorem AOp.andI {T yT : TypeId} {x y : Operand} {a b : Int} (ho : o.op = .binOp .and T x y yT) (hd : dstOk o.dst n = true) (hx : s.ev x = some (.t (.leaf (.int .i64 a)))) (hy : s.ev y = some (.t (.leaf (.int .i64 b)))) :
    AOp P C n o s (s.putO o.dst (.t (.leaf (.int .i64 (iAnd a b))))) := AOp.bin ho hd hx hy (fun w => by rfl) (wf_wrap .i64 _)
theorem AOp.xorI {T yT : TypeId} {x y : Operand} {a b : Int} (ho : o.op = .binOp .xor T x y yT) (hd : dstOk o.dst n = true) (hx : s.ev x = some (.t (.leaf (.int .i64 a)))) (hy : s.ev y = some (.t (.leaf (.int .i64 b)))) :
    AOp P C n o s (s.putO o.dst (.t (.leaf (.int .i64 (iXor a b))))) := AOp.bin ho hd hx hy (fun w => by rfl) (wf_wrap .i64 _)
theorem AOp.shrI {T yT : TypeId} {x y : Operand} {a b : Int} {k : IntKind} (ho : o.op = .binOp .shr T x y yT) (hd : dstOk o.dst n = true) (hx : s.ev x = some (.t (.leaf (.int .i64 a)))) (hy : s.ev y = some (.t (.leaf (.int k b)))) (hb : 0 ≤ b) (h1 : -9223372036854775808 ≤ iShr a b) (h2 : iShr a b ≤ 9223372036854775807) :
    AOp P C n o s (s.putO o.dst (.t (.leaf (.int .i64 (iShr a b))))) := AOp.bin ho hd hx hy (fun w => by
      have : ¬ b < 0 := by omega
      simp [eqGuard, binOp, Op.shift, iShr, IntKind.bits, this]) (wf_i64 (by omega))
theorem AOp.remN {T yT : TypeId} {x y : Operand} {a b : Nat} (ho : o.op = .binOp .rem T x y yT) (hd : dstOk o.dst n = true) (hx : s.ev x = some (.t (.leaf (.int .i64 (a : Int))))) (hy : s.ev y = some (.t (.leaf (.int .i64 (b : Int))))) (hb : 0 < b) (ha : a ≤ 9223372036854775807) :
    AOp P C n o s (s.putO o.dst (.t (.leaf (.int .i64 ((a % b : Nat) : Int))))) := AOp.bin ho hd hx hy (fun w => by
      have : ¬ (b : Int) = 0 := by omega
      have : ¬ b = 0 := by omega
      simp [eqGuard, binOp, Op.intDiv, this, Int.tmod_eq_emod_of_nonneg]) (wf_i64 (by have := Nat.mod_le a b; omega))
theorem AOp.convI {S T : TypeId} {x : Operand} {k : IntKind} {a : Int} (ho : o.op = .convert S T x) (hd : dstOk o.dst n = true) (hx : s.ev x = some (.t (.leaf (.int k a)))) (hS : ∃ k', P.underlying S = some (.int k')) (hT : P.underlying T = some (.int .i64)) (h1 : -9223372036854775808 ≤ a) (h2 : a ≤ 9223372036854775807) :
    AOp P C n o s (s.putO o.dst (.t (.leaf (.int .i64 a)))) :=
  AOp.quiet (dstOk_lt hd) fun m ac w h => ⟨.int .i64 a, by
    have h3 := (RepM.leaf_eq (h.eval hx)).1
    obtain ⟨k', hS⟩ := hS
    have hw : IntKind.wrap .i64 a = a := by unfold IntKind.wrap; simp [IntKind.bits, IntKind.signed]; omega
    unfold execOp
    simp [ho, h3, convert, run_underlying hS, run_underlying hT, Conv.intToInt, hw], RepM.leaf (wf_i64 (by omega))⟩
end
end Go.Proofs.YtnakkelglbcecaaGreat

namespace Go.Proofs.YtnakkelglbcecaaGreat
set_option linter.unusedSimpArgs false
set_option linter.unusedVariables false
open Go.RowKit Go.WalkArith Go.IntWalk Go.WideShapes

theorem RVL.set {ok : Nat → Nat → Prop} {st : Sto} {m : Lay} {w : World} {q : PV} : ∀ {ps : List PV} {vs : List Value} {j : Nat}, RVL ok st m w ps vs → (∀ v, vs[j]? = some v → RV ok st m w q v) → RVL ok st m w (ps.set j q) vs
  | [], [], j, _, _ => by simp [RVL]
  | p :: ps, v :: vs, 0, h, k => ⟨k v rfl, h.2⟩
  | p :: ps, v :: vs, j + 1, h, k => ⟨h.1, RVL.set h.2 fun u hu => k u (by simpa using hu)⟩
  | [], _ :: _, _, h, _ => h.elim
  | _ :: _, [], _, h, _ => h.elim
section
variable {P : Program} {C : Ctx} {n : Nat} {s : AS}
theorem Wk.regBox {k j : Nat} {bx : PBox} (E sz : Nat) (hsz : 0 < sz) (hb : s.st.boxes[k]? = some (some bx)) (hj : bx.cells[j]? = some .nil) :
    Wk C n s ⟨s.env, (s.st.addRow ⟨E, sz, [], false⟩).setBox k ⟨bx.ty, bx.cells.set j (.acc sz [] s.st.rows.length)⟩⟩ := fun m a w h => by
  have hE := ev_addRow (row := ⟨E, sz, [], false⟩) h.sto
  have hS := sto_addRow (row := ⟨E, sz, [], false⟩) h.sto hsz rfl
  have h1 := h.step hE hS
  have hb1 : (s.st.addRow ⟨E, sz, [], false⟩).boxes[k]? = some (some bx) := hb
  obtain ⟨vs, hob, hcs⟩ := hS.box k bx hb1
  have hc : RVL (okA C.av (s.st.addRow ⟨E, sz, [], false⟩) ⟨m.ρ, upd m.γ s.st.rows.length none⟩) (s.st.addRow ⟨E, sz, [], false⟩) ⟨m.ρ, upd m.γ s.st.rows.length none⟩ w (bx.cells.set j (.acc sz [] s.st.rows.length)) vs := by
    refine RVL.set hcs fun v hv => ?_
    obtain ⟨u, hu, hr⟩ := hcs.get hj
    rw [hv] at hu
    cases hu
    obtain rfl := (show v = _ from hr)
    exact ⟨⟨E, sz, [], false⟩, by show (s.st.rows ++ [_])[s.st.rows.length]? = _; simp, rfl, Nat.le_refl _, RepM.nilRow _ _ _ _ (by unfold maxLen; omega), fun _ => by simp [upd_same, rowVal]⟩
  exact ⟨_, h1.step (ev_setBox hS hb1 rfl rfl rfl rfl fun _ _ => rfl) (sto_setBox hS hb1 rfl rfl rfl rfl (fun _ _ => rfl) hob hc)⟩
end
end Go.Proofs.YtnakkelglbcecaaGreat

namespace Go.Proofs.YtnakkelglbcecaaGreat
open Go.RowKit Go.WalkArith Go.IntWalk Go.WideShapes
section
variable {P : Program} {C : Ctx} {n : Nat} {s : AS} {o : Oper}
theorem run_eqB {T : TypeId} (hT : P.underlying T = some .bool) (a b : Bool) (w : World) : (Op.equalIn Op.maxDepth T (.bool a) (.bool b)).run P w = .ok (a == b) w := by
  unfold Op.maxDepth Op.equalIn
  simp [run_underlying hT]
theorem AOp.eqlB {T yT : TypeId} {x y : Operand} {a b : Bool} (ho : o.op = .binOp .eql T x y yT) (hd : dstOk o.dst n = true) (hx : s.ev x = some (.t (.leaf (.bool a)))) (hy : s.ev y = some (.t (.leaf (.bool b)))) (hT : P.underlying T = some .bool) :
    AOp P C n o s (s.putO o.dst (.t (.leaf (.bool (decide (a = b)))))) := AOp.bin ho hd hx hy (fun w => by
      simp [eqGuard, binOp, Op.equal, run_eqB hT]
      cases a <;> cases b <;> rfl) trivial
theorem AOp.neqB {T yT : TypeId} {x y : Operand} {a b : Bool} (ho : o.op = .binOp .neq T x y yT) (hd : dstOk o.dst n = true) (hx : s.ev x = some (.t (.leaf (.bool a)))) (hy : s.ev y = some (.t (.leaf (.bool b)))) (hT : P.underlying T = some .bool) :
    AOp P C n o s (s.putO o.dst (.t (.leaf (.bool (!decide (a = b)))))) := AOp.bin ho hd hx hy (fun w => by
      simp [eqGuard, binOp, Op.equal, run_eqB hT]
      cases a <;> cases b <;> rfl) trivial
end
end Go.Proofs.YtnakkelglbcecaaGreat

namespace Go.Proofs.YtnakkelglbcecaaGreat
set_option linter.unusedSimpArgs false
set_option linter.unusedVariables false
open Go.RowKit Go.WalkArith Go.IntWalk Go.WideShapes

/-- What a round of a loop says: on with s, out with s, or out of more than the loop. -/
inductive LR (σ β : Type) where
  | next (s : σ)
  | brk (s : σ)
  | ret (x : β)

def sw {α : Type} (b : Bool) (x y : α) : α := match b with
  | true => x
  | false => y
theorem swT {α : Type} {b : Bool} {x y z : α} (h : b = true) (k : x = z) : sw b x y = z := by rw [h]; exact k
theorem swF {α : Type} {b : Bool} {x y z : α} (h : b = false) (k : y = z) : sw b x y = z := by rw [h]; exact k
def lt {α β : Type} (x : α) (f : α → β) : β := f x
theorem ltE {α β : Type} {x y : α} {f : α → β} {z : β} (h : y = x) (k : f y = z) : lt x f = z := by subst h; exact k
noncomputable def gd {α : Type} (p : Prop) (x : Option α) : Option α := @ite _ p (Classical.propDecidable p) x none
theorem gdT {α : Type} {p : Prop} {x z : Option α} (h : p) (k : x = z) : gd p x = z := by unfold gd; rw [if_pos h]; exact k
theorem gdF {α : Type} {p : Prop} {x : Option α} (h : ¬ p) : gd p x = none := by unfold gd; rw [if_neg h]
def bd {α β : Type} (m : Option α) (f : α → Option β) : Option β := match m with
  | none => none
  | some a => f a
theorem bdS {α β : Type} {m : Option α} {f : α → Option β} {a : α} {z : Option β} (h : m = some a) (k : f a = z) : bd m f = z := by rw [h]; exact k
theorem bdN {α β : Type} {m : Option α} {f : α → Option β} (h : m = none) : bd m f = none := by rw [h]; rfl
def so {σ β : Type} (m : Option (β ⊕ σ)) (f : σ → Option β) : Option β := match m with
  | none => none
  | some (.inl x) => some x
  | some (.inr s) => f s
theorem soR {σ β : Type} {m : Option (β ⊕ σ)} {f : σ → Option β} {s : σ} {z : Option β} (h : m = some (.inr s)) (k : f s = z) : so m f = z := by rw [h]; exact k
theorem soL {σ β : Type} {m : Option (β ⊕ σ)} {f : σ → Option β} {x : β} (h : m = some (.inl x)) : so m f = some x := by rw [h]; rfl
theorem soN {σ β : Type} {m : Option (β ⊕ σ)} {f : σ → Option β} (h : m = none) : so m f = none := by rw [h]; rfl

def loopN {σ β : Type} (f : Nat → σ → Option (LR σ β)) : Nat → Nat → σ → Option (β ⊕ σ)
  | 0, _, s => some (.inr s)
  | k + 1, i, s => match f i s with
    | none => none
    | some (.next s') => loopN f k (i + 1) s'
    | some (.brk s') => some (.inr s')
    | some (.ret x) => some (.inl x)
def loopW {σ β : Type} (f : σ → Option (LR σ β)) : Nat → σ → Option (β ⊕ σ)
  | 0, _ => none
  | k + 1, s => match f s with
    | none => none
    | some (.next s') => loopW f k s'
    | some (.brk s') => some (.inr s')
    | some (.ret x) => some (.inl x)
section
variable {σ β : Type} {f : Nat → σ → Option (LR σ β)} {n i : Nat} {s s' : σ} {x : β} {R : Option (β ⊕ σ)}
theorem loopN_next (h : i < n) (hJ : R = loopN f (n - i) i s) (e : f i s = some (.next s')) : R = loopN f (n - (i + 1)) (i + 1) s' := by
  rw [hJ, show n - i = (n - (i + 1)) + 1 by omega, loopN, e]
theorem loopN_brk (h : i < n) (hJ : R = loopN f (n - i) i s) (e : f i s = some (.brk s')) : R = some (.inr s') := by
  rw [hJ, show n - i = (n - (i + 1)) + 1 by omega, loopN, e]
theorem loopN_ret (h : i < n) (hJ : R = loopN f (n - i) i s) (e : f i s = some (.ret x)) : R = some (.inl x) := by
  rw [hJ, show n - i = (n - (i + 1)) + 1 by omega, loopN, e]
theorem loopN_non (h : i < n) (hJ : R = loopN f (n - i) i s) (e : f i s = none) : R = none := by
  rw [hJ, show n - i = (n - (i + 1)) + 1 by omega, loopN, e]
theorem loopN_end (h : n ≤ i) (hJ : R = loopN f (n - i) i s) : R = some (.inr s) := by
  rw [hJ, show n - i = 0 by omega, loopN]
end
section
variable {σ β : Type} {f : σ → Option (LR σ β)} {k : Nat} {s s' : σ} {x : β} {R : Option (β ⊕ σ)}
theorem loopW_next (hJ : R = loopW f (k + 1) s) (e : f s = some (.next s')) : R = loopW f k s' := by rw [hJ, loopW, e]
theorem loopW_brk (hJ : R = loopW f (k + 1) s) (e : f s = some (.brk s')) : R = some (.inr s') := by rw [hJ, loopW, e]
theorem loopW_ret (hJ : R = loopW f (k + 1) s) (e : f s = some (.ret x)) : R = some (.inl x) := by rw [hJ, loopW, e]
theorem loopW_non (hJ : R = loopW f (k + 1) s) (e : f s = none) : R = none := by rw [hJ, loopW, e]
theorem loopW_zero (hJ : R = loopW f 0 s) : R = none := by rw [hJ, loopW]
end
theorem none_some {α : Type} {m : Option α} {x : α} {F : Prop} (h : m = some x) (e : m = none) : F := by rw [e] at h; cases h

/-! ### Ways that meet again -/
section
variable {P : Program} {C : Ctx} {n : Nat} {s : AS} {Q : Exit → AS → Prop}
def QC (C : Ctx) (n : Nat) (Q : Exit → AS → Prop) : Prop := ∀ e s s', Wk C n s s' → Q e s' → Q e s
def NC (C : Ctx) (n : Nat) (N : AS → Prop) : Prop := ∀ s s', Wk C n s s' → N s' → N s
def roundA {ι : Type} (C : Ctx) (n : Nat) (J : ι → Prop) (I : ι → AS) (μ : ι → Nat) (i : ι) : AS → Prop := fun s' => ∃ j, J j ∧ Wk C n s' (I j) ∧ μ j < μ i
def cutA {ι : Type} (C : Ctx) (n : Nat) (J : ι → Prop) (I : ι → AS) (Q : Exit → AS → Prop) : Exit → AS → Prop
  | .normal, s => ∃ i, J i ∧ Wk C n s (I i)
  | e, s => Q e s
theorem ncAWP {c : Code} : NC C n (AWP P C n c Q) := fun _ _ h k => AWP.weak h k
theorem ncRound {ι : Type} {J : ι → Prop} {I : ι → AS} {μ : ι → Nat} {i : ι} : NC C n (roundA C n J I μ i) := fun _ _ h => by
  rintro ⟨j, h1, h2, h3⟩
  exact ⟨j, h1, h.trans h2, h3⟩
theorem ncEx {ι : Type} {J : ι → Prop} {I : ι → AS} : NC C n (fun s => ∃ i, J i ∧ Wk C n s (I i)) := fun _ _ h => by
  rintro ⟨j, h1, h2⟩
  exact ⟨j, h1, h.trans h2⟩
theorem qcThen {N : AS → Prop} (hn : NC C n N) (hq : QC C n Q) : QC C n (thenA N Q) := fun e s s' h k => by
  cases e with
  | normal => exact hn s s' h k
  | _ => exact hq _ s s' h k
theorem qcBlock {id : Nat} (hq : QC C n Q) : QC C n (inBlockA id Q) := fun e s s' h k => by
  cases e with
  | exit i =>
    simp only [inBlockA] at k ⊢
    split
    · rename_i hi; rw [if_pos hi] at k; exact hq _ s s' h k
    · rename_i hi; rw [if_neg hi] at k; exact hq _ s s' h k
  | _ => exact hq _ s s' h k
theorem qcCut {ι : Type} {J : ι → Prop} {I : ι → AS} (hq : QC C n Q) : QC C n (cutA C n J I Q) := fun e s s' h k => by
  cases e with
  | normal =>
    obtain ⟨j, h1, h2⟩ := k
    exact ⟨j, h1, h.trans h2⟩
  | _ => exact hq _ s s' h k
theorem qcEnds {fn : Func} {R : PV → Sto → Prop} : QC C n (Ends P C n fn R) := fun e s s' h k => ⟨k.1, fun m a w hr => by
  obtain ⟨m', h'⟩ := h m a w hr
  exact k.2 m' a w h'⟩
theorem AWP.cut {c : Code} {ι : Type} (J : ι → Prop) (I : ι → AS) (hq : QC C n Q) (h : AWP P C n c (cutA C n J I Q) s) (k : ∀ i, J i → Q .normal (I i)) : AWP P C n c Q s :=
  AWP.mono h fun e s' hc => by
    cases e with
    | normal =>
      obtain ⟨i, hj, hw⟩ := hc
      exact hq _ _ _ hw (k i hj)
    | _ => exact hc
theorem AWP.loopR {c : Code} {ι : Type} (J : ι → Prop) (I : ι → AS) (μ : ι → Nat) (i0 : ι) (hj : J i0) (h0 : Wk C n s (I i0)) (round : ∀ i, J i → AWP P C n c (thenA (roundA C n J I μ i) Q) (I i)) : AWP P C n (.loop c) Q s :=
  AWP.loopJ J I μ i0 hj h0 fun i hi => AWP.mono (round i hi) fun e s' h => by cases e <;> exact h
end
end Go.Proofs.YtnakkelglbcecaaGreat

namespace Go.Proofs.YtnakkelglbcecaaGreat
open Go.RowKit Go.Proofs
set_option linter.unusedSimpArgs false
set_option linter.unusedVariables false


def byteTrs (l : List UInt8) : List (List Tr) := l.map fun b => [.leaf (.int .u8 (b.toNat : Int))]
theorem byteTrs_len (l : List UInt8) : (byteTrs l).length = l.length := by simp [byteTrs]
theorem byteTrs_cs {l : List UInt8} {k : Nat} (h : k < l.length) : (byteTrs l)[k]? = some [.leaf (.int .u8 ((l[k]).toNat : Int))] := by simp [byteTrs, h]
/-- The state of the source: the bytes, the place, the number. -/
structure DS where
  code : List UInt8
  p : Nat
  h : Int
def DS.cells (d : DS) : List PV := [.t (.row 1 (byteTrs d.code)), .t (.leaf (.int .i64 (d.p : Int))), .t (.leaf (.int .i64 d.h))]
abbrev DS.box (T : TypeId) (d : DS) : Sto := ⟨[some ⟨T, d.cells⟩], []⟩
def nextH (h : Int) : Int := wrap64 (wrap64 (h * 6364136223846793005) + 1442695040888963407)
theorem wrap64_in (x : Int) : -9223372036854775808 ≤ wrap64 x ∧ wrap64 x ≤ 9223372036854775807 := by
  unfold wrap64 IntKind.wrap
  simp [IntKind.bits, IntKind.signed]
  omega
theorem iShr_in {x y : Int} (h : -9223372036854775808 ≤ x ∧ x ≤ 9223372036854775807) : -9223372036854775808 ≤ iShr x y ∧ iShr x y ≤ 9223372036854775807 := by
  unfold iShr
  generalize min y.toNat 64 = k
  have hp : (1 : Int) ≤ 2 ^ k := by
    have := Nat.one_le_two_pow (n := k)
    exact_mod_cast this
  generalize (2 : Int) ^ k = d at hp
  rw [Int.fdiv_eq_ediv_of_nonneg _ (by omega)]
  have h1 : x / d ≤ 9223372036854775807 := by
    have : x / d ≤ 9223372036854775807 / d := Int.ediv_le_ediv (by omega) h.2
    have : (9223372036854775807 : Int) / d ≤ 9223372036854775807 := Int.ediv_le_self _ (by omega)
    omega
  have h2 : -9223372036854775808 ≤ x / d := by
    rw [Int.le_ediv_iff_mul_le (by omega)]
    omega
  exact ⟨h2, h1⟩
def DS.byte (d : DS) : Int := let x := iAnd (iXor (iShr (nextH d.h) 33) (iShr (nextH d.h) 45)) 255; if h : d.p < d.code.length then iAnd (wrap64 (x + (d.code[d.p].toNat : Int))) 255 else x
def DS.next (d : DS) : DS := ⟨d.code, if d.p < d.code.length then d.p + 1 else d.p, nextH d.h⟩
theorem iAnd_255 (x : Int) : 0 ≤ iAnd x 255 ∧ iAnd x 255 ≤ 255 := by
  unfold iAnd
  have h : (BitVec.ofInt 64 x &&& BitVec.ofInt 64 255).toNat ≤ 255 := by
    rw [BitVec.toNat_and]
    exact Nat.le_trans Nat.and_le_right (by decide)
  generalize (BitVec.ofInt 64 x &&& BitVec.ofInt 64 255).toNat = k at h
  unfold IntKind.wrap
  simp [IntKind.bits, IntKind.signed]
  omega
theorem DS.byte_in (d : DS) : 0 ≤ d.byte ∧ d.byte ≤ 255 := by
  unfold DS.byte
  split
  · exact iAnd_255 _
  · exact iAnd_255 _
def DS.byteN (d : DS) : Nat := d.byte.toNat
theorem DS.byteN_le (d : DS) : d.byteN ≤ 255 := by have := d.byte_in; unfold DS.byteN; omega
theorem DS.byteN_eq (d : DS) : ((d.byteN : Nat) : Int) = d.byte := by have := d.byte_in; unfold DS.byteN; omega
def DS.below (d : DS) (n : Nat) : Nat := if n = 0 then 0 else if n ≤ 256 then d.byteN % n else (d.byteN * 16777216 + d.next.byteN * 65536 + d.next.next.byteN * 256 + d.next.next.next.byteN) % n
def DS.after (d : DS) (n : Nat) : DS := if n = 0 then d else if n ≤ 256 then d.next else d.next.next.next.next
theorem DS.below_lt (d : DS) {n : Nat} (h : 0 < n) : d.below n < n := by
  unfold DS.below
  rw [if_neg (by omega)]
  split
  · exact Nat.mod_lt _ h
  · exact Nat.mod_lt _ h
def DS.pick (d : DS) (l : List ByteArray) : ByteArray := (l[d.below l.length]?).getD ⟨#[]⟩
theorem DS.pick_eq {d : DS} {l : List ByteArray} (h : d.below l.length < l.length) : d.pick l = l[d.below l.length] := by simp [DS.pick, h]
def newStep (h : Int) (b : UInt8) : Int := iAnd (wrap64 (wrap64 (wrap64 (h * 131) + (b.toNat : Int)) + 7)) 1073741823
def newH (code : List UInt8) : Int := (code.take 4000).foldl newStep (28803 + (code.length : Int))
def DS.start (code : List UInt8) : DS := ⟨code, 0, newH code⟩
theorem newH_next {code : List UInt8} {i : Nat} {h h' r : Int} (h1 : i < code.length) (h2 : i < 4000) (hr : r = ((code.take 4000).drop i).foldl newStep h) (hs : newStep h code[i] = h') : r = ((code.take 4000).drop (i + 1)).foldl newStep h' := by
  have hl : i < (code.take 4000).length := by simp; omega
  rw [hr, List.drop_eq_getElem_cons hl, List.foldl_cons, List.getElem_take, hs]
theorem newH_end {code : List UInt8} {i : Nat} {h r : Int} (h1 : code.length ≤ i ∨ 4000 ≤ i) (hr : r = ((code.take 4000).drop i).foldl newStep h) : r = h := by
  rw [hr, List.drop_of_length_le (by simp; omega), List.foldl_nil]
theorem keeps_box {C : Ctx} {x : PBox} {S : Sto} (h : C.st = ⟨[some x], []⟩) (hs : ∃ y, S.boxes[0]? = some (some y)) : Keeps0 C.st S := by
  rw [h]
  exact ⟨fun k z hz => by
    rcases k with _ | k
    · exact hs
    · simp at hz, fun r row hr => by simp at hr⟩

end Go.Proofs.YtnakkelglbcecaaGreat

namespace Go.Proofs.YtnakkelglbcecaaGreat
set_option linter.unusedSimpArgs false
set_option linter.unusedVariables false
open Go.RowKit Go.WalkArith Go.IntWalk Go.WideShapes

section
variable {P : Program} {C : Ctx} {n : Nat} {s : AS} {o : Oper}
theorem AOp.makeSlice {T E sz by_ N : Nat} {x y : Operand} (ho : o.op = .makeSlice T x y) (hd : dstOk o.dst n = true) (hx : s.ev x = some (.t (.leaf (.int .i64 (N : Int))))) (hy : s.ev y = some (.t (.leaf (.int .i64 (N : Int)))))
    (hT : elemOf? P T = some (E, sz, by_)) (hz : (P.info? E).bind (fun i => i.zero.map (fun z => z.cells.size)) = some sz) (hsz : 0 < sz) (hb : by_ * N ≤ 281474976710656) (hN : N ≤ 9223372036854775807) :
    AOp P C n o s ((⟨s.env, s.st.addRow ⟨E, sz, [], true⟩⟩ : AS).putO o.dst (.full sz N s.st.rows.length)) :=
  AOp.run hd (s1 := ⟨s.env, s.st.addRow ⟨E, sz, [], true⟩⟩) (fun m a w h => by
    obtain ⟨i, hu, hi, hs, hby⟩ := elemOf?.spec hT
    have h1 := (RepM.leaf_eq (h.eval hx)).1
    have h2 := (RepM.leaf_eq (h.eval hy)).1
    cases hzz : i.zero with
    | none => simp [hi, hzz] at hz
    | some z =>
      have hb' : (i.bytes : Int) * (N : Int) ≤ 281474976710656 := by
        rw [hby]
        have : ((by_ * N : Nat) : Int) ≤ 281474976710656 := by omega
        rwa [Int.natCast_mul] at this
      have hr := run_make (P := P) w T E i z hu hi hzz .i64 .i64 N N (by omega) (Int.le_refl _) hb' (by omega)
      simp only [Int.toNat_natCast] at hr
      refine ⟨.slice (some ⟨w.heap.size, 0, none⟩) N N, ⟨m.ρ, upd m.γ s.st.rows.length (some (w.heap.size, N))⟩, _, ?_, ev_newRow (row := ⟨E, sz, [], true⟩) (c := N) (cur := madeCells z.cells (N * i.size)) h.sto, sto_newRow (row := ⟨E, sz, [], true⟩) h.sto hsz rfl (by rw [size_madeCells, hs]) (by unfold maxLen; omega), ?_⟩
      · unfold execOp
        simp only [ho, h1, h2, Sem.run_bind, hr, Result.andThen_ok]
        rfl
      · exact ⟨⟨E, sz, [], true⟩, w.heap.size, by show (s.st.rows ++ [_])[s.st.rows.length]? = _; simp, rfl, rfl, upd_same _ _ _, rfl⟩) rfl
theorem AOp.indexFull {T E sz by_ N r k : Nat} {x i : Operand} (ho : o.op = .indexAddr T x i) (hd : dstOk o.dst n = true) (hx : s.ev x = some (.full sz N r)) (hi : s.ev i = some (.t (.leaf (.int .i64 (k : Int))))) (hk : k < N) (hT : elemOf? P T = some (E, sz, by_)) :
    AOp P C n o s (s.putO o.dst (.rptr r k)) :=
  AOp.quiet (dstOk_lt hd) fun m a w h => by
    obtain ⟨row, g, h1, h2, h3, h4, h5⟩ := h.eval hx
    have h6 := (RepM.leaf_eq (h.eval hi)).1
    refine ⟨.pointer (some ⟨g, 0 + k * sz, none⟩), ?_, row, g, N, h1, h3, h4, by rw [h2, Nat.zero_add]⟩
    unfold execOp
    simp only [ho, h5, h6, Sem.run_bind, run_indexAt' hT hk, Result.andThen_ok]
    rfl
/-- The next element is stored. -/
theorem AOp.storeRptr {T sz N r k : Nat} {x y : Operand} {row : PRow} {p : PV} {e : List Tr} {es2 : List (List Tr)} (j : Nat) (ho : o.op = .store T x y) (hx : s.ev x = some (.rptr r k)) (hf : s.lk j = some (.full sz N r)) (hrow : s.st.rows[r]? = some row) (hy : s.ev y = some p) (ht : notTup p = true)
    (hle : LeL (cellsP p) (e.map PV.t)) (hel : e.length = sz) (hflat : flatP (e.map PV.t) = true) (hT : (P.info? T).map (·.size) = some sz) (hk : k = row.es.length) (hkN : k < N) (he2 : row.es ++ [e] = es2) :
    AOp P C n o s ((⟨s.env, s.st.setRow r { row with es := es2 }⟩ : AS).delO o.dst) :=
  AOp.runU (s1 := ⟨s.env, s.st.setRow r { row with es := es2 }⟩) (fun m a w h => by
    subst he2 hk
    obtain ⟨vf, -, row0, g, q1, q2, q3, q4, q5⟩ := h.env j _ hf
    rw [hrow] at q1
    cases q1
    subst q2
    obtain ⟨row1, g1, n1, p1, p3, p4, p5⟩ := h.eval hx
    rw [hrow] at p1
    cases p1
    rw [q4] at p4
    injection p4 with p4
    injection p4 with e1 e2
    subst e1 e2
    have hr := LeL.rv hle (cellsP_rv (h.eval hy) (notTup.ne ht))
    have hl : (a.eval y).cells.toList.length = row.sz := by have := hr.length; rw [List.length_map, hel] at this; exact this.symm
    obtain ⟨hpos, hlens, hplace⟩ := h.sto.row r row hrow
    rcases hplace with ⟨z1, -⟩ | ⟨g', c', cur, z1, hob, hcs, hfit, hmax, hrep⟩
    · rw [q4] at z1; cases z1
    rw [q4] at z1
    injection z1 with z1
    injection z1 with e1 e2
    subst e1 e2
    have hfitc : row.es.length * row.sz + row.sz ≤ cur.size := by
      rw [hcs]
      have := Nat.mul_le_mul_right row.sz (Nat.succ_le_of_lt hkN)
      rwa [Nat.succ_mul] at this
    have hrun := run_storeVar_ob (P := P) (T := T) (d := row.es.length * row.sz) (v := a.eval y) hob (by rw [hT, ← hl]; simp) (by have hq : (a.eval y).cells.size = row.sz := (by simpa using hl); omega) (flatP.one hflat hr)
    have hsp : ∀ q : Nat, q < row.es.length * row.sz → (splice cur (row.es.length * row.sz) (a.eval y).cells.toList)[q]? = cur[q]? := fun q hq => by
      unfold Go.Proofs.YtnakkelglbcecaaGreat.splice
      rw [List.getElem?_toArray, List.append_assoc, List.getElem?_append_left (by simp; omega), List.getElem?_take, if_pos hq, Array.getElem?_toList]
    have hG : Grow C.av s.st m w r row [e] g N (splice cur (row.es.length * row.sz) (a.eval y).cells.toList) (w.setRow g (splice cur (row.es.length * row.sz) (a.eval y).cells.toList)) := by
      refine ⟨hrow, rfl, rfl, rfl, by simp, fun b hb hne => setRow_other w g b _ hne, setRow_heap w g cur _ _ _ hob, ?_, by simp only [List.length_singleton]; omega, hmax, fun e' he' => ?_, fun i e' hi j' d hd => ?_, fun i e' hi j' d hd => ?_, .inl ⟨N, cur, q4, hob, fun o ho => hsp o ho⟩, fun _ => q4⟩
      · unfold Go.Proofs.YtnakkelglbcecaaGreat.splice
        simp only [List.size_toArray, List.length_append, List.length_take, List.length_drop, Array.length_toList, hl]
        omega
      · have : e' = e := by simpa using he'
        rw [this]; exact hel
      · cases hrep with
        | row cf r1 r2 r3 r4 =>
          obtain ⟨b', off', hbo, hb', r5⟩ := r3 (by rintro e0; rw [e0] at hi; simp at hi)
          injection hbo with hbo
          injection hbo with e1 e2 e3
          subst e1 e2
          have hc := (r5 i e' hi j' d hd).2
          rw [hob.cell, Nat.zero_add] at hc
          refine ⟨cf i j', ?_, r4 i e' hi j' d hd⟩
          have hi1 := get_lt hi
          have hj1 : j' < row.sz := by rw [← hlens e' (List.mem_of_getElem? hi)]; exact get_lt hd
          have hlt : i * row.sz + j' < row.es.length * row.sz := by
            have : (i + 1) * row.sz ≤ row.es.length * row.sz := Nat.mul_le_mul_right _ hi1
            rw [Nat.succ_mul] at this
            omega
          rw [hsp _ hlt]; exact hc
      · obtain ⟨rfl, rfl⟩ : i = 0 ∧ e' = e := by
          rcases i with _ | i
          · simp at hi; exact ⟨rfl, hi.symm⟩
          · simp at hi
        obtain ⟨v, hv, hrv⟩ := hr.get (j := j') (p := .t d) (by rw [List.getElem?_map, hd]; rfl)
        refine ⟨v, ?_, hrv⟩
        have hjl := get_lt hv
        unfold Go.Proofs.YtnakkelglbcecaaGreat.splice
        have htl : (cur.toList.take (row.es.length * row.sz)).length = row.es.length * row.sz := by simp; omega
        rw [List.getElem?_toArray, Nat.add_zero, List.append_assoc, List.getElem?_append_right (by rw [htl]; omega), htl, Nat.add_sub_cancel_left, List.getElem?_append_left hjl, hv]
    have hgm : upd m.γ r (some (g, N)) = m.γ := by
      funext q
      by_cases hqr : q = r
      · subst hqr; rw [upd_same, q4]
      · rw [upd_ne hqr]
    refine ⟨_, _, ?_, hG.ev h.sto, hG.sto h.sto⟩
    unfold execOp
    simp only [ho, p5, Instr.storeAt, Instr.sureAddr, Sem.run_bind, Sem.run_pure, Result.andThen_ok, hrun]) rfl
/-- What has been filled to its end is plain data. -/
theorem Wk.full {i E sz N r : Nat} {es : List (List Tr)} {b : Bool} (hx : s.lk i = some (.full sz N r)) (hrow : s.st.rows[r]? = some ⟨E, sz, es, b⟩) (hl : es.length = N) : Wk C n s (s.put i (.t (.row sz es))) := fun m a w h => by
  refine ⟨m, h.dfr, h.tsz, h.sto, fun j q hq => ?_, h.ev⟩
  rw [AS.lk_put] at hq
  split at hq
  · rename_i e
    subst e
    cases hq
    obtain ⟨v, hv, row, g, q1, q2, q3, q4, q5⟩ := h.env j _ hx
    refine ⟨v, hv, ?_⟩
    rw [hrow] at q1
    cases q1
    obtain ⟨-, -, hplace⟩ := h.sto.row r _ hrow
    rcases hplace with ⟨z1, -⟩ | ⟨g', c', cur, z1, hob, hcs, hfit, hmax, hrep⟩
    · rw [q4] at z1; cases z1
    rw [q4] at z1
    injection z1 with z1
    injection z1 with e1 e2
    subst e1 e2
    subst q5
    show RepM _ _ (.row sz es) _
    have : RepM (okA C.av s.st m) w (.row sz es) (.slice (some ⟨g, 0, none⟩) es.length N) := hrep
    rw [hl] at this
    exact this
  · exact h.env j q hq
end
end Go.Proofs.YtnakkelglbcecaaGreat

namespace Go.Proofs.YtnakkelglbcecaaGreat
set_option linter.unusedSimpArgs false
set_option linter.unusedVariables false
open Go.RowKit Go.WalkArith Go.IntWalk Go.WideShapes

/-- Byte k of a string. -/
def bAt (v : ByteArray) (k : Nat) : UInt8 := (v[k]?).getD 0
section
variable {P : Program} {C : Ctx} {n : Nat} {s : AS} {o : Oper}
theorem wf_u8 (b : UInt8) : LeafOk (.int .u8 (b.toNat : Int)) := by
  have := b.toNat_lt
  simp [LeafOk, Lit.wf, IntKind.min, IntKind.max, IntKind.bits, IntKind.signed]
  omega
theorem AOp.indexS {T : TypeId} {x i : Operand} {v : ByteArray} {k : Nat} (ho : o.op = .index T x i) (hd : dstOk o.dst n = true) (hx : s.ev x = some (.t (.leaf (.string v)))) (hi : s.ev i = some (.t (.leaf (.int .i64 (k : Int))))) (hk : k < v.size) (hT : P.underlying T = some .string) :
    AOp P C n o s (s.putO o.dst (.t (.leaf (.int .u8 ((bAt v k).toNat : Int))))) :=
  AOp.quiet (dstOk_lt hd) fun m a w h => by
    have h1 := (RepM.leaf_eq (h.eval hx)).1
    have h2 := (RepM.leaf_eq (h.eval hi)).1
    refine ⟨.int .u8 ((bAt v k).toNat : Int), ?_, RepM.leaf (wf_u8 _)⟩
    have h3 : v[k]? = some v[k] := by simp [hk]
    unfold execOp
    simp [ho, h1, h2, Instr.index, asIntOf, run_underlying hT, h3, bAt]
theorem AOp.indexSI {T : TypeId} {x i : Operand} {v : ByteArray} {y : Int} (ho : o.op = .index T x i) (hd : dstOk o.dst n = true) (hx : s.ev x = some (.t (.leaf (.string v)))) (hi : s.ev i = some (.t (.leaf (.int .i64 y)))) (h0 : 0 ≤ y) (hk : y.toNat < v.size) (hT : P.underlying T = some .string) :
    AOp P C n o s (s.putO o.dst (.t (.leaf (.int .u8 ((bAt v y.toNat).toNat : Int))))) :=
  AOp.indexS (k := y.toNat) ho hd hx (by rw [hi, Int.toNat_of_nonneg h0]) hk hT
/-- The places that a slicing names. -/
def lowOf (s : AS) : Option Operand → Option Int
  | none => some 0
  | some x => match s.ev x with
    | some (.t (.leaf (.int .i64 y))) => some y
    | _ => none
def highOf (s : AS) (len : Nat) : Option Operand → Option Int
  | none => some (len : Int)
  | some x => match s.ev x with
    | some (.t (.leaf (.int .i64 y))) => some y
    | _ => none
theorem ev_int {m : Lay} {a : Act} {w : World} (h : RA C n s m a w) {x : Operand} {y : Int} (hx : s.ev x = some (.t (.leaf (.int .i64 y)))) : a.eval x = .int .i64 y := (RepM.leaf_eq (h.eval hx)).1
theorem lowOf.some' {x : Operand} {y : Int} (h : lowOf s (some x) = some y) : s.ev x = some (.t (.leaf (.int .i64 y))) := by
  unfold lowOf at h
  simp only at h
  split at h
  · rename_i z hz
    simp only [Option.some.injEq] at h
    rw [hz, h]
  · cases h
theorem highOf.some' {x : Operand} {y : Int} {len : Nat} (h : highOf s len (some x) = some y) : s.ev x = some (.t (.leaf (.int .i64 y))) := by
  unfold highOf at h
  simp only at h
  split at h
  · rename_i z hz
    simp only [Option.some.injEq] at h
    rw [hz, h]
  · cases h
theorem run_bounds {m : Lay} {a : Act} {w : World} (h : RA C n s m a w) {isS : Bool} {len cap : Nat} {lo hi : Option Operand} {l k : Int} (hlen : len ≤ cap) (h1 : lowOf s lo = some l) (h2 : highOf s len hi = some k) (h3 : 0 ≤ l) (h4 : l ≤ k) (h5 : k ≤ (len : Int)) :
    (Instr.sliceBounds isS len cap (lo.map a.eval) (hi.map a.eval) none).run P w = .ok (l.toNat, k.toNat, cap) w := by
  have hk : 0 ≤ k := by omega
  have hkc : k ≤ (cap : Int) := by omega
  have hlk : l ≤ (k.toNat : Int) := by omega
  cases lo with
  | none =>
    simp only [lowOf, Option.some.injEq] at h1
    subst h1
    cases hi with
    | none =>
      simp only [highOf, Option.some.injEq] at h2
      subst h2
      simp [Instr.sliceBounds]
    | some y =>
      have e := ev_int h (highOf.some' h2)
      simp [Instr.sliceBounds, Instr.sliceBound, e, asIntOf, hk, hkc]
  | some x =>
    have e := ev_int h (lowOf.some' h1)
    cases hi with
    | none =>
      simp only [highOf, Option.some.injEq] at h2
      subst h2
      simp [Instr.sliceBounds, Instr.sliceBound, e, asIntOf, h3, h4]
    | some y =>
      have e2 := ev_int h (highOf.some' h2)
      have hm : max k 0 = k := Int.max_eq_left hk
      simp [Instr.sliceBounds, Instr.sliceBound, e, e2, asIntOf, hk, hkc, h3, hlk, hm, h4]
      try omega
theorem AOp.sliceS {T : TypeId} {x : Operand} {lo hi : Option Operand} {v : ByteArray} {l k : Int} (ho : o.op = .slice T x lo hi none) (hd : dstOk o.dst n = true) (hx : s.ev x = some (.t (.leaf (.string v)))) (h1 : lowOf s lo = some l) (h2 : highOf s v.size hi = some k) (h3 : 0 ≤ l ∧ l ≤ k ∧ k ≤ (v.size : Int)) (hT : P.underlying T = some .string) :
    AOp P C n o s (s.putO o.dst (.t (.leaf (.string (v.extract l.toNat k.toNat))))) :=
  AOp.quiet (dstOk_lt hd) fun m a w h => by
    obtain ⟨e, h6⟩ := RepM.leaf_eq (h.eval hx)
    have h6 : v.size ≤ maxLen := h6
    refine ⟨.string (v.extract l.toNat k.toNat), ?_, RepM.leaf ?_⟩
    · have hb := run_bounds (P := P) h (isS := false) (Nat.le_refl v.size) h1 h2 h3.1 h3.2.1 h3.2.2
      unfold execOp
      simp [ho, e, Instr.sliceAt, Instr.slice, run_underlying hT, hb]
    · show (v.extract l.toNat k.toNat).size ≤ maxLen
      rw [ByteArray.size_extract]
      omega
theorem RepM.part {ok : Nat → Nat → Prop} {w : World} {sz : Nat} {es : List (List Tr)} {a : Option Addr} {cap l k : Nat} (h : RepM ok w (.row sz es) (.slice a es.length cap)) (h1 : l ≤ k) (h2 : k ≤ es.length) : RepM ok w (.row sz ((es.take k).drop l)) (.slice (if cap = l then a else a.map (·.add (l * sz))) (k - l) (cap - l)) := by
  cases h with
  | row c q1 q2 q3 q4 =>
    have hlen : ((es.take k).drop l).length = k - l := by simp; omega
    have hget : ∀ (i : Nat) e, ((es.take k).drop l)[i]? = some e → es[l + i]? = some e := fun i e he => by
      rw [List.getElem?_drop, List.getElem?_take] at he
      split at he
      · exact he
      · cases he
    have := RepM.row (ok := ok) (w := w) (sz := sz) (es := (es.take k).drop l) (a := if cap = l then a else a.map (·.add (l * sz))) (cap := cap - l) (fun i j => c (l + i) j) (by rw [hlen]; omega) (by omega) (fun hne => ?_) (fun i e he j d hd => q4 _ e (hget i e he) j d hd)
    · rwa [hlen] at this
    · have hkl : l < k := by
        rcases Nat.lt_or_ge l k with h | h
        · exact h
        · exact absurd (List.length_eq_zero_iff.1 (by rw [hlen]; omega)) hne
      obtain ⟨b, off, rfl, hb, q5⟩ := q3 (by rintro rfl; simp at h2; omega)
      refine ⟨b, off + l * sz, ?_, hb, fun i e he j d hd => ?_⟩
      · rw [if_neg (by omega)]
        have hadd : (⟨b, off, none⟩ : Addr).add (l * sz) = ⟨b, off + l * sz, none⟩ := by unfold Addr.add; split <;> simp_all
        simp [hadd]
      · have := q5 (l + i) e (hget i e he) j d hd
        rw [show off + l * sz + i * sz + j = off + (l + i) * sz + j by rw [Nat.add_mul]; omega]
        exact this
theorem AOp.sliceR {T E sz by_ : Nat} {x : Operand} {lo hi : Option Operand} {p : PV} {es : List (List Tr)} {l k : Int} (ho : o.op = .slice T x lo hi none) (hd : dstOk o.dst n = true) (hx : s.ev x = some p) (hp : rowOf p = some (sz, es)) (h1 : lowOf s lo = some l) (h2 : highOf s es.length hi = some k) (h3 : 0 ≤ l ∧ l ≤ k ∧ k ≤ (es.length : Int)) (hT : elemOf? P T = some (E, sz, by_)) :
    AOp P C n o s (s.putO o.dst (.t (.row sz ((es.take k.toNat).drop l.toNat)))) :=
  AOp.quiet (dstOk_lt hd) fun m a w h => by
    have hr := rowOf_rv hp (h.eval hx)
    obtain ⟨i, hu, hi', hs, -⟩ := elemOf?.spec hT
    obtain ⟨ad, cap, hv, hlc, hcm⟩ := hr.shape
    rw [hv] at hr
    refine ⟨_, ?_, hr.part (l := l.toNat) (k := k.toNat) (by omega) (by omega)⟩
    have hb := run_bounds (P := P) h (isS := true) hlc h1 h2 h3.1 h3.2.1 h3.2.2
    unfold execOp
    simp [ho, hv, Instr.sliceAt, Instr.slice, run_underlying hu, hb, Go.sizeOf, typeInfo, hi', hs]
theorem AOp.maxI {x y : Operand} {ts : Array TypeId} {a b : Int} (ho : o.op = .call { callee := .builtin .max, args := #[x, y], argTypes := ts }) (hd : dstOk o.dst n = true) (hx : s.ev x = some (.t (.leaf (.int .i64 a)))) (hy : s.ev y = some (.t (.leaf (.int .i64 b)))) :
    AOp P C n o s (s.putO o.dst (.t (.leaf (.int .i64 (max a b))))) :=
  AOp.quiet (dstOk_lt hd) fun m ac w h => by
    obtain ⟨h1, k1⟩ := RepM.leaf_eq (h.eval hx)
    obtain ⟨h2, k2⟩ := RepM.leaf_eq (h.eval hy)
    refine ⟨.int .i64 (max a b), ?_, RepM.leaf ?_⟩
    · unfold execOp
      have hmx : (if b > a then b else a) = max a b := by
        by_cases hba : b > a
        · rw [if_pos hba, Int.max_eq_right (by omega)]
        · rw [if_neg hba, Int.max_eq_left (by omega)]
      have hrun : (Builtin.max2 (.int .i64 a) (.int .i64 b)).run P w = .ok (.int .i64 (max a b)) w := by
        have e : Builtin.max2 (.int .i64 a) (.int .i64 b) = pure (.int .i64 (if b > a then b else a)) := rfl
        rw [e, hmx]
        rfl
      simp [ho, resolve, invoke, builtin, h1, h2, Builtin.max_, hrun]
    · rcases Int.le_total a b with h | h
      · rw [Int.max_eq_right h]; exact k2
      · rw [Int.max_eq_left h]; exact k1
/-- Structs of two numbers. -/
theorem AOp.eqlP {T yT : TypeId} {x y : Operand} {a b c d : Int} (ho : o.op = .binOp .eql T x y yT) (hd : dstOk o.dst n = true) (hx : s.ev x = some (.agg [.t (.leaf (.int .i64 a)), .t (.leaf (.int .i64 b))])) (hy : s.ev y = some (.agg [.t (.leaf (.int .i64 c)), .t (.leaf (.int .i64 d))]))
    (hg : P.eqGuardType P.depth T = false) (hq : ∀ (a b c d : Int) (w : World), (Op.equalIn Op.maxDepth T (.agg #[.int .i64 a, .int .i64 b]) (.agg #[.int .i64 c, .int .i64 d])).run P w = .ok (decide (a = c) && decide (b = d)) w) :
    AOp P C n o s (s.putO o.dst (.t (.leaf (.bool (decide (a = c) && decide (b = d)))))) :=
  AOp.quiet (dstOk_lt hd) fun m ac w h => by
    obtain ⟨vs, h1, h2⟩ := h.eval hx
    obtain ⟨us, k1, k2⟩ := h.eval hy
    obtain ⟨v0, v1, rfl⟩ : ∃ v0 v1, vs = [v0, v1] := by
      have := h2.length
      match vs, this with
      | [v0, v1], _ => exact ⟨v0, v1, rfl⟩
    obtain ⟨u0, u1, rfl⟩ : ∃ v0 v1, us = [v0, v1] := by
      have := k2.length
      match us, this with
      | [v0, v1], _ => exact ⟨v0, v1, rfl⟩
    obtain ⟨rfl, -⟩ := RepM.leaf_eq h2.1
    obtain ⟨rfl, -⟩ := RepM.leaf_eq h2.2.1
    obtain ⟨rfl, -⟩ := RepM.leaf_eq k2.1
    obtain ⟨rfl, -⟩ := RepM.leaf_eq k2.2.1
    refine ⟨.bool (decide (a = c) && decide (b = d)), ?_, RepM.leaf trivial⟩
    unfold execOp
    simp [ho, h1, k1, eqGuard, hg, binOp, Op.equal, hq]
theorem AOp.neqP {T yT : TypeId} {x y : Operand} {a b c d : Int} (ho : o.op = .binOp .neq T x y yT) (hd : dstOk o.dst n = true) (hx : s.ev x = some (.agg [.t (.leaf (.int .i64 a)), .t (.leaf (.int .i64 b))])) (hy : s.ev y = some (.agg [.t (.leaf (.int .i64 c)), .t (.leaf (.int .i64 d))]))
    (hg : P.eqGuardType P.depth T = false) (hq : ∀ (a b c d : Int) (w : World), (Op.equalIn Op.maxDepth T (.agg #[.int .i64 a, .int .i64 b]) (.agg #[.int .i64 c, .int .i64 d])).run P w = .ok (decide (a = c) && decide (b = d)) w) :
    AOp P C n o s (s.putO o.dst (.t (.leaf (.bool (!(decide (a = c) && decide (b = d))))))) :=
  AOp.quiet (dstOk_lt hd) fun m ac w h => by
    obtain ⟨vs, h1, h2⟩ := h.eval hx
    obtain ⟨us, k1, k2⟩ := h.eval hy
    obtain ⟨v0, v1, rfl⟩ : ∃ v0 v1, vs = [v0, v1] := by
      have := h2.length
      match vs, this with
      | [v0, v1], _ => exact ⟨v0, v1, rfl⟩
    obtain ⟨u0, u1, rfl⟩ : ∃ v0 v1, us = [v0, v1] := by
      have := k2.length
      match us, this with
      | [v0, v1], _ => exact ⟨v0, v1, rfl⟩
    obtain ⟨rfl, -⟩ := RepM.leaf_eq h2.1
    obtain ⟨rfl, -⟩ := RepM.leaf_eq h2.2.1
    obtain ⟨rfl, -⟩ := RepM.leaf_eq k2.1
    obtain ⟨rfl, -⟩ := RepM.leaf_eq k2.2.1
    refine ⟨.bool (!(decide (a = c) && decide (b = d))), ?_, RepM.leaf trivial⟩
    unfold execOp
    simp [ho, h1, k1, eqGuard, hg, binOp, Op.equal, hq]
end
end Go.Proofs.YtnakkelglbcecaaGreat

namespace Go.Proofs.YtnakkelglbcecaaGreat
open Go.RowKit Go.Proofs
theorem run_eqI (a b : Int) (d : Nat) (w : World) : (Op.equalIn (d + 1) 3 (.int .i64 a) (.int .i64 b)).run Tryz.prog w = .ok (a == b) w := by
  unfold Op.equalIn
  simp [run_underlying Tryz.underlying3]
theorem stood33 : Tryz.prog.stoodInHeld 33 = false := by kernel_rfl
theorem eqg33 : Tryz.prog.eqGuardType Tryz.prog.depth 33 = false := by kernel_rfl
theorem eqr33 (a b c d : Int) (w : World) : (Op.equalIn Op.maxDepth 33 (.agg #[.int .i64 a, .int .i64 b]) (.agg #[.int .i64 c, .int .i64 d])).run Tryz.prog w = .ok (decide (a = c) && decide (b = d)) w := by
  show (Op.equalIn (9998 + 1 + 1) 33 _ _).run Tryz.prog w = _
  rw [Op.equalIn]
  have h3 := run_isAgg sh3
  have h4 := run_sizeOf' sh3
  simp [run_underlying Tryz.underlying33, stood33, part, h3, h4, run_eqI]
  by_cases h1 : a = c <;> by_cases h2 : b = d <;> simp [h1, h2]
end Go.Proofs.YtnakkelglbcecaaGreat

namespace Go.Proofs.YtnakkelglbcecaaGreat
set_option linter.unusedSimpArgs false
set_option linter.unusedVariables false
open Go.RowKit Go.WalkArith Go.IntWalk Go.WideShapes

instance : Inhabited ByteArray := ⟨⟨#[]⟩⟩
def atD {α : Type} [Inhabited α] (l : List α) (k : Nat) : α := (l[k]?).getD default
theorem atD_eq {α : Type} [Inhabited α] {l : List α} {k : Nat} (h : k < l.length) : atD l k = l[k] := by simp [atD, h]
theorem strTrs_at {l : List ByteArray} {k : Nat} (h : k < l.length) : (strTrs l)[k]? = some [.leaf (.string (atD l k))] := by rw [atD_eq h]; exact strTrs_cs h
theorem intTrs_at {l : List Int} {k : Nat} (h : k < l.length) : (intTrs l)[k]? = some [.leaf (.int .i64 (atD l k))] := by rw [atD_eq h]; exact intTrs_cs h
theorem byteTrs_at {l : List UInt8} {k : Nat} (h : k < l.length) : (byteTrs l)[k]? = some [.leaf (.int .u8 ((atD l k).toNat : Int))] := by rw [atD_eq h]; exact byteTrs_cs h
theorem trs0 : True := trivial
theorem room_le {a b c : Nat} (h : a + b ≤ 68719476736) (hc : c ≤ 2048) : (a + b) * c ≤ 140737488355328 := by
  have := Nat.mul_le_mul h hc
  omega
theorem room_le0 {a c : Nat} (h : a ≤ 68719476736) (hc : c ≤ 2048) : a * c ≤ 140737488355328 := by
  have := Nat.mul_le_mul h hc
  omega
theorem strTrs_part (l : List ByteArray) (a b : Nat) : ((strTrs l).take b).drop a = strTrs ((l.take b).drop a) := by simp [strTrs, List.map_drop, List.map_take]
theorem intTrs_part (l : List Int) (a b : Nat) : ((intTrs l).take b).drop a = intTrs ((l.take b).drop a) := by simp [intTrs, List.map_drop, List.map_take]
theorem byteTrs_part (l : List UInt8) (a b : Nat) : ((byteTrs l).take b).drop a = byteTrs ((l.take b).drop a) := by simp [byteTrs, List.map_drop, List.map_take]
theorem AOp.congrP {P : Program} {C : Ctx} {n : Nat} {s : AS} {o : Oper} {sz : Nat} {es es' : List (List Tr)} (h : AOp P C n o s (s.putO o.dst (.t (.row sz es)))) (e : es = es') : AOp P C n o s (s.putO o.dst (.t (.row sz es'))) := e ▸ h
theorem lowOf_tmp {s : AS} {x : Operand} {y : Int} (h : s.ev x = some (.t (.leaf (.int .i64 y)))) : lowOf s (some x) = some y := by simp [lowOf, h]
theorem highOf_tmp {s : AS} {x : Operand} {y : Int} {len : Nat} (h : s.ev x = some (.t (.leaf (.int .i64 y)))) : highOf s len (some x) = some y := by simp [highOf, h]
theorem nat_lt_of2 {a b : Nat} (h : decide ((a : Int) < (b : Int)) = true) : a < b := nat_lt_of h
theorem nat_ge_of2 {a b : Nat} (h : decide ((a : Int) < (b : Int)) = false) : b ≤ a := nat_ge_of h
theorem nat_lt_of3 {a : Nat} {b : Int} (h : decide ((a : Int) < b) = true) : a < b.toNat := by have := of_decide_eq_true h; omega
theorem nat_ge_of3 {a : Nat} {b : Int} (h : decide ((a : Int) < b) = false) : b.toNat ≤ a := by have := of_decide_eq_false h; omega
/-- Box by box, row by row: what is handed over. -/
def PartBoxes (s : Sto) (fb0 fr0 : List Nat) (pre : Sto) : List Nat → List (Option PBox) → Prop
  | [], [] => True
  | k :: fb, some x :: bs => (∃ y, s.boxes[k]? = some (some y) ∧ y.ty = x.ty ∧ LeL y.cells (renL fb0 fr0 x.cells) ∧ okInL pre x.cells = true) ∧ PartBoxes s fb0 fr0 pre fb bs
  | _, _ => False
def PartRows (s : Sto) : List Nat → List PRow → Prop
  | [], [] => True
  | r :: fr, row :: rs => s.rows[r]? = some row ∧ PartRows s fr rs
  | _, _ => False
theorem PartBoxes.len {s pre : Sto} {fb0 fr0 : List Nat} : ∀ {fb : List Nat} {bs : List (Option PBox)}, PartBoxes s fb0 fr0 pre fb bs → fb.length = bs.length
  | [], [], _ => rfl
  | _ :: _, some _ :: _, h => by simp [PartBoxes.len h.2]
  | _ :: _, none :: _, h => h.elim
  | [], _ :: _, h => h.elim
  | _ :: _, [], h => h.elim
theorem PartBoxes.get {s pre : Sto} {fb0 fr0 : List Nat} : ∀ {fb : List Nat} {bs : List (Option PBox)}, PartBoxes s fb0 fr0 pre fb bs → ∀ k, k < bs.length → ∃ x, bs[k]? = some (some x) ∧ ∃ y, s.boxes[fb.getD k 0]? = some (some y) ∧ y.ty = x.ty ∧ LeL y.cells (renL fb0 fr0 x.cells) ∧ okInL pre x.cells = true
  | [], [], _, k, h => by simp at h
  | _ :: _, some x :: _, h, 0, _ => ⟨x, rfl, h.1⟩
  | _ :: _, some _ :: _, h, k + 1, hk => by simpa using PartBoxes.get h.2 k (by simpa using hk)
  | _ :: _, none :: _, h, _, _ => h.elim
  | [], _ :: _, h, _, _ => h.elim
  | _ :: _, [], h, _, _ => h.elim
theorem PartRows.len {s : Sto} : ∀ {fr : List Nat} {rs : List PRow}, PartRows s fr rs → fr.length = rs.length
  | [], [], _ => rfl
  | _ :: _, _ :: _, h => by simp [PartRows.len h.2]
  | [], _ :: _, h => h.elim
  | _ :: _, [], h => h.elim
theorem PartRows.get {s : Sto} : ∀ {fr : List Nat} {rs : List PRow}, PartRows s fr rs → ∀ k row, rs[k]? = some row → s.rows[fr.getD k 0]? = some row
  | [], [], _, k, _, h => by simp at h
  | _ :: _, _ :: _, h, 0, row, hr => by simp at hr; subst hr; exact h.1
  | _ :: _, _ :: _, h, k + 1, row, hr => by simpa using PartRows.get h.2 k row (by simpa using hr)
  | [], _ :: _, h, _, _, _ => h.elim
  | _ :: _, [], h, _, _, _ => h.elim
theorem Part0.of {s pre : Sto} {fb fr : List Nat} (hb : PartBoxes s fb fr pre fb pre.boxes) (hr : PartRows s fr pre.rows) (n1 : fb.Nodup) (n2 : fr.Nodup) : Part0 s pre fb fr where
  fbl := hb.len
  frl := hr.len
  fbn := n1
  frn := n2
  all := fun k hk => by
    obtain ⟨x, hx, -⟩ := hb.get k hk
    exact ⟨x, hx⟩
  box := fun k x hx => by
    obtain ⟨x', hx', h⟩ := hb.get k (List.getElem?_eq_some_iff.1 hx).1
    rw [hx] at hx'
    cases hx'
    exact h
  row := hr.get
section
variable {P : Program} {C : Ctx} {n : Nat} {s : AS} {o : Oper}
theorem AOp.callVPE {y : Operand} {f : FuncId} {fn : Func} {xs : List Operand} {ts : Array TypeId} {ps cs qs : List PV} {res : PV} {pre st' S : Sto} (fb fr : List Nat) (ho : o.op = .call { callee := .value y, args := ⟨xs⟩, argTypes := ts }) (hd : dstOk o.dst n = true) (hy : s.ev y = some (.fn f cs)) (hf : P.funcs[f]? = some fn) (hnm : (fn.name == "runtime.NumGoroutine") = false) (hb : fn.body.isNone = false)
    (hx : xs.map s.ev = ps.map some) (hS : s.st = S) (hp : Part0 S pre fb fr) (hle : LeL (ps ++ cs) (renL fb fr qs)) (hok : okInL pre qs = true) (hbl : st'.boxes.length = pre.boxes.length) (hrl : st'.rows.length = pre.rows.length) (hc : ACalls P f qs pre (fun r t => r = res ∧ t = st')) :
    AOp P C n o s ((⟨s.env, S.over st' fb fr⟩ : AS).putO o.dst (PV.ren fb fr res)) := by
  subst hS
  exact AOp.enterP fb fr hd (fun m a w h => by
    obtain ⟨vs, h1, h2⟩ := h.eval hy
    refine ⟨xs.map a.eval ++ vs, ?_, RVL.append (evL h hx) h2⟩
    have hcf := run_callFunc_body (P := P) hf hnm hb
    unfold execOp
    simp only [ho]
    simp [resolve, invoke, Deferred.ofValue, h1, hcf]) hp hle hok hbl hrl hc
theorem AL.skipP {ops : Array Oper} {rest : List Oper} {Q : Exit → AS → Prop} {j d : Nat} {b c e : Bool} (hg : o.guard = some (j, c)) (hj : (ops[j]?).bind (·.dst) = some d) (hb : s.lk d = some (.t (.leaf (.bool b)))) (hv : b = e) (hne : (e == c) = false) (hd : dstOk o.dst n = true) (h : AL P C n ops rest Q (s.putO o.dst (.tup []))) : AL P C n ops (o :: rest) Q s := fun m a w hr =>
  wpList_step fun K hK => by
    subst hv
    rw [if_neg (by simpa [Region.wanted, hg, hr.yielded hj hb] using hne)]
    exact hK _ _ (h m _ w (hr.put (dstOk_lt hd) ⟨[], rfl, trivial⟩))
theorem AL.skipU {ops : Array Oper} {rest : List Oper} {Q : Exit → AS → Prop} {j d : Nat} {c : Bool} (hg : o.guard = some (j, c)) (hj : (ops[j]?).bind (·.dst) = some d) (hb : s.lk d = some (.tup [])) (hd : dstOk o.dst n = true) (h : AL P C n ops rest Q (s.putO o.dst (.tup []))) : AL P C n ops (o :: rest) Q s := fun m a w hr =>
  wpList_step fun K hK => by
    have hy : yielded ops a.tmps j = none := by
      obtain ⟨v, hv, vs, rfl, hl⟩ := hr.env d _ hb
      simp [Go.yielded, hj, hv]
    rw [if_neg (by simp [Region.wanted, hg, hy])]
    exact hK _ _ (h m _ w (hr.put (dstOk_lt hd) ⟨[], rfl, trivial⟩))
theorem AOp.buildSliceE {T E sz by_ len : Nat} {parts : Array (Nat × Operand)} {ps : List (Nat × List PV)} {zs cs : List PV} {es es' : List (List Tr)} (ho : o.op = .buildSlice T len parts) (hd : dstOk o.dst n = true) (hT : elemOf? P T = some (E, sz, by_)) (hz : zerosOf P E = some zs) (hp : partsP s parts.toList = some ps)
    (hc : fillP (fun i => some (i * sz, sz)) (List.replicate len zs).flatten ps = some cs) (hle : LeL cs (es.flatten.map PV.t)) (hel : es.length = len) (hes : ∀ e ∈ es, e.length = sz) (hsz : 0 < sz) (hzl : zs.length = sz) (hsm : len * sz ≤ 16777216) (he : es = es') :
    AOp P C n o s (s.putO o.dst (.t (.row sz es'))) := he ▸ AOp.buildSliceQ ho hd hT hz hp hc hle hel hes hsz hzl hsm
theorem AOp.buildSliceA {T E sz by_ len : Nat} {parts : Array (Nat × Operand)} {ps : List (Nat × List PV)} {zs cs : List PV} {es es' : List (List Tr)} (ho : o.op = .buildSlice T len parts) (hd : dstOk o.dst n = true) (hT : elemOf? P T = some (E, sz, by_)) (hz : zerosOf P E = some zs) (hp : partsP s parts.toList = some ps)
    (hc : fillP (fun i => some (i * sz, sz)) (List.replicate len zs).flatten ps = some cs) (hle : LeL cs (es.flatten.map PV.t)) (hel : es.length = len) (hes : ∀ e ∈ es, e.length = sz) (hsz : 0 < sz) (hzl : zs.length = sz) (hsm : len * sz ≤ 16777216) (he : es = es') :
    AOp P C n o s ((⟨s.env, s.st.addRow ⟨E, sz, es', false⟩⟩ : AS).putO o.dst (.acc sz es' s.st.rows.length)) := he ▸ AOp.buildSlice ho hd hT hz hp hc hle hel hes hsz hzl hsm
end
theorem keeps_all {C : Ctx} {bs : List (Option PBox)} {rs : List PRow} {S : Sto} (h : C.st = ⟨bs, rs⟩) (hb : ∀ k, k < bs.length → ∃ y, S.boxes[k]? = some (some y)) (hl : rs.length ≤ S.rows.length) : Keeps0 C.st S := by
  rw [h]
  exact ⟨fun k x hx => hb k (List.getElem?_eq_some_iff.1 hx).1, fun k row hk => ⟨S.rows[k]'(Nat.lt_of_lt_of_le (List.getElem?_eq_some_iff.1 hk).1 hl), List.getElem?_eq_getElem _⟩⟩
theorem boxes1 {S : Sto} {x : PBox} {bs : List (Option PBox)} (h : S.boxes = some x :: bs) : ∀ k, k < 1 → ∃ y, S.boxes[k]? = some (some y) := fun k hk => by
  obtain rfl : k = 0 := by omega
  exact ⟨x, by rw [h]; rfl⟩
theorem boxes2 {S : Sto} {x y : PBox} {bs : List (Option PBox)} (h : S.boxes = some x :: some y :: bs) : ∀ k, k < 2 → ∃ y, S.boxes[k]? = some (some y) := fun k hk => by
  rcases (by omega : k = 0 ∨ k = 1) with rfl | rfl
  · exact ⟨x, by rw [h]; rfl⟩
  · exact ⟨y, by rw [h]; rfl⟩
theorem boxes3 {S : Sto} {x y z : PBox} {bs : List (Option PBox)} (h : S.boxes = some x :: some y :: some z :: bs) : ∀ k, k < 3 → ∃ y, S.boxes[k]? = some (some y) := fun k hk => by
  rcases (by omega : k = 0 ∨ k = 1 ∨ k = 2) with rfl | rfl | rfl
  · exact ⟨x, by rw [h]; rfl⟩
  · exact ⟨y, by rw [h]; rfl⟩
  · exact ⟨z, by rw [h]; rfl⟩
theorem boxes0 {S : Sto} : ∀ k, k < 0 → ∃ y, S.boxes[k]? = some (some y) := fun k hk => absurd hk (Nat.not_lt_zero _)
theorem keeps_rowsN {C : Ctx} {rs : List PRow} {S : Sto} (h : C.st = ⟨[], rs⟩) (hl : rs.length ≤ S.rows.length) : Keeps0 C.st S := by
  rw [h]
  exact ⟨fun k x hx => by simp at hx, fun k row hk => ⟨S.rows[k]'(Nat.lt_of_lt_of_le (List.getElem?_eq_some_iff.1 hk).1 hl), List.getElem?_eq_getElem _⟩⟩

instance : Inhabited GInstanceRef := ⟨.mk 0 0⟩
theorem GInstanceRef.trs_part (l : List GInstanceRef) (a b : Nat) : ((GInstanceRef.trs l).take b).drop a = GInstanceRef.trs ((l.take b).drop a) := by rw [GInstanceRef.trs_map, GInstanceRef.trs_map, List.map_drop, List.map_take]
theorem GInstanceRef.trs_at {l : List GInstanceRef} {k : Nat} (h : k < l.length) : (GInstanceRef.trs l)[k]? = some (atD l k).cs := by rw [atD_eq h]; exact GInstanceRef.trs_cs h
instance : Inhabited GSExpr := ⟨.mk ⟨#[]⟩ []⟩
theorem GSExpr.trs_part (l : List GSExpr) (a b : Nat) : ((GSExpr.trs l).take b).drop a = GSExpr.trs ((l.take b).drop a) := by rw [GSExpr.trs_map, GSExpr.trs_map, List.map_drop, List.map_take]
theorem GSExpr.trs_at {l : List GSExpr} {k : Nat} (h : k < l.length) : (GSExpr.trs l)[k]? = some (atD l k).cs := by rw [atD_eq h]; exact GSExpr.trs_cs h
instance : Inhabited GType := ⟨.mk 0 ⟨#[]⟩ []⟩
theorem GType.trs_part (l : List GType) (a b : Nat) : ((GType.trs l).take b).drop a = GType.trs ((l.take b).drop a) := by rw [GType.trs_map, GType.trs_map, List.map_drop, List.map_take]
theorem GType.trs_at {l : List GType} {k : Nat} (h : k < l.length) : (GType.trs l)[k]? = some (atD l k).cs := by rw [atD_eq h]; exact GType.trs_cs h
instance : Inhabited GBinding := ⟨.mk ⟨#[]⟩ default⟩
theorem GBinding.trs_part (l : List GBinding) (a b : Nat) : ((GBinding.trs l).take b).drop a = GBinding.trs ((l.take b).drop a) := by rw [GBinding.trs_map, GBinding.trs_map, List.map_drop, List.map_take]
theorem GBinding.trs_at {l : List GBinding} {k : Nat} (h : k < l.length) : (GBinding.trs l)[k]? = some (atD l k).cs := by rw [atD_eq h]; exact GBinding.trs_cs h
instance : Inhabited GExpr := ⟨.mk 0 ⟨#[]⟩ ⟨#[]⟩ 0 default [] []⟩
theorem GExpr.trs_part (l : List GExpr) (a b : Nat) : ((GExpr.trs l).take b).drop a = GExpr.trs ((l.take b).drop a) := by rw [GExpr.trs_map, GExpr.trs_map, List.map_drop, List.map_take]
theorem GExpr.trs_at {l : List GExpr} {k : Nat} (h : k < l.length) : (GExpr.trs l)[k]? = some (atD l k).cs := by rw [atD_eq h]; exact GExpr.trs_cs h
instance : Inhabited GArm := ⟨.mk ⟨#[]⟩ [] default⟩
theorem GArm.trs_part (l : List GArm) (a b : Nat) : ((GArm.trs l).take b).drop a = GArm.trs ((l.take b).drop a) := by rw [GArm.trs_map, GArm.trs_map, List.map_drop, List.map_take]
theorem GArm.trs_at {l : List GArm} {k : Nat} (h : k < l.length) : (GArm.trs l)[k]? = some (atD l k).cs := by rw [atD_eq h]; exact GArm.trs_cs h
instance : Inhabited GSignature := ⟨.mk ⟨#[]⟩ [] default false [] default⟩
theorem GSignature.trs_part (l : List GSignature) (a b : Nat) : ((GSignature.trs l).take b).drop a = GSignature.trs ((l.take b).drop a) := by rw [GSignature.trs_map, GSignature.trs_map, List.map_drop, List.map_take]
theorem GSignature.trs_at {l : List GSignature} {k : Nat} (h : k < l.length) : (GSignature.trs l)[k]? = some (atD l k).cs := by rw [atD_eq h]; exact GSignature.trs_cs h
instance : Inhabited GTrait := ⟨.mk ⟨#[]⟩ [] false false []⟩
theorem GTrait.trs_part (l : List GTrait) (a b : Nat) : ((GTrait.trs l).take b).drop a = GTrait.trs ((l.take b).drop a) := by rw [GTrait.trs_map, GTrait.trs_map, List.map_drop, List.map_take]
theorem GTrait.trs_at {l : List GTrait} {k : Nat} (h : k < l.length) : (GTrait.trs l)[k]? = some (atD l k).cs := by rw [atD_eq h]; exact GTrait.trs_cs h
instance : Inhabited GConstructor := ⟨.mk ⟨#[]⟩ []⟩
theorem GConstructor.trs_part (l : List GConstructor) (a b : Nat) : ((GConstructor.trs l).take b).drop a = GConstructor.trs ((l.take b).drop a) := by rw [GConstructor.trs_map, GConstructor.trs_map, List.map_drop, List.map_take]
theorem GConstructor.trs_at {l : List GConstructor} {k : Nat} (h : k < l.length) : (GConstructor.trs l)[k]? = some (atD l k).cs := by rw [atD_eq h]; exact GConstructor.trs_cs h
instance : Inhabited GDataType := ⟨.mk ⟨#[]⟩ [] []⟩
theorem GDataType.trs_part (l : List GDataType) (a b : Nat) : ((GDataType.trs l).take b).drop a = GDataType.trs ((l.take b).drop a) := by rw [GDataType.trs_map, GDataType.trs_map, List.map_drop, List.map_take]
theorem GDataType.trs_at {l : List GDataType} {k : Nat} (h : k < l.length) : (GDataType.trs l)[k]? = some (atD l k).cs := by rw [atD_eq h]; exact GDataType.trs_cs h
instance : Inhabited GBound := ⟨.mk ⟨#[]⟩ default⟩
theorem GBound.trs_part (l : List GBound) (a b : Nat) : ((GBound.trs l).take b).drop a = GBound.trs ((l.take b).drop a) := by rw [GBound.trs_map, GBound.trs_map, List.map_drop, List.map_take]
theorem GBound.trs_at {l : List GBound} {k : Nat} (h : k < l.length) : (GBound.trs l)[k]? = some (atD l k).cs := by rw [atD_eq h]; exact GBound.trs_cs h
instance : Inhabited GMethod := ⟨.mk ⟨#[]⟩ [] default⟩
theorem GMethod.trs_part (l : List GMethod) (a b : Nat) : ((GMethod.trs l).take b).drop a = GMethod.trs ((l.take b).drop a) := by rw [GMethod.trs_map, GMethod.trs_map, List.map_drop, List.map_take]
theorem GMethod.trs_at {l : List GMethod} {k : Nat} (h : k < l.length) : (GMethod.trs l)[k]? = some (atD l k).cs := by rw [atD_eq h]; exact GMethod.trs_cs h
instance : Inhabited GInstance := ⟨.mk ⟨#[]⟩ [] default [] false false default []⟩
theorem GInstance.trs_part (l : List GInstance) (a b : Nat) : ((GInstance.trs l).take b).drop a = GInstance.trs ((l.take b).drop a) := by rw [GInstance.trs_map, GInstance.trs_map, List.map_drop, List.map_take]
theorem GInstance.trs_at {l : List GInstance} {k : Nat} (h : k < l.length) : (GInstance.trs l)[k]? = some (atD l k).cs := by rw [atD_eq h]; exact GInstance.trs_cs h
instance : Inhabited GParam := ⟨.mk ⟨#[]⟩ default⟩
theorem GParam.trs_part (l : List GParam) (a b : Nat) : ((GParam.trs l).take b).drop a = GParam.trs ((l.take b).drop a) := by rw [GParam.trs_map, GParam.trs_map, List.map_drop, List.map_take]
theorem GParam.trs_at {l : List GParam} {k : Nat} (h : k < l.length) : (GParam.trs l)[k]? = some (atD l k).cs := by rw [atD_eq h]; exact GParam.trs_cs h
instance : Inhabited GFunction := ⟨.mk ⟨#[]⟩ [] [] [] default default⟩
theorem GFunction.trs_part (l : List GFunction) (a b : Nat) : ((GFunction.trs l).take b).drop a = GFunction.trs ((l.take b).drop a) := by rw [GFunction.trs_map, GFunction.trs_map, List.map_drop, List.map_take]
theorem GFunction.trs_at {l : List GFunction} {k : Nat} (h : k < l.length) : (GFunction.trs l)[k]? = some (atD l k).cs := by rw [atD_eq h]; exact GFunction.trs_cs h
instance : Inhabited GPackage := ⟨.mk ⟨#[]⟩ [] [] [] [] []⟩
theorem GPackage.trs_part (l : List GPackage) (a b : Nat) : ((GPackage.trs l).take b).drop a = GPackage.trs ((l.take b).drop a) := by rw [GPackage.trs_map, GPackage.trs_map, List.map_drop, List.map_take]
theorem GPackage.trs_at {l : List GPackage} {k : Nat} (h : k < l.length) : (GPackage.trs l)[k]? = some (atD l k).cs := by rw [atD_eq h]; exact GPackage.trs_cs h
instance : Inhabited GProgram := ⟨.mk []⟩
theorem GProgram.trs_part (l : List GProgram) (a b : Nat) : ((GProgram.trs l).take b).drop a = GProgram.trs ((l.take b).drop a) := by rw [GProgram.trs_map, GProgram.trs_map, List.map_drop, List.map_take]
theorem GProgram.trs_at {l : List GProgram} {k : Nat} (h : k < l.length) : (GProgram.trs l)[k]? = some (atD l k).cs := by rw [atD_eq h]; exact GProgram.trs_cs h
instance : Inhabited GEvidence := ⟨.mk 0 0 default []⟩
theorem GEvidence.trs_part (l : List GEvidence) (a b : Nat) : ((GEvidence.trs l).take b).drop a = GEvidence.trs ((l.take b).drop a) := by rw [GEvidence.trs_map, GEvidence.trs_map, List.map_drop, List.map_take]
theorem GEvidence.trs_at {l : List GEvidence} {k : Nat} (h : k < l.length) : (GEvidence.trs l)[k]? = some (atD l k).cs := by rw [atD_eq h]; exact GEvidence.trs_cs h
instance : Inhabited GAssumption := ⟨.mk default 0 []⟩
theorem GAssumption.trs_part (l : List GAssumption) (a b : Nat) : ((GAssumption.trs l).take b).drop a = GAssumption.trs ((l.take b).drop a) := by rw [GAssumption.trs_map, GAssumption.trs_map, List.map_drop, List.map_take]
theorem GAssumption.trs_at {l : List GAssumption} {k : Nat} (h : k < l.length) : (GAssumption.trs l)[k]? = some (atD l k).cs := by rw [atD_eq h]; exact GAssumption.trs_cs h
instance : Inhabited GCache := ⟨.mk [] [] []⟩
theorem GCache.trs_part (l : List GCache) (a b : Nat) : ((GCache.trs l).take b).drop a = GCache.trs ((l.take b).drop a) := by rw [GCache.trs_map, GCache.trs_map, List.map_drop, List.map_take]
theorem GCache.trs_at {l : List GCache} {k : Nat} (h : k < l.length) : (GCache.trs l)[k]? = some (atD l k).cs := by rw [atD_eq h]; exact GCache.trs_cs h
end Go.Proofs.YtnakkelglbcecaaGreat

namespace Go.Proofs.YtnakkelglbcecaaGreat
open Go.RowKit Go.Proofs
set_option linter.unusedSimpArgs false
set_option linter.unusedVariables false

noncomputable def sl19Steps_F1 (fu : Nat) (r_sl19Steps : GProgram → ByteArray → ByteArray → Int → Option ((List Int) × Bool)) (pw : GProgram) (pfrom : ByteArray) (pto : ByteArray) (pleft : Int) : Nat → Unit → Option (LR Unit ((List Int) × Bool)) :=
 fun i3 _ => sw (decide ((pleft : Int) > 0))
 (bd (r_sl19Steps pw (atD ((oTrait (GProgram.traitAt pw pfrom)).gSupertraits) i3) pto (wrap64 (pleft - 1))) (fun (x9, x10) =>
 sw (x10)
 (gd ((([((i3 : Nat) : Int)] : List Int)).length + (x9).length ≤ 68719476736)
 (some (.ret ((([((i3 : Nat) : Int)] : List Int) ++ x9), true))))
 (some (.next ()))))
 (some (.brk ()))
noncomputable def sl19Steps_R1 (fu : Nat) (r_sl19Steps : GProgram → ByteArray → ByteArray → Int → Option ((List Int) × Bool)) (pw : GProgram) (pfrom : ByteArray) (pto : ByteArray) (pleft : Int) : Option (((List Int) × Bool) ⊕ Unit) :=
 loopN (sl19Steps_F1 fu r_sl19Steps pw pfrom pto pleft) (((oTrait (GProgram.traitAt pw pfrom)).gSupertraits).length - 0) 0 ()
noncomputable def sl19Steps_G (fu : Nat) (r_sl19Steps : GProgram → ByteArray → ByteArray → Int → Option ((List Int) × Bool)) (pw : GProgram) (pfrom : ByteArray) (pto : ByteArray) (pleft : Int) : Option ((List Int) × Bool) :=
 sw (decide (pfrom = pto))
 (some (([]), true))
 (so (sl19Steps_R1 fu r_sl19Steps pw pfrom pto pleft) (fun _ =>
 some (([]), false)))
set_option maxRecDepth 100000 in
set_option maxHeartbeats 4000000 in
theorem sl19Steps_step (r_sl19Steps : GProgram → ByteArray → ByteArray → Int → Option ((List Int) × Bool)) (fu : Nat) (h_sl19Steps : ∀ (pw : GProgram) (pfrom : ByteArray) (pto : ByteArray) (pleft : Int) (r : (List Int) × Bool), r_sl19Steps pw pfrom pto pleft = some r → AFun Tryz.prog 95 [(GProgram.pv pw), .t (.leaf (.string (pfrom))), .t (.leaf (.string (pto))), .t (.leaf (.int .i64 (pleft)))] (.tup [.t (.row 1 (intTrs (r.1))), .t (.leaf (.bool (r.2)))] : PV)) (pw : GProgram) (pfrom : ByteArray) (pto : ByteArray) (pleft : Int) (r : (List Int) × Bool) (H : sl19Steps_G fu r_sl19Steps pw pfrom pto pleft = some r) : AFun Tryz.prog 95 [(GProgram.pv pw), .t (.leaf (.string (pfrom))), .t (.leaf (.string (pto))), .t (.leaf (.int .i64 (pleft)))] (.tup [.t (.row 1 (intTrs (r.1))), .t (.leaf (.bool (r.2)))] : PV) := by
  refine ACalls.intro Tryz.func95 rfl (by first | decide | (simp; done) | (simp; decide)) ?_
  intro C hC
  refine AWP.seq ?_
  refine AWP.region_lit ?_
  refine AL.cons rfl (AOp.box (cs := [.t (.row 6 (GPackage.trs (pw.gPackages)))]) rfl rfl rfl rfl rfl) ?_
  refine AL.cons rfl (AOp.move (.inr rfl) rfl rfl) ?_
  refine AL.cons rfl (AOp.move (.inr rfl) rfl rfl) ?_
  refine AL.nil ?_
  refine AWP.seq ?_
  refine AWP.seq ?_
  refine AWP.region_lit ?_
  refine AL.cons rfl (AOp.move (.inl rfl) rfl rfl) ?_
  refine AL.cons rfl (AOp.move (.inl rfl) rfl rfl) ?_
  refine AL.cons rfl (AOp.eqlS rfl rfl rfl rfl) ?_
  refine AL.nil ?_
  refine AWP.cond rfl (fun h1 => ?_) (fun h1 => ?_)
  · skip
    refine AWP.seq ?_
    refine AWP.region_lit ?_
    refine AL.cons rfl (AOp.buildSliceA (es := []) (es' := intTrs ([])) (cs := []) rfl rfl el60 zr3 rfl rfl (by (repeat' (first | exact PV.Le.refl _ | exact LeL.nil | exact PV.Le.nil _ | exact PV.Le.acc _ _ _ | apply LeL.cons | apply PV.Le.agg | apply PV.Le.tup))) rfl (by simp) (by decide) rfl (by decide) rfl) ?_
    refine AL.cons rfl (AOp.move (.inr rfl) rfl rfl) ?_
    refine AL.cons rfl (AOp.move (.inr rfl) rfl rfl) ?_
    refine AL.nil ?_
    refine AWP.ret ?_
    have e2 : sl19Steps_G fu r_sl19Steps pw pfrom pto pleft = some (([]), true) := swT h1 (rfl)
    have hz : (([]), true) = r := Option.some.inj (e2.symm.trans H)
    subst hz
    exact Ends.mk (ps := [_, _]) (by first | exact .inr rfl | exact .inl rfl) ⟨rfl, rfl, trivial⟩ rfl (StLe.mk' (st' := ⟨[], []⟩) trivial rfl) (keeps_nil hC) (q := (.tup [.t (.row 1 (intTrs (([])))), .t (.leaf (.bool (true)))] : PV)) (by (repeat' (first | exact PV.Le.refl _ | exact LeL.nil | exact PV.Le.nil _ | exact PV.Le.acc _ _ _ | apply LeL.cons | apply PV.Le.agg | apply PV.Le.tup))) rfl ⟨rfl, rfl⟩
  · skip
    refine AWP.skip ?_
    refine AWP.seq ?_
    refine AWP.region_lit ?_
    refine AL.cons rfl (AOp.loadPtr (cs := [.t (.row 6 (GPackage.trs (pw.gPackages)))]) rfl rfl rfl rfl sh31 rfl rfl) ?_
    refine AL.cons rfl (AOp.move (.inl rfl) rfl rfl) ?_
    refine AL.cons rfl (AOp.callF (res := .tup [(GTrait.pv (oTrait (GProgram.traitAt pw pfrom))), .t (.leaf (.int .i64 (oInt (GProgram.traitAt pw pfrom)))), .t (.leaf (.bool (Option.isSome (GProgram.traitAt pw pfrom))))]) (ps := [_, _]) rfl rfl Tryz.func78 (by kernel_rfl) rfl rfl (by (repeat' (first | exact PV.Le.refl _ | exact LeL.nil | exact PV.Le.nil _ | exact PV.Le.acc _ _ _ | apply LeL.cons | apply PV.Le.agg | apply PV.Le.tup))) rfl rfl (trait_spec pw pfrom)) ?_
    refine AL.cons rfl (AOp.move (.inl rfl) rfl rfl) ?_
    refine AL.cons rfl (AOp.extract rfl rfl rfl rfl) ?_
    refine AL.cons rfl (AOp.extract rfl rfl rfl rfl) ?_
    refine AL.cons rfl (AOp.extract rfl rfl rfl rfl) ?_
    refine AL.cons rfl (AOp.alloc rfl rfl zr94) ?_
    refine AL.cons rfl (AOp.storePtr (cs := [.t (.leaf (.string ((oTrait (GProgram.traitAt pw pfrom)).gName))), .t (.row 1 (strTrs ((oTrait (GProgram.traitAt pw pfrom)).gSupertraits))), .t (.leaf (.bool ((oTrait (GProgram.traitAt pw pfrom)).gAuto))), .t (.leaf (.bool ((oTrait (GProgram.traitAt pw pfrom)).gAssoc))), .t (.row 16 (GSignature.trs ((oTrait (GProgram.traitAt pw pfrom)).gSignatures)))]) (ds := [.t (.leaf (.string ((oTrait (GProgram.traitAt pw pfrom)).gName))), .t (.row 1 (strTrs ((oTrait (GProgram.traitAt pw pfrom)).gSupertraits))), .t (.leaf (.bool ((oTrait (GProgram.traitAt pw pfrom)).gAuto))), .t (.leaf (.bool ((oTrait (GProgram.traitAt pw pfrom)).gAssoc))), .t (.row 16 (GSignature.trs ((oTrait (GProgram.traitAt pw pfrom)).gSignatures)))]) rfl rfl rfl rfl rfl rfl rfl sz94 (Nat.le_of_ble_eq_true rfl) rfl) ?_
    refine AL.cons rfl (AOp.move (.inr rfl) rfl rfl) ?_
    refine AL.cons rfl (AOp.move (.inr rfl) rfl rfl) ?_
    refine AL.nil ?_
    refine AWP.seq ?_
    refine AWP.seq ?_
    refine AWP.region_lit ?_
    refine AL.cons rfl (AOp.move (.inr rfl) rfl rfl) ?_
    refine AL.nil ?_
    refine AWP.cut (ι := Unit) (fun _ => sl19Steps_R1 fu r_sl19Steps pw pfrom pto pleft = some (.inr ())) (fun _ => ⟨[(8, .nil), (9, .t (.leaf (.bool (false))))], ⟨[some ⟨31, [.t (.row 6 (GPackage.trs (pw.gPackages)))]⟩, some ⟨94, [.t (.leaf (.string ((oTrait (GProgram.traitAt pw pfrom)).gName))), .t (.row 1 (strTrs ((oTrait (GProgram.traitAt pw pfrom)).gSupertraits))), .t (.leaf (.bool ((oTrait (GProgram.traitAt pw pfrom)).gAuto))), .t (.leaf (.bool ((oTrait (GProgram.traitAt pw pfrom)).gAssoc))), .t (.row 16 (GSignature.trs ((oTrait (GProgram.traitAt pw pfrom)).gSignatures)))]⟩], []⟩⟩) (by repeat' (first | exact qcEnds | exact ncAWP | exact ncRound | exact ncEx | apply qcThen | apply qcBlock | apply qcCut)) ?_ ?_
    · skip
      refine AWP.block ?_
      refine AWP.loopR (ι := Nat × Unit) (fun (i3, _) => sl19Steps_R1 fu r_sl19Steps pw pfrom pto pleft = loopN (sl19Steps_F1 fu r_sl19Steps pw pfrom pto pleft) (((oTrait (GProgram.traitAt pw pfrom)).gSupertraits).length - i3) i3 ()) (fun (i3, _) => ⟨[(2, .t (.leaf (.string (pto)))), (3, .t (.leaf (.int .i64 (pleft)))), (4, .ptr 0 0), (8, .nil), (9, .t (.leaf (.bool (false)))), (10, .ptr 1 0), (13, .t (.leaf (.int .i64 (((i3 : Nat) : Int)))))], ⟨[some ⟨31, [.t (.row 6 (GPackage.trs (pw.gPackages)))]⟩, some ⟨94, [.t (.leaf (.string ((oTrait (GProgram.traitAt pw pfrom)).gName))), .t (.row 1 (strTrs ((oTrait (GProgram.traitAt pw pfrom)).gSupertraits))), .t (.leaf (.bool ((oTrait (GProgram.traitAt pw pfrom)).gAuto))), .t (.leaf (.bool ((oTrait (GProgram.traitAt pw pfrom)).gAssoc))), .t (.row 16 (GSignature.trs ((oTrait (GProgram.traitAt pw pfrom)).gSignatures)))]⟩], []⟩⟩) (fun (i3, _) => ((oTrait (GProgram.traitAt pw pfrom)).gSupertraits).length - i3) (0, ()) ?_ ?_ ?_
      · exact rfl
      · skip
        exact Wk.mk (StLe.mk' ⟨⟨rfl, by (repeat' (first | exact PV.Le.refl _ | exact LeL.nil | exact PV.Le.nil _ | exact PV.Le.acc _ _ _ | apply LeL.cons | apply PV.Le.agg | apply PV.Le.tup)), rfl⟩, ⟨⟨rfl, by (repeat' (first | exact PV.Le.refl _ | exact LeL.nil | exact PV.Le.nil _ | exact PV.Le.acc _ _ _ | apply LeL.cons | apply PV.Le.agg | apply PV.Le.tup)), rfl⟩, trivial⟩⟩ rfl) (keeps_nil hC) ⟨⟨_, rfl, .refl _, rfl⟩, ⟨⟨_, rfl, .refl _, rfl⟩, ⟨⟨_, rfl, .refl _, rfl⟩, ⟨⟨_, rfl, .refl _, rfl⟩, ⟨⟨_, rfl, .refl _, rfl⟩, ⟨⟨_, rfl, .refl _, rfl⟩, ⟨⟨_, rfl, by (repeat' (first | exact PV.Le.refl _ | exact LeL.nil | exact PV.Le.nil _ | exact PV.Le.acc _ _ _ | apply LeL.cons | apply PV.Le.agg | apply PV.Le.tup)), rfl⟩, trivial⟩⟩⟩⟩⟩⟩⟩
      · rintro ⟨i3, ⟨⟩⟩ hJ4
        refine AWP.seq ?_
        refine AWP.seq ?_
        refine AWP.region_lit ?_
        refine AL.cons rfl (AOp.move (.inl rfl) rfl rfl) ?_
        refine AL.cons rfl (AOp.fieldPtr (k := 1) (d := 0) (e := 1) rfl rfl rfl fo94_1) ?_
        refine AL.cons rfl (AOp.loadPtr1 rfl rfl rfl rfl sh54 rfl) ?_
        refine AL.fact (lk_lenN 29 rfl rfl (strTrs_len _)) (fun hl5 => ?_)
        refine AL.cons rfl (AOp.lenN rfl rfl rfl rfl el54 (strTrs_len _)) ?_
        refine AL.cons rfl (AOp.lss rfl rfl rfl rfl) ?_
        refine AL.cons rfl (AOp.move (.inl rfl) rfl rfl) ?_
        refine AL.splitB 32 rfl (fun g6 => ?_) (fun g6 => ?_)
        · skip
          have g6l : i3 < ((oTrait (GProgram.traitAt pw pfrom)).gSupertraits).length := nat_lt_of2 g6
          have g6n := nat_lt_of g6
          refine AL.cons_gv rfl rfl rfl g6 (AOp.move (.inl rfl) rfl rfl) ?_
          refine AL.cons_gv rfl rfl rfl g6 (AOp.gtr rfl rfl rfl rfl) ?_
          refine AL.cons rfl (AOp.pickT rfl rfl rfl g6 rfl) ?_
          refine AL.nil ?_
          refine AWP.cond rfl (fun h7 => ?_) (fun h7 => ?_)
          · skip
            refine AWP.skip ?_
            refine AWP.seq ?_
            refine AWP.block ?_
            refine AWP.seq ?_
            rcases hq8 : r_sl19Steps pw (atD ((oTrait (GProgram.traitAt pw pfrom)).gSupertraits) i3) pto (wrap64 (pleft - 1)) with _ | ⟨x9, x10⟩
            · skip
              have e11 : (sl19Steps_F1 fu r_sl19Steps pw pfrom pto pleft) i3 () = none := swT h7 (bdN hq8)
              have e12 : sl19Steps_R1 fu r_sl19Steps pw pfrom pto pleft = none := loopN_non g6l hJ4 e11
              have e13 : sl19Steps_G fu r_sl19Steps pw pfrom pto pleft = none := swF h1 (soN e12)
              exact none_some H e13
            · skip
              refine AWP.drawnL ⟨_, _, fun _ _ => (⟨[some ⟨31, [.t (.row 6 (GPackage.trs (pw.gPackages)))]⟩, some ⟨94, [.t (.leaf (.string ((oTrait (GProgram.traitAt pw pfrom)).gName))), .t (.row 1 (strTrs ((oTrait (GProgram.traitAt pw pfrom)).gSupertraits))), .t (.leaf (.bool ((oTrait (GProgram.traitAt pw pfrom)).gAuto))), .t (.leaf (.bool ((oTrait (GProgram.traitAt pw pfrom)).gAssoc))), .t (.row 16 (GSignature.trs ((oTrait (GProgram.traitAt pw pfrom)).gSignatures)))]⟩], []⟩ : Sto), fun q' => ([some ((GProgram.pv pw)), some (.ptr 1 1), some (.t (.row 1 (strTrs ((oTrait (GProgram.traitAt pw pfrom)).gSupertraits)))), some (.t (.leaf (.int .i64 (((i3 : Nat) : Int))))), some (.eptr ([.leaf (.string (atD ((oTrait (GProgram.traitAt pw pfrom)).gSupertraits) i3))])), some (.t (.leaf (.string (atD ((oTrait (GProgram.traitAt pw pfrom)).gSupertraits) i3)))), some (.t (.leaf (.string (pto)))), some (.t (.leaf (.int .i64 (pleft)))), some (.t (.leaf (.int .i64 (wrap64 (pleft - 1))))), some (.tup [.t (.row 1 (intTrs (x9))), .t (.leaf (.bool (x10)))]), some (.tup [.t (.row 1 (intTrs (x9))), .t (.leaf (.bool (x10)))]), some (.t (.row 1 (intTrs (x9)))), some (.t (.leaf (.bool (x10)))), some (.t (.row 1 (intTrs (x9)))), some (.t (.leaf (.bool (x10))))] : List (Option PV)).getD q' none, fun q' => ([.q 0 0, .q 0 0, .q 0 0, .q 0 0, .q 0 0, .q 0 0, .q 0 0, .q 0 0, .q 0 0, .q 0 0, .q 0 0, .q 0 0, .q 0 0, .q 0 0, .q 0 0] : List DK).getD q' (.q 0 0), [], none, fun q' => ([[(4, none)], [(10, none)], [(40, some 1)], [(13, none)], [(41, some 2), (42, some 3)], [(43, some 4)], [(2, none)], [(3, none)], [(46, some 7)], [(47, some 8), (45, some 6), (44, some 5), (39, some 0)], [(48, some 9)], [(38, some 10)], [(38, some 10)], [(49, some 11)], [(50, some 12)]] : List (List (Nat × Option Nat))).getD q' []⟩ rfl mixed (by kernel_rfl) rfl rfl ⟨?_, ?_, ?_, ?_, ?_, ?_, ?_, ?_, ?_, ?_, ?_, ?_, ?_, ?_, ?_, trivial⟩ rfl ?_
              · refine .inl ⟨rfl, fun s' jj bb (h1 : 0 ≤ jj) (h2 : jj ≤ 0) hs hl => ?_⟩
                obtain rfl : jj = 0 := by omega
                exact ⟨_, rfl, AOp.loadPtr (cs := [.t (.row 6 (GPackage.trs (pw.gPackages)))]) rfl rfl (hl 4 none _ (.head _) rfl) (by rw [hs]; rfl) sh31 rfl rfl⟩
              · refine .inl ⟨rfl, fun s' jj bb (h1 : 0 ≤ jj) (h2 : jj ≤ 0) hs hl => ?_⟩
                obtain rfl : jj = 0 := by omega
                exact ⟨_, rfl, AOp.fieldPtr (k := 1) (d := 0) (e := 1) rfl rfl (hl 10 none _ (.head _) rfl) fo94_1⟩
              · refine .inl ⟨rfl, fun s' jj bb (h1 : 0 ≤ jj) (h2 : jj ≤ 0) hs hl => ?_⟩
                obtain rfl : jj = 0 := by omega
                exact ⟨_, rfl, AOp.loadPtr1 rfl rfl (hl 40 (some 1) _ (.head _) rfl) (by rw [hs]; rfl) sh54 rfl⟩
              · refine .inl ⟨rfl, fun s' jj bb (h1 : 0 ≤ jj) (h2 : jj ≤ 0) hs hl => ?_⟩
                obtain rfl : jj = 0 := by omega
                exact ⟨_, rfl, AOp.move (.inl rfl) rfl (hl 13 none _ (.head _) rfl)⟩
              · refine .inl ⟨rfl, fun s' jj bb (h1 : 0 ≤ jj) (h2 : jj ≤ 0) hs hl => ?_⟩
                obtain rfl : jj = 0 := by omega
                exact ⟨_, rfl, AOp.index (k := i3) rfl rfl (hl 41 (some 2) _ (.head _) rfl) rfl (hl 42 (some 3) _ (.tail _ (.head _)) rfl) (strTrs_at g6n) el54⟩
              · refine .inl ⟨rfl, fun s' jj bb (h1 : 0 ≤ jj) (h2 : jj ≤ 0) hs hl => ?_⟩
                obtain rfl : jj = 0 := by omega
                exact ⟨_, rfl, AOp.loadEptr1 (d := .leaf (.string (atD ((oTrait (GProgram.traitAt pw pfrom)).gSupertraits) i3))) rfl rfl (hl 43 (some 4) _ (.head _) rfl) sh9 rfl⟩
              · refine .inl ⟨rfl, fun s' jj bb (h1 : 0 ≤ jj) (h2 : jj ≤ 0) hs hl => ?_⟩
                obtain rfl : jj = 0 := by omega
                exact ⟨_, rfl, AOp.move (.inl rfl) rfl (hl 2 none _ (.head _) rfl)⟩
              · refine .inl ⟨rfl, fun s' jj bb (h1 : 0 ≤ jj) (h2 : jj ≤ 0) hs hl => ?_⟩
                obtain rfl : jj = 0 := by omega
                exact ⟨_, rfl, AOp.move (.inl rfl) rfl (hl 3 none _ (.head _) rfl)⟩
              · refine .inl ⟨rfl, fun s' jj bb (h1 : 0 ≤ jj) (h2 : jj ≤ 0) hs hl => ?_⟩
                obtain rfl : jj = 0 := by omega
                exact ⟨_, rfl, AOp.subW rfl rfl (hl 46 (some 7) _ (.head _) rfl) rfl⟩
              · refine .inl ⟨rfl, fun s' jj bb (h1 : 0 ≤ jj) (h2 : jj ≤ 0) hs hl => ?_⟩
                obtain rfl : jj = 0 := by omega
                exact ⟨_, rfl, AOp.callF (res := .tup [.t (.row 1 (intTrs (x9))), .t (.leaf (.bool (x10)))]) (ps := [_, _, _, _]) rfl rfl Tryz.func95 (by kernel_rfl) rfl (evs_cons (hl 39 (some 0) _ (.tail _ (.tail _ (.tail _ (.head _)))) rfl) (evs_cons (hl 44 (some 5) _ (.tail _ (.tail _ (.head _))) rfl) (evs_cons (hl 45 (some 6) _ (.tail _ (.head _)) rfl) (evs_cons (hl 47 (some 8) _ (.head _) rfl) rfl)))) (by (repeat' (first | exact PV.Le.refl _ | exact LeL.nil | exact PV.Le.nil _ | exact PV.Le.acc _ _ _ | apply LeL.cons | apply PV.Le.agg | apply PV.Le.tup))) rfl rfl (h_sl19Steps pw (atD ((oTrait (GProgram.traitAt pw pfrom)).gSupertraits) i3) pto (wrap64 (pleft - 1)) _ hq8)⟩
              · refine .inl ⟨rfl, fun s' jj bb (h1 : 0 ≤ jj) (h2 : jj ≤ 0) hs hl => ?_⟩
                obtain rfl : jj = 0 := by omega
                exact ⟨_, rfl, AOp.move (.inl rfl) rfl (hl 48 (some 9) _ (.head _) rfl)⟩
              · refine .inl ⟨rfl, fun s' jj bb (h1 : 0 ≤ jj) (h2 : jj ≤ 0) hs hl => ?_⟩
                obtain rfl : jj = 0 := by omega
                exact ⟨_, rfl, AOp.extract rfl rfl (hl 38 (some 10) _ (.head _) rfl) rfl⟩
              · refine .inl ⟨rfl, fun s' jj bb (h1 : 0 ≤ jj) (h2 : jj ≤ 0) hs hl => ?_⟩
                obtain rfl : jj = 0 := by omega
                exact ⟨_, rfl, AOp.extract rfl rfl (hl 38 (some 10) _ (.head _) rfl) rfl⟩
              · refine .inl ⟨rfl, fun s' jj bb (h1 : 0 ≤ jj) (h2 : jj ≤ 0) hs hl => ?_⟩
                obtain rfl : jj = 0 := by omega
                exact ⟨_, rfl, AOp.move (.inr rfl) rfl (hl 49 (some 11) _ (.head _) rfl)⟩
              · refine .inl ⟨rfl, fun s' jj bb (h1 : 0 ≤ jj) (h2 : jj ≤ 0) hs hl => ?_⟩
                obtain rfl : jj = 0 := by omega
                exact ⟨_, rfl, AOp.move (.inr rfl) rfl (hl 50 (some 12) _ (.head _) rfl)⟩
              refine AWP.seq ?_
              refine AWP.region_lit ?_
              refine AL.cons rfl (AOp.move (.inl rfl) rfl rfl) ?_
              refine AL.nil ?_
              refine AWP.cond rfl (fun h14 => ?_) (fun h14 => ?_)
              · skip
                refine AWP.seq ?_
                refine AWP.region_lit ?_
                refine AL.cons rfl (AOp.move (.inl rfl) rfl rfl) ?_
                refine AL.cons rfl (AOp.buildSliceA (es := [[.leaf (.int .i64 ((i3 : Nat) : Int))]]) (es' := intTrs (([((i3 : Nat) : Int)] : List Int))) (cs := [.t (.leaf (.int .i64 (((i3 : Nat) : Int))))]) rfl rfl el60 zr3 rfl rfl (by (repeat' (first | exact PV.Le.refl _ | exact LeL.nil | exact PV.Le.nil _ | exact PV.Le.acc _ _ _ | apply LeL.cons | apply PV.Le.agg | apply PV.Le.tup))) rfl (by simp) (by decide) rfl (by decide) rfl) ?_
                refine AL.cons rfl (AOp.move (.inl rfl) rfl rfl) ?_
                rcases Classical.em ((([((i3 : Nat) : Int)] : List Int)).length + (x9).length ≤ 68719476736) with hg15 | hg15
                · skip
                  refine AL.cons rfl (AOp.appendE (es3 := intTrs (([((i3 : Nat) : Int)] : List Int) ++ x9)) rfl rfl rfl rfl rfl rfl rfl rfl rfl (intTrs_all _) el60 ze60 (by decide) (by rw [intTrs_len, intTrs_len]; exact room_le hg15 (by decide)) (intTrs_append _ _)) ?_
                  refine AL.cons rfl (AOp.move (.inr rfl) rfl rfl) ?_
                  refine AL.cons rfl (AOp.move (.inr rfl) rfl rfl) ?_
                  refine AL.nil ?_
                  refine AWP.ret ?_
                  have e16 : (sl19Steps_F1 fu r_sl19Steps pw pfrom pto pleft) i3 () = some (.ret ((([((i3 : Nat) : Int)] : List Int) ++ x9), true)) := swT h7 (bdS hq8 (swT h14 (gdT hg15 (rfl))))
                  have e17 : sl19Steps_R1 fu r_sl19Steps pw pfrom pto pleft = some (.inl ((([((i3 : Nat) : Int)] : List Int) ++ x9), true)) := loopN_ret g6l hJ4 e16
                  have e18 : sl19Steps_G fu r_sl19Steps pw pfrom pto pleft = some ((([((i3 : Nat) : Int)] : List Int) ++ x9), true) := swF h1 (soL e17)
                  have hz : ((([((i3 : Nat) : Int)] : List Int) ++ x9), true) = r := Option.some.inj (e18.symm.trans H)
                  subst hz
                  exact Ends.mk (ps := [_, _]) (by first | exact .inr rfl | exact .inl rfl) ⟨rfl, rfl, trivial⟩ rfl (StLe.mk' (st' := ⟨[], []⟩) trivial rfl) (keeps_nil hC) (q := (.tup [.t (.row 1 (intTrs ((([((i3 : Nat) : Int)] : List Int) ++ x9)))), .t (.leaf (.bool (true)))] : PV)) (by (repeat' (first | exact PV.Le.refl _ | exact LeL.nil | exact PV.Le.nil _ | exact PV.Le.acc _ _ _ | apply LeL.cons | apply PV.Le.agg | apply PV.Le.tup))) rfl ⟨rfl, rfl⟩
                · skip
                  have e19 : (sl19Steps_F1 fu r_sl19Steps pw pfrom pto pleft) i3 () = none := swT h7 (bdS hq8 (swT h14 (gdF hg15)))
                  have e20 : sl19Steps_R1 fu r_sl19Steps pw pfrom pto pleft = none := loopN_non g6l hJ4 e19
                  have e21 : sl19Steps_G fu r_sl19Steps pw pfrom pto pleft = none := swF h1 (soN e20)
                  exact none_some H e21
              · skip
                refine AWP.skip ?_
                refine AWP.region_lit ?_
                refine AL.cons rfl (AOp.move (.inl rfl) rfl rfl) ?_
                refine AL.cons rfl (AOp.addI rfl rfl rfl rfl (c := ((i3 + 1 : Nat) : Int)) (by omega) (by omega)) ?_
                refine AL.cons rfl (AOp.move (.inr rfl) rfl rfl) ?_
                refine AL.nil ?_
                have e22 : (sl19Steps_F1 fu r_sl19Steps pw pfrom pto pleft) i3 () = some (.next ()) := swT h7 (bdS hq8 (swF h14 (rfl)))
                refine ⟨(i3 + 1, ()), loopN_next g6l hJ4 e22, ?_, ?_⟩
                · skip
                  exact Wk.mk (StLe.mk' ⟨⟨rfl, by (repeat' (first | exact PV.Le.refl _ | exact LeL.nil | exact PV.Le.nil _ | exact PV.Le.acc _ _ _ | apply LeL.cons | apply PV.Le.agg | apply PV.Le.tup)), rfl⟩, ⟨⟨rfl, by (repeat' (first | exact PV.Le.refl _ | exact LeL.nil | exact PV.Le.nil _ | exact PV.Le.acc _ _ _ | apply LeL.cons | apply PV.Le.agg | apply PV.Le.tup)), rfl⟩, trivial⟩⟩ rfl) (keeps_nil hC) ⟨⟨_, rfl, .refl _, rfl⟩, ⟨⟨_, rfl, .refl _, rfl⟩, ⟨⟨_, rfl, .refl _, rfl⟩, ⟨⟨_, rfl, .refl _, rfl⟩, ⟨⟨_, rfl, .refl _, rfl⟩, ⟨⟨_, rfl, .refl _, rfl⟩, ⟨⟨_, rfl, by (repeat' (first | exact PV.Le.refl _ | exact LeL.nil | exact PV.Le.nil _ | exact PV.Le.acc _ _ _ | apply LeL.cons | apply PV.Le.agg | apply PV.Le.tup)), rfl⟩, trivial⟩⟩⟩⟩⟩⟩⟩
                · dsimp only; omega
          · skip
            refine AWP.exit ?_
            have e23 : (sl19Steps_F1 fu r_sl19Steps pw pfrom pto pleft) i3 () = some (.brk ()) := swF h7 (rfl)
            refine ⟨(), loopN_brk g6l hJ4 e23, ?_⟩
            exact Wk.mk (StLe.mk' ⟨⟨rfl, by (repeat' (first | exact PV.Le.refl _ | exact LeL.nil | exact PV.Le.nil _ | exact PV.Le.acc _ _ _ | apply LeL.cons | apply PV.Le.agg | apply PV.Le.tup)), rfl⟩, ⟨⟨rfl, by (repeat' (first | exact PV.Le.refl _ | exact LeL.nil | exact PV.Le.nil _ | exact PV.Le.acc _ _ _ | apply LeL.cons | apply PV.Le.agg | apply PV.Le.tup)), rfl⟩, trivial⟩⟩ rfl) (keeps_nil hC) ⟨⟨_, rfl, .refl _, rfl⟩, ⟨⟨_, rfl, .refl _, rfl⟩, trivial⟩⟩
        · skip
          have g6l : ((oTrait (GProgram.traitAt pw pfrom)).gSupertraits).length ≤ i3 := nat_ge_of2 g6
          refine AL.skipP rfl rfl rfl g6 rfl rfl ?_
          refine AL.skipP rfl rfl rfl g6 rfl rfl ?_
          refine AL.cons rfl (AOp.pickF rfl rfl rfl g6 rfl) ?_
          refine AL.nil ?_
          refine AWP.cond rfl (fun h24 => ?_) (fun h24 => ?_)
          · skip
            exact absurd (h24.symm.trans rfl) (by decide)
          · skip
            refine AWP.exit ?_
            refine ⟨(), loopN_end g6l hJ4, ?_⟩
            exact Wk.mk (StLe.mk' ⟨⟨rfl, by (repeat' (first | exact PV.Le.refl _ | exact LeL.nil | exact PV.Le.nil _ | exact PV.Le.acc _ _ _ | apply LeL.cons | apply PV.Le.agg | apply PV.Le.tup)), rfl⟩, ⟨⟨rfl, by (repeat' (first | exact PV.Le.refl _ | exact LeL.nil | exact PV.Le.nil _ | exact PV.Le.acc _ _ _ | apply LeL.cons | apply PV.Le.agg | apply PV.Le.tup)), rfl⟩, trivial⟩⟩ rfl) (keeps_nil hC) ⟨⟨_, rfl, .refl _, rfl⟩, ⟨⟨_, rfl, .refl _, rfl⟩, trivial⟩⟩
    · rintro ⟨⟩ hR25
      refine AWP.seq ?_
      refine AWP.region_lit ?_
      refine AL.cons rfl (AOp.buildSliceA (es := []) (es' := intTrs ([])) (cs := []) rfl rfl el60 zr3 rfl rfl (by (repeat' (first | exact PV.Le.refl _ | exact LeL.nil | exact PV.Le.nil _ | exact PV.Le.acc _ _ _ | apply LeL.cons | apply PV.Le.agg | apply PV.Le.tup))) rfl (by simp) (by decide) rfl (by decide) rfl) ?_
      refine AL.cons rfl (AOp.move (.inr rfl) rfl rfl) ?_
      refine AL.cons rfl (AOp.move (.inr rfl) rfl rfl) ?_
      refine AL.nil ?_
      refine AWP.ret ?_
      have e26 : sl19Steps_G fu r_sl19Steps pw pfrom pto pleft = some (([]), false) := swF h1 (soR hR25 (rfl))
      have hz : (([]), false) = r := Option.some.inj (e26.symm.trans H)
      subst hz
      exact Ends.mk (ps := [_, _]) (by first | exact .inr rfl | exact .inl rfl) ⟨rfl, rfl, trivial⟩ rfl (StLe.mk' (st' := ⟨[], []⟩) trivial rfl) (keeps_nil hC) (q := (.tup [.t (.row 1 (intTrs (([])))), .t (.leaf (.bool (false)))] : PV)) (by (repeat' (first | exact PV.Le.refl _ | exact LeL.nil | exact PV.Le.nil _ | exact PV.Le.acc _ _ _ | apply LeL.cons | apply PV.Le.agg | apply PV.Le.tup))) rfl ⟨rfl, rfl⟩
noncomputable def sl19Steps_M : Nat → GProgram → ByteArray → ByteArray → Int → Option ((List Int) × Bool)
  | 0, _, _, _, _ => none
  | fu + 1, pw, pfrom, pto, pleft => sl19Steps_G fu (sl19Steps_M fu) pw pfrom pto pleft
theorem sl19Steps_all (fu : Nat) : (∀ (pw : GProgram) (pfrom : ByteArray) (pto : ByteArray) (pleft : Int) (r : (List Int) × Bool), sl19Steps_M fu pw pfrom pto pleft = some r → AFun Tryz.prog 95 [(GProgram.pv pw), .t (.leaf (.string (pfrom))), .t (.leaf (.string (pto))), .t (.leaf (.int .i64 (pleft)))] (.tup [.t (.row 1 (intTrs (r.1))), .t (.leaf (.bool (r.2)))] : PV)) := by
  induction fu with
  | zero => exact (fun pw pfrom pto pleft r H => by simp only [sl19Steps_M] at H; cases H)
  | succ fu ih => exact (fun pw pfrom pto pleft r H => by simp only [sl19Steps_M] at H; exact sl19Steps_step (sl19Steps_M fu) fu ih pw pfrom pto pleft r H)
theorem sl19Steps_ok (fu : Nat) (pw : GProgram) (pfrom : ByteArray) (pto : ByteArray) (pleft : Int) (r : (List Int) × Bool) (H : sl19Steps_M fu pw pfrom pto pleft = some r) : AFun Tryz.prog 95 [(GProgram.pv pw), .t (.leaf (.string (pfrom))), .t (.leaf (.string (pto))), .t (.leaf (.int .i64 (pleft)))] (.tup [.t (.row 1 (intTrs (r.1))), .t (.leaf (.bool (r.2)))] : PV) := (sl19Steps_all fu) pw pfrom pto pleft r H

noncomputable def sSupertraitPath_M (fu : Nat)  (pw : GProgram) (pfrom : ByteArray) (pto : ByteArray) : Option ((List Int) × Bool) :=
 bd (sl19Steps_M fu pw pfrom pto 8) (fun (x2, x3) =>
 some (x2, x3))
set_option maxRecDepth 100000 in
set_option maxHeartbeats 4000000 in
theorem sSupertraitPath_ok  (fu : Nat)  (pw : GProgram) (pfrom : ByteArray) (pto : ByteArray) (r : (List Int) × Bool) (H : sSupertraitPath_M fu pw pfrom pto = some r) : AFun Tryz.prog 33 [(GProgram.pv pw), .t (.leaf (.string (pfrom))), .t (.leaf (.string (pto)))] (.tup [.t (.row 1 (intTrs (r.1))), .t (.leaf (.bool (r.2)))] : PV) := by
  refine ACalls.intro Tryz.func33 rfl (by first | decide | (simp; done) | (simp; decide)) ?_
  intro C hC
  refine AWP.seq ?_
  refine AWP.region_lit ?_
  refine AL.cons rfl (AOp.box (cs := [.t (.row 6 (GPackage.trs (pw.gPackages)))]) rfl rfl rfl rfl rfl) ?_
  refine AL.cons rfl (AOp.move (.inr rfl) rfl rfl) ?_
  refine AL.cons rfl (AOp.move (.inr rfl) rfl rfl) ?_
  refine AL.nil ?_
  refine AWP.seq ?_
  refine AWP.region_lit ?_
  refine AL.cons rfl (AOp.loadPtr (cs := [.t (.row 6 (GPackage.trs (pw.gPackages)))]) rfl rfl rfl rfl sh31 rfl rfl) ?_
  refine AL.cons rfl (AOp.move (.inl rfl) rfl rfl) ?_
  refine AL.cons rfl (AOp.move (.inl rfl) rfl rfl) ?_
  rcases hq1 : sl19Steps_M fu pw pfrom pto 8 with _ | ⟨x2, x3⟩
  · skip
    have e4 : sSupertraitPath_M fu pw pfrom pto = none := bdN hq1
    exact none_some H e4
  · skip
    refine AL.cons rfl (AOp.callF (res := .tup [.t (.row 1 (intTrs (x2))), .t (.leaf (.bool (x3)))]) (ps := [_, _, _, _]) rfl rfl Tryz.func95 (by kernel_rfl) rfl rfl (by (repeat' (first | exact PV.Le.refl _ | exact LeL.nil | exact PV.Le.nil _ | exact PV.Le.acc _ _ _ | apply LeL.cons | apply PV.Le.agg | apply PV.Le.tup))) rfl rfl (sl19Steps_ok fu pw pfrom pto 8 _ hq1)) ?_
    refine AL.cons rfl (AOp.extract rfl rfl rfl rfl) ?_
    refine AL.cons rfl (AOp.extract rfl rfl rfl rfl) ?_
    refine AL.cons rfl (AOp.move (.inr rfl) rfl rfl) ?_
    refine AL.cons rfl (AOp.move (.inr rfl) rfl rfl) ?_
    refine AL.nil ?_
    refine AWP.ret ?_
    have e5 : sSupertraitPath_M fu pw pfrom pto = some (x2, x3) := bdS hq1 (rfl)
    have hz : (x2, x3) = r := Option.some.inj (e5.symm.trans H)
    subst hz
    exact Ends.mk (ps := [_, _]) (by first | exact .inr rfl | exact .inl rfl) ⟨rfl, rfl, trivial⟩ rfl (StLe.mk' (st' := ⟨[], []⟩) trivial rfl) (keeps_nil hC) (q := (.tup [.t (.row 1 (intTrs (x2))), .t (.leaf (.bool (x3)))] : PV)) (by (repeat' (first | exact PV.Le.refl _ | exact LeL.nil | exact PV.Le.nil _ | exact PV.Le.acc _ _ _ | apply LeL.cons | apply PV.Le.agg | apply PV.Le.tup))) rfl ⟨rfl, rfl⟩

end Go.Proofs.YtnakkelglbcecaaGreat
