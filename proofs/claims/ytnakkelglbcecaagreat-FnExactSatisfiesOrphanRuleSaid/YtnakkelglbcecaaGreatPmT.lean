/- What the rules ask of the program's types. No conditions. -/
import Derived.Test.YtnakkelglbcecaaGreatPm10
import Derived.Test.YtnakkelglbcecaaGreatProg
namespace Go.Proofs.YtnakkelglbcecaaGreat
open Go.RowKit Go.Proofs

theorem sh3 : shapeOf Tryz.prog 3 = some (false, 1) := by kernel_rfl
theorem sz3 : (Tryz.prog.info? 3).map (·.size) = some 1 := by kernel_rfl
theorem zr3 : zerosOf Tryz.prog 3 = some [.t (.leaf (.int .i64 0))] := by kernel_rfl
theorem sh4 : shapeOf Tryz.prog 4 = some (false, 1) := by kernel_rfl
theorem sz4 : (Tryz.prog.info? 4).map (·.size) = some 1 := by kernel_rfl
theorem zr4 : zerosOf Tryz.prog 4 = some [.t (.leaf (.bool false))] := by kernel_rfl
theorem sh5 : shapeOf Tryz.prog 5 = some (false, 1) := by kernel_rfl
theorem sz5 : (Tryz.prog.info? 5).map (·.size) = some 1 := by kernel_rfl
theorem zr5 : zerosOf Tryz.prog 5 = some [.t (.leaf (.int .u8 0))] := by kernel_rfl
theorem sh9 : shapeOf Tryz.prog 9 = some (false, 1) := by kernel_rfl
theorem sz9 : (Tryz.prog.info? 9).map (·.size) = some 1 := by kernel_rfl
theorem zr9 : zerosOf Tryz.prog 9 = some [.t (.leaf (.string ⟨#[]⟩))] := by kernel_rfl
theorem sh22 : shapeOf Tryz.prog 22 = some (false, 1) := by kernel_rfl
theorem sz22 : (Tryz.prog.info? 22).map (·.size) = some 1 := by kernel_rfl
theorem el22 : elemOf? Tryz.prog 22 = some (166, 6, 136) := by kernel_rfl
theorem ze22 : (Tryz.prog.info? 166).bind (fun i => i.zero.map (fun z => z.cells.size)) = some 6 := by kernel_rfl
theorem zr22 : zerosOf Tryz.prog 22 = some [.nil] := by kernel_rfl
theorem sh24 : shapeOf Tryz.prog 24 = some (true, 1) := by kernel_rfl
theorem sz24 : (Tryz.prog.info? 24).map (·.size) = some 1 := by kernel_rfl
theorem zr24 : zerosOf Tryz.prog 24 = some [.nil] := by kernel_rfl
theorem sh26 : shapeOf Tryz.prog 26 = some (true, 2) := by kernel_rfl
theorem sz26 : (Tryz.prog.info? 26).map (·.size) = some 2 := by kernel_rfl
theorem zr26 : zerosOf Tryz.prog 26 = some [.t (.leaf (.int .i64 0)), .t (.leaf (.int .i64 0))] := by kernel_rfl
theorem sh29 : shapeOf Tryz.prog 29 = some (false, 1) := by kernel_rfl
theorem sz29 : (Tryz.prog.info? 29).map (·.size) = some 1 := by kernel_rfl
theorem el29 : elemOf? Tryz.prog 29 = some (126, 6, 136) := by kernel_rfl
theorem ze29 : (Tryz.prog.info? 126).bind (fun i => i.zero.map (fun z => z.cells.size)) = some 6 := by kernel_rfl
theorem zr29 : zerosOf Tryz.prog 29 = some [.nil] := by kernel_rfl
theorem sh31 : shapeOf Tryz.prog 31 = some (true, 1) := by kernel_rfl
theorem sz31 : (Tryz.prog.info? 31).map (·.size) = some 1 := by kernel_rfl
theorem zr31 : zerosOf Tryz.prog 31 = some [.nil] := by kernel_rfl
theorem sh33 : shapeOf Tryz.prog 33 = some (true, 2) := by kernel_rfl
theorem sz33 : (Tryz.prog.info? 33).map (·.size) = some 2 := by kernel_rfl
theorem zr33 : zerosOf Tryz.prog 33 = some [.t (.leaf (.int .i64 0)), .t (.leaf (.int .i64 0))] := by kernel_rfl
theorem pl33 : placesOf Tryz.prog 33 = some [(0, 1), (1, 1)] := by kernel_rfl
theorem sh37 : shapeOf Tryz.prog 37 = some (false, 1) := by kernel_rfl
theorem sz37 : (Tryz.prog.info? 37).map (·.size) = some 1 := by kernel_rfl
theorem el37 : elemOf? Tryz.prog 37 = some (39, 3, 48) := by kernel_rfl
theorem ze37 : (Tryz.prog.info? 39).bind (fun i => i.zero.map (fun z => z.cells.size)) = some 3 := by kernel_rfl
theorem zr37 : zerosOf Tryz.prog 37 = some [.nil] := by kernel_rfl
theorem sh39 : shapeOf Tryz.prog 39 = some (true, 3) := by kernel_rfl
theorem sz39 : (Tryz.prog.info? 39).map (·.size) = some 3 := by kernel_rfl
theorem zr39 : zerosOf Tryz.prog 39 = some [.t (.leaf (.int .i64 0)), .t (.leaf (.string ⟨#[]⟩)), .nil] := by kernel_rfl
theorem sh41 : shapeOf Tryz.prog 41 = some (true, 4) := by kernel_rfl
theorem sz41 : (Tryz.prog.info? 41).map (·.size) = some 4 := by kernel_rfl
theorem zr41 : zerosOf Tryz.prog 41 = some [.t (.leaf (.string ⟨#[]⟩)), .t (.leaf (.int .i64 0)), .t (.leaf (.string ⟨#[]⟩)), .nil] := by kernel_rfl
theorem sh45 : shapeOf Tryz.prog 45 = some (false, 1) := by kernel_rfl
theorem sz45 : (Tryz.prog.info? 45).map (·.size) = some 1 := by kernel_rfl
theorem el45 : elemOf? Tryz.prog 45 = some (47, 3, 48) := by kernel_rfl
theorem ze45 : (Tryz.prog.info? 47).bind (fun i => i.zero.map (fun z => z.cells.size)) = some 3 := by kernel_rfl
theorem zr45 : zerosOf Tryz.prog 45 = some [.nil] := by kernel_rfl
theorem sh47 : shapeOf Tryz.prog 47 = some (true, 3) := by kernel_rfl
theorem sz47 : (Tryz.prog.info? 47).map (·.size) = some 3 := by kernel_rfl
theorem zr47 : zerosOf Tryz.prog 47 = some [.t (.leaf (.int .i64 0)), .t (.leaf (.string ⟨#[]⟩)), .nil] := by kernel_rfl
theorem pl47 : placesOf Tryz.prog 47 = some [(0, 1), (1, 1), (2, 1)] := by kernel_rfl
theorem sh49 : shapeOf Tryz.prog 49 = some (true, 4) := by kernel_rfl
theorem sz49 : (Tryz.prog.info? 49).map (·.size) = some 4 := by kernel_rfl
theorem zr49 : zerosOf Tryz.prog 49 = some [.t (.leaf (.string ⟨#[]⟩)), .t (.leaf (.int .i64 0)), .t (.leaf (.string ⟨#[]⟩)), .nil] := by kernel_rfl
theorem pl49 : placesOf Tryz.prog 49 = some [(0, 1), (1, 3)] := by kernel_rfl
theorem sh54 : shapeOf Tryz.prog 54 = some (false, 1) := by kernel_rfl
theorem sz54 : (Tryz.prog.info? 54).map (·.size) = some 1 := by kernel_rfl
theorem el54 : elemOf? Tryz.prog 54 = some (9, 1, 16) := by kernel_rfl
theorem ze54 : (Tryz.prog.info? 9).bind (fun i => i.zero.map (fun z => z.cells.size)) = some 1 := by kernel_rfl
theorem zr54 : zerosOf Tryz.prog 54 = some [.nil] := by kernel_rfl
theorem sh60 : shapeOf Tryz.prog 60 = some (false, 1) := by kernel_rfl
theorem sz60 : (Tryz.prog.info? 60).map (·.size) = some 1 := by kernel_rfl
theorem el60 : elemOf? Tryz.prog 60 = some (3, 1, 8) := by kernel_rfl
theorem ze60 : (Tryz.prog.info? 3).bind (fun i => i.zero.map (fun z => z.cells.size)) = some 1 := by kernel_rfl
theorem zr60 : zerosOf Tryz.prog 60 = some [.nil] := by kernel_rfl
theorem sh66 : shapeOf Tryz.prog 66 = some (false, 1) := by kernel_rfl
theorem sz66 : (Tryz.prog.info? 66).map (·.size) = some 1 := by kernel_rfl
theorem el66 : elemOf? Tryz.prog 66 = some (33, 2, 16) := by kernel_rfl
theorem ze66 : (Tryz.prog.info? 33).bind (fun i => i.zero.map (fun z => z.cells.size)) = some 2 := by kernel_rfl
theorem zr66 : zerosOf Tryz.prog 66 = some [.nil] := by kernel_rfl
theorem sh75 : shapeOf Tryz.prog 75 = some (false, 1) := by kernel_rfl
theorem sz75 : (Tryz.prog.info? 75).map (·.size) = some 1 := by kernel_rfl
theorem sh78 : shapeOf Tryz.prog 78 = some (false, 1) := by kernel_rfl
theorem sz78 : (Tryz.prog.info? 78).map (·.size) = some 1 := by kernel_rfl
theorem el78 : elemOf? Tryz.prog 78 = some (41, 4, 64) := by kernel_rfl
theorem ze78 : (Tryz.prog.info? 41).bind (fun i => i.zero.map (fun z => z.cells.size)) = some 4 := by kernel_rfl
theorem zr78 : zerosOf Tryz.prog 78 = some [.nil] := by kernel_rfl
theorem sh80 : shapeOf Tryz.prog 80 = some (false, 1) := by kernel_rfl
theorem sz80 : (Tryz.prog.info? 80).map (·.size) = some 1 := by kernel_rfl
theorem el80 : elemOf? Tryz.prog 80 = some (147, 6, 96) := by kernel_rfl
theorem ze80 : (Tryz.prog.info? 147).bind (fun i => i.zero.map (fun z => z.cells.size)) = some 6 := by kernel_rfl
theorem zr80 : zerosOf Tryz.prog 80 = some [.nil] := by kernel_rfl
theorem sh82 : shapeOf Tryz.prog 82 = some (false, 1) := by kernel_rfl
theorem sz82 : (Tryz.prog.info? 82).map (·.size) = some 1 := by kernel_rfl
theorem el82 : elemOf? Tryz.prog 82 = some (49, 4, 64) := by kernel_rfl
theorem ze82 : (Tryz.prog.info? 49).bind (fun i => i.zero.map (fun z => z.cells.size)) = some 4 := by kernel_rfl
theorem zr82 : zerosOf Tryz.prog 82 = some [.nil] := by kernel_rfl
theorem sh92 : shapeOf Tryz.prog 92 = some (false, 1) := by kernel_rfl
theorem sz92 : (Tryz.prog.info? 92).map (·.size) = some 1 := by kernel_rfl
theorem el92 : elemOf? Tryz.prog 92 = some (191, 16, 264) := by kernel_rfl
theorem ze92 : (Tryz.prog.info? 191).bind (fun i => i.zero.map (fun z => z.cells.size)) = some 16 := by kernel_rfl
theorem zr92 : zerosOf Tryz.prog 92 = some [.nil] := by kernel_rfl
theorem sh94 : shapeOf Tryz.prog 94 = some (true, 5) := by kernel_rfl
theorem sz94 : (Tryz.prog.info? 94).map (·.size) = some 5 := by kernel_rfl
theorem zr94 : zerosOf Tryz.prog 94 = some [.t (.leaf (.string ⟨#[]⟩)), .nil, .t (.leaf (.bool false)), .t (.leaf (.bool false)), .nil] := by kernel_rfl
theorem pl94 : placesOf Tryz.prog 94 = some [(0, 1), (1, 1), (2, 1), (3, 1), (4, 1)] := by kernel_rfl
theorem sh99 : shapeOf Tryz.prog 99 = some (false, 1) := by kernel_rfl
theorem sz99 : (Tryz.prog.info? 99).map (·.size) = some 1 := by kernel_rfl
theorem el99 : elemOf? Tryz.prog 99 = some (199, 4, 64) := by kernel_rfl
theorem ze99 : (Tryz.prog.info? 199).bind (fun i => i.zero.map (fun z => z.cells.size)) = some 4 := by kernel_rfl
theorem zr99 : zerosOf Tryz.prog 99 = some [.nil] := by kernel_rfl
theorem sh100 : shapeOf Tryz.prog 100 = some (false, 1) := by kernel_rfl
theorem sz100 : (Tryz.prog.info? 100).map (·.size) = some 1 := by kernel_rfl
theorem el100 : elemOf? Tryz.prog 100 = some (103, 9, 144) := by kernel_rfl
theorem ze100 : (Tryz.prog.info? 103).bind (fun i => i.zero.map (fun z => z.cells.size)) = some 9 := by kernel_rfl
theorem zr100 : zerosOf Tryz.prog 100 = some [.nil] := by kernel_rfl
theorem sh101 : shapeOf Tryz.prog 101 = some (false, 1) := by kernel_rfl
theorem sz101 : (Tryz.prog.info? 101).map (·.size) = some 1 := by kernel_rfl
theorem el101 : elemOf? Tryz.prog 101 = some (229, 11, 184) := by kernel_rfl
theorem ze101 : (Tryz.prog.info? 229).bind (fun i => i.zero.map (fun z => z.cells.size)) = some 11 := by kernel_rfl
theorem zr101 : zerosOf Tryz.prog 101 = some [.nil] := by kernel_rfl
theorem sh103 : shapeOf Tryz.prog 103 = some (true, 9) := by kernel_rfl
theorem sz103 : (Tryz.prog.info? 103).map (·.size) = some 9 := by kernel_rfl
theorem zr103 : zerosOf Tryz.prog 103 = some [.t (.leaf (.int .i64 0)), .t (.leaf (.string ⟨#[]⟩)), .t (.leaf (.string ⟨#[]⟩)), .t (.leaf (.int .i64 0)), .t (.leaf (.int .i64 0)), .t (.leaf (.string ⟨#[]⟩)), .nil, .nil, .nil] := by kernel_rfl
theorem sh105 : shapeOf Tryz.prog 105 = some (true, 16) := by kernel_rfl
theorem sz105 : (Tryz.prog.info? 105).map (·.size) = some 16 := by kernel_rfl
theorem zr105 : zerosOf Tryz.prog 105 = some [.t (.leaf (.string ⟨#[]⟩)), .nil, .nil, .nil, .t (.leaf (.int .i64 0)), .t (.leaf (.string ⟨#[]⟩)), .nil, .t (.leaf (.int .i64 0)), .t (.leaf (.string ⟨#[]⟩)), .t (.leaf (.string ⟨#[]⟩)), .t (.leaf (.int .i64 0)), .t (.leaf (.int .i64 0)), .t (.leaf (.string ⟨#[]⟩)), .nil, .nil, .nil] := by kernel_rfl
theorem pl105 : placesOf Tryz.prog 105 = some [(0, 1), (1, 1), (2, 1), (3, 1), (4, 3), (7, 9)] := by kernel_rfl
theorem sh111 : shapeOf Tryz.prog 111 = some (false, 1) := by kernel_rfl
theorem sz111 : (Tryz.prog.info? 111).map (·.size) = some 1 := by kernel_rfl
theorem el111 : elemOf? Tryz.prog 111 = some (260, 11, 184) := by kernel_rfl
theorem ze111 : (Tryz.prog.info? 260).bind (fun i => i.zero.map (fun z => z.cells.size)) = some 11 := by kernel_rfl
theorem zr111 : zerosOf Tryz.prog 111 = some [.nil] := by kernel_rfl
theorem sh113 : shapeOf Tryz.prog 113 = some (true, 12) := by kernel_rfl
theorem sz113 : (Tryz.prog.info? 113).map (·.size) = some 12 := by kernel_rfl
theorem zr113 : zerosOf Tryz.prog 113 = some [.t (.leaf (.string ⟨#[]⟩)), .nil, .t (.leaf (.int .i64 0)), .t (.leaf (.string ⟨#[]⟩)), .nil, .nil, .t (.leaf (.bool false)), .t (.leaf (.bool false)), .t (.leaf (.int .i64 0)), .t (.leaf (.string ⟨#[]⟩)), .nil, .nil] := by kernel_rfl
theorem pl113 : placesOf Tryz.prog 113 = some [(0, 1), (1, 1), (2, 3), (5, 1), (6, 1), (7, 1), (8, 3), (11, 1)] := by kernel_rfl
theorem sh121 : shapeOf Tryz.prog 121 = some (false, 1) := by kernel_rfl
theorem sz121 : (Tryz.prog.info? 121).map (·.size) = some 1 := by kernel_rfl
theorem el121 : elemOf? Tryz.prog 121 = some (94, 5, 72) := by kernel_rfl
theorem ze121 : (Tryz.prog.info? 94).bind (fun i => i.zero.map (fun z => z.cells.size)) = some 5 := by kernel_rfl
theorem zr121 : zerosOf Tryz.prog 121 = some [.nil] := by kernel_rfl
theorem sh122 : shapeOf Tryz.prog 122 = some (false, 1) := by kernel_rfl
theorem sz122 : (Tryz.prog.info? 122).map (·.size) = some 1 := by kernel_rfl
theorem el122 : elemOf? Tryz.prog 122 = some (171, 3, 64) := by kernel_rfl
theorem ze122 : (Tryz.prog.info? 171).bind (fun i => i.zero.map (fun z => z.cells.size)) = some 3 := by kernel_rfl
theorem zr122 : zerosOf Tryz.prog 122 = some [.nil] := by kernel_rfl
theorem sh123 : shapeOf Tryz.prog 123 = some (false, 1) := by kernel_rfl
theorem sz123 : (Tryz.prog.info? 123).map (·.size) = some 1 := by kernel_rfl
theorem el123 : elemOf? Tryz.prog 123 = some (113, 12, 192) := by kernel_rfl
theorem ze123 : (Tryz.prog.info? 113).bind (fun i => i.zero.map (fun z => z.cells.size)) = some 12 := by kernel_rfl
theorem zr123 : zerosOf Tryz.prog 123 = some [.nil] := by kernel_rfl
theorem sh124 : shapeOf Tryz.prog 124 = some (false, 1) := by kernel_rfl
theorem sz124 : (Tryz.prog.info? 124).map (·.size) = some 1 := by kernel_rfl
theorem el124 : elemOf? Tryz.prog 124 = some (105, 16, 280) := by kernel_rfl
theorem ze124 : (Tryz.prog.info? 105).bind (fun i => i.zero.map (fun z => z.cells.size)) = some 16 := by kernel_rfl
theorem zr124 : zerosOf Tryz.prog 124 = some [.nil] := by kernel_rfl
theorem sh126 : shapeOf Tryz.prog 126 = some (true, 6) := by kernel_rfl
theorem sz126 : (Tryz.prog.info? 126).map (·.size) = some 6 := by kernel_rfl
theorem zr126 : zerosOf Tryz.prog 126 = some [.t (.leaf (.string ⟨#[]⟩)), .nil, .nil, .nil, .nil, .nil] := by kernel_rfl
theorem sh129 : shapeOf Tryz.prog 129 = some (false, 1) := by kernel_rfl
theorem sz129 : (Tryz.prog.info? 129).map (·.size) = some 1 := by kernel_rfl
theorem sh138 : shapeOf Tryz.prog 138 = some (false, 1) := by kernel_rfl
theorem sz138 : (Tryz.prog.info? 138).map (·.size) = some 1 := by kernel_rfl
theorem el138 : elemOf? Tryz.prog 138 = some (225, 4, 64) := by kernel_rfl
theorem ze138 : (Tryz.prog.info? 225).bind (fun i => i.zero.map (fun z => z.cells.size)) = some 4 := by kernel_rfl
theorem zr138 : zerosOf Tryz.prog 138 = some [.nil] := by kernel_rfl
theorem sh147 : shapeOf Tryz.prog 147 = some (true, 6) := by kernel_rfl
theorem sz147 : (Tryz.prog.info? 147).map (·.size) = some 6 := by kernel_rfl
theorem zr147 : zerosOf Tryz.prog 147 = some [.t (.leaf (.string ⟨#[]⟩)), .t (.leaf (.int .i64 0)), .t (.leaf (.string ⟨#[]⟩)), .nil, .t (.leaf (.int .i64 0)), .nil] := by kernel_rfl
theorem pl147 : placesOf Tryz.prog 147 = some [(0, 4), (4, 1), (5, 1)] := by kernel_rfl
theorem sh161 : shapeOf Tryz.prog 161 = some (false, 1) := by kernel_rfl
theorem sz161 : (Tryz.prog.info? 161).map (·.size) = some 1 := by kernel_rfl
theorem el161 : elemOf? Tryz.prog 161 = some (234, 5, 72) := by kernel_rfl
theorem ze161 : (Tryz.prog.info? 234).bind (fun i => i.zero.map (fun z => z.cells.size)) = some 5 := by kernel_rfl
theorem zr161 : zerosOf Tryz.prog 161 = some [.nil] := by kernel_rfl
theorem sh162 : shapeOf Tryz.prog 162 = some (false, 1) := by kernel_rfl
theorem sz162 : (Tryz.prog.info? 162).map (·.size) = some 1 := by kernel_rfl
theorem el162 : elemOf? Tryz.prog 162 = some (238, 3, 64) := by kernel_rfl
theorem ze162 : (Tryz.prog.info? 238).bind (fun i => i.zero.map (fun z => z.cells.size)) = some 3 := by kernel_rfl
theorem zr162 : zerosOf Tryz.prog 162 = some [.nil] := by kernel_rfl
theorem sh163 : shapeOf Tryz.prog 163 = some (false, 1) := by kernel_rfl
theorem sz163 : (Tryz.prog.info? 163).map (·.size) = some 1 := by kernel_rfl
theorem el163 : elemOf? Tryz.prog 163 = some (242, 12, 192) := by kernel_rfl
theorem ze163 : (Tryz.prog.info? 242).bind (fun i => i.zero.map (fun z => z.cells.size)) = some 12 := by kernel_rfl
theorem zr163 : zerosOf Tryz.prog 163 = some [.nil] := by kernel_rfl
theorem sh164 : shapeOf Tryz.prog 164 = some (false, 1) := by kernel_rfl
theorem sz164 : (Tryz.prog.info? 164).map (·.size) = some 1 := by kernel_rfl
theorem el164 : elemOf? Tryz.prog 164 = some (250, 16, 280) := by kernel_rfl
theorem ze164 : (Tryz.prog.info? 250).bind (fun i => i.zero.map (fun z => z.cells.size)) = some 16 := by kernel_rfl
theorem zr164 : zerosOf Tryz.prog 164 = some [.nil] := by kernel_rfl
theorem sh166 : shapeOf Tryz.prog 166 = some (true, 6) := by kernel_rfl
theorem sz166 : (Tryz.prog.info? 166).map (·.size) = some 6 := by kernel_rfl
theorem zr166 : zerosOf Tryz.prog 166 = some [.t (.leaf (.string ⟨#[]⟩)), .nil, .nil, .nil, .nil, .nil] := by kernel_rfl
theorem sh169 : shapeOf Tryz.prog 169 = some (false, 1) := by kernel_rfl
theorem sz169 : (Tryz.prog.info? 169).map (·.size) = some 1 := by kernel_rfl
theorem el169 : elemOf? Tryz.prog 169 = some (258, 2, 40) := by kernel_rfl
theorem ze169 : (Tryz.prog.info? 258).bind (fun i => i.zero.map (fun z => z.cells.size)) = some 2 := by kernel_rfl
theorem zr169 : zerosOf Tryz.prog 169 = some [.nil] := by kernel_rfl
theorem sh171 : shapeOf Tryz.prog 171 = some (true, 3) := by kernel_rfl
theorem sz171 : (Tryz.prog.info? 171).map (·.size) = some 3 := by kernel_rfl
theorem zr171 : zerosOf Tryz.prog 171 = some [.t (.leaf (.string ⟨#[]⟩)), .nil, .nil] := by kernel_rfl
theorem pl171 : placesOf Tryz.prog 171 = some [(0, 1), (1, 1), (2, 1)] := by kernel_rfl
theorem sh184 : shapeOf Tryz.prog 184 = some (false, 1) := by kernel_rfl
theorem sz184 : (Tryz.prog.info? 184).map (·.size) = some 1 := by kernel_rfl
theorem el184 : elemOf? Tryz.prog 184 = some (5, 1, 1) := by kernel_rfl
theorem ze184 : (Tryz.prog.info? 5).bind (fun i => i.zero.map (fun z => z.cells.size)) = some 1 := by kernel_rfl
theorem zr184 : zerosOf Tryz.prog 184 = some [.nil] := by kernel_rfl
theorem sh191 : shapeOf Tryz.prog 191 = some (true, 16) := by kernel_rfl
theorem sz191 : (Tryz.prog.info? 191).map (·.size) = some 16 := by kernel_rfl
theorem zr191 : zerosOf Tryz.prog 191 = some [.t (.leaf (.string ⟨#[]⟩)), .nil, .t (.leaf (.int .i64 0)), .t (.leaf (.string ⟨#[]⟩)), .nil, .t (.leaf (.bool false)), .nil, .t (.leaf (.int .i64 0)), .t (.leaf (.string ⟨#[]⟩)), .t (.leaf (.string ⟨#[]⟩)), .t (.leaf (.int .i64 0)), .t (.leaf (.int .i64 0)), .t (.leaf (.string ⟨#[]⟩)), .nil, .nil, .nil] := by kernel_rfl
theorem sh199 : shapeOf Tryz.prog 199 = some (true, 4) := by kernel_rfl
theorem sz199 : (Tryz.prog.info? 199).map (·.size) = some 4 := by kernel_rfl
theorem zr199 : zerosOf Tryz.prog 199 = some [.t (.leaf (.string ⟨#[]⟩)), .t (.leaf (.int .i64 0)), .t (.leaf (.string ⟨#[]⟩)), .nil] := by kernel_rfl
theorem pl199 : placesOf Tryz.prog 199 = some [(0, 1), (1, 3)] := by kernel_rfl
theorem sh219 : shapeOf Tryz.prog 219 = some (false, 1) := by kernel_rfl
theorem sz219 : (Tryz.prog.info? 219).map (·.size) = some 1 := by kernel_rfl
theorem sh225 : shapeOf Tryz.prog 225 = some (true, 4) := by kernel_rfl
theorem sz225 : (Tryz.prog.info? 225).map (·.size) = some 4 := by kernel_rfl
theorem zr225 : zerosOf Tryz.prog 225 = some [.t (.leaf (.string ⟨#[]⟩)), .t (.leaf (.int .i64 0)), .t (.leaf (.string ⟨#[]⟩)), .nil] := by kernel_rfl
theorem pl225 : placesOf Tryz.prog 225 = some [(0, 1), (1, 3)] := by kernel_rfl
theorem sh229 : shapeOf Tryz.prog 229 = some (true, 11) := by kernel_rfl
theorem sz229 : (Tryz.prog.info? 229).map (·.size) = some 11 := by kernel_rfl
theorem zr229 : zerosOf Tryz.prog 229 = some [.t (.leaf (.string ⟨#[]⟩)), .nil, .t (.leaf (.int .i64 0)), .t (.leaf (.string ⟨#[]⟩)), .t (.leaf (.string ⟨#[]⟩)), .t (.leaf (.int .i64 0)), .t (.leaf (.int .i64 0)), .t (.leaf (.string ⟨#[]⟩)), .nil, .nil, .nil] := by kernel_rfl
theorem pl229 : placesOf Tryz.prog 229 = some [(0, 1), (1, 1), (2, 9)] := by kernel_rfl
theorem sh232 : shapeOf Tryz.prog 232 = some (false, 1) := by kernel_rfl
theorem sz232 : (Tryz.prog.info? 232).map (·.size) = some 1 := by kernel_rfl
theorem el232 : elemOf? Tryz.prog 232 = some (277, 16, 264) := by kernel_rfl
theorem ze232 : (Tryz.prog.info? 277).bind (fun i => i.zero.map (fun z => z.cells.size)) = some 16 := by kernel_rfl
theorem zr232 : zerosOf Tryz.prog 232 = some [.nil] := by kernel_rfl
theorem sh234 : shapeOf Tryz.prog 234 = some (true, 5) := by kernel_rfl
theorem sz234 : (Tryz.prog.info? 234).map (·.size) = some 5 := by kernel_rfl
theorem zr234 : zerosOf Tryz.prog 234 = some [.t (.leaf (.string ⟨#[]⟩)), .nil, .t (.leaf (.bool false)), .t (.leaf (.bool false)), .nil] := by kernel_rfl
theorem sh236 : shapeOf Tryz.prog 236 = some (false, 1) := by kernel_rfl
theorem sz236 : (Tryz.prog.info? 236).map (·.size) = some 1 := by kernel_rfl
theorem el236 : elemOf? Tryz.prog 236 = some (280, 2, 40) := by kernel_rfl
theorem ze236 : (Tryz.prog.info? 280).bind (fun i => i.zero.map (fun z => z.cells.size)) = some 2 := by kernel_rfl
theorem zr236 : zerosOf Tryz.prog 236 = some [.nil] := by kernel_rfl
theorem sh238 : shapeOf Tryz.prog 238 = some (true, 3) := by kernel_rfl
theorem sz238 : (Tryz.prog.info? 238).map (·.size) = some 3 := by kernel_rfl
theorem zr238 : zerosOf Tryz.prog 238 = some [.t (.leaf (.string ⟨#[]⟩)), .nil, .nil] := by kernel_rfl
theorem sh240 : shapeOf Tryz.prog 240 = some (false, 1) := by kernel_rfl
theorem sz240 : (Tryz.prog.info? 240).map (·.size) = some 1 := by kernel_rfl
theorem el240 : elemOf? Tryz.prog 240 = some (283, 11, 184) := by kernel_rfl
theorem ze240 : (Tryz.prog.info? 283).bind (fun i => i.zero.map (fun z => z.cells.size)) = some 11 := by kernel_rfl
theorem zr240 : zerosOf Tryz.prog 240 = some [.nil] := by kernel_rfl
theorem sh242 : shapeOf Tryz.prog 242 = some (true, 12) := by kernel_rfl
theorem sz242 : (Tryz.prog.info? 242).map (·.size) = some 12 := by kernel_rfl
theorem zr242 : zerosOf Tryz.prog 242 = some [.t (.leaf (.string ⟨#[]⟩)), .nil, .t (.leaf (.int .i64 0)), .t (.leaf (.string ⟨#[]⟩)), .nil, .nil, .t (.leaf (.bool false)), .t (.leaf (.bool false)), .t (.leaf (.int .i64 0)), .t (.leaf (.string ⟨#[]⟩)), .nil, .nil] := by kernel_rfl
theorem sh244 : shapeOf Tryz.prog 244 = some (false, 1) := by kernel_rfl
theorem sz244 : (Tryz.prog.info? 244).map (·.size) = some 1 := by kernel_rfl
theorem el244 : elemOf? Tryz.prog 244 = some (286, 4, 64) := by kernel_rfl
theorem ze244 : (Tryz.prog.info? 286).bind (fun i => i.zero.map (fun z => z.cells.size)) = some 4 := by kernel_rfl
theorem zr244 : zerosOf Tryz.prog 244 = some [.nil] := by kernel_rfl
theorem sh245 : shapeOf Tryz.prog 245 = some (false, 1) := by kernel_rfl
theorem sz245 : (Tryz.prog.info? 245).map (·.size) = some 1 := by kernel_rfl
theorem el245 : elemOf? Tryz.prog 245 = some (248, 9, 144) := by kernel_rfl
theorem ze245 : (Tryz.prog.info? 248).bind (fun i => i.zero.map (fun z => z.cells.size)) = some 9 := by kernel_rfl
theorem zr245 : zerosOf Tryz.prog 245 = some [.nil] := by kernel_rfl
theorem sh246 : shapeOf Tryz.prog 246 = some (false, 1) := by kernel_rfl
theorem sz246 : (Tryz.prog.info? 246).map (·.size) = some 1 := by kernel_rfl
theorem el246 : elemOf? Tryz.prog 246 = some (299, 11, 184) := by kernel_rfl
theorem ze246 : (Tryz.prog.info? 299).bind (fun i => i.zero.map (fun z => z.cells.size)) = some 11 := by kernel_rfl
theorem zr246 : zerosOf Tryz.prog 246 = some [.nil] := by kernel_rfl
theorem sh248 : shapeOf Tryz.prog 248 = some (true, 9) := by kernel_rfl
theorem sz248 : (Tryz.prog.info? 248).map (·.size) = some 9 := by kernel_rfl
theorem zr248 : zerosOf Tryz.prog 248 = some [.t (.leaf (.int .i64 0)), .t (.leaf (.string ⟨#[]⟩)), .t (.leaf (.string ⟨#[]⟩)), .t (.leaf (.int .i64 0)), .t (.leaf (.int .i64 0)), .t (.leaf (.string ⟨#[]⟩)), .nil, .nil, .nil] := by kernel_rfl
theorem sh250 : shapeOf Tryz.prog 250 = some (true, 16) := by kernel_rfl
theorem sz250 : (Tryz.prog.info? 250).map (·.size) = some 16 := by kernel_rfl
theorem zr250 : zerosOf Tryz.prog 250 = some [.t (.leaf (.string ⟨#[]⟩)), .nil, .nil, .nil, .t (.leaf (.int .i64 0)), .t (.leaf (.string ⟨#[]⟩)), .nil, .t (.leaf (.int .i64 0)), .t (.leaf (.string ⟨#[]⟩)), .t (.leaf (.string ⟨#[]⟩)), .t (.leaf (.int .i64 0)), .t (.leaf (.int .i64 0)), .t (.leaf (.string ⟨#[]⟩)), .nil, .nil, .nil] := by kernel_rfl
theorem sh258 : shapeOf Tryz.prog 258 = some (true, 2) := by kernel_rfl
theorem sz258 : (Tryz.prog.info? 258).map (·.size) = some 2 := by kernel_rfl
theorem zr258 : zerosOf Tryz.prog 258 = some [.t (.leaf (.string ⟨#[]⟩)), .nil] := by kernel_rfl
theorem sh260 : shapeOf Tryz.prog 260 = some (true, 11) := by kernel_rfl
theorem sz260 : (Tryz.prog.info? 260).map (·.size) = some 11 := by kernel_rfl
theorem zr260 : zerosOf Tryz.prog 260 = some [.t (.leaf (.string ⟨#[]⟩)), .nil, .t (.leaf (.int .i64 0)), .t (.leaf (.string ⟨#[]⟩)), .t (.leaf (.string ⟨#[]⟩)), .t (.leaf (.int .i64 0)), .t (.leaf (.int .i64 0)), .t (.leaf (.string ⟨#[]⟩)), .nil, .nil, .nil] := by kernel_rfl
theorem sh277 : shapeOf Tryz.prog 277 = some (true, 16) := by kernel_rfl
theorem sz277 : (Tryz.prog.info? 277).map (·.size) = some 16 := by kernel_rfl
theorem zr277 : zerosOf Tryz.prog 277 = some [.t (.leaf (.string ⟨#[]⟩)), .nil, .t (.leaf (.int .i64 0)), .t (.leaf (.string ⟨#[]⟩)), .nil, .t (.leaf (.bool false)), .nil, .t (.leaf (.int .i64 0)), .t (.leaf (.string ⟨#[]⟩)), .t (.leaf (.string ⟨#[]⟩)), .t (.leaf (.int .i64 0)), .t (.leaf (.int .i64 0)), .t (.leaf (.string ⟨#[]⟩)), .nil, .nil, .nil] := by kernel_rfl
theorem sh280 : shapeOf Tryz.prog 280 = some (true, 2) := by kernel_rfl
theorem sz280 : (Tryz.prog.info? 280).map (·.size) = some 2 := by kernel_rfl
theorem zr280 : zerosOf Tryz.prog 280 = some [.t (.leaf (.string ⟨#[]⟩)), .nil] := by kernel_rfl
theorem sh283 : shapeOf Tryz.prog 283 = some (true, 11) := by kernel_rfl
theorem sz283 : (Tryz.prog.info? 283).map (·.size) = some 11 := by kernel_rfl
theorem zr283 : zerosOf Tryz.prog 283 = some [.t (.leaf (.string ⟨#[]⟩)), .nil, .t (.leaf (.int .i64 0)), .t (.leaf (.string ⟨#[]⟩)), .t (.leaf (.string ⟨#[]⟩)), .t (.leaf (.int .i64 0)), .t (.leaf (.int .i64 0)), .t (.leaf (.string ⟨#[]⟩)), .nil, .nil, .nil] := by kernel_rfl
theorem sh286 : shapeOf Tryz.prog 286 = some (true, 4) := by kernel_rfl
theorem sz286 : (Tryz.prog.info? 286).map (·.size) = some 4 := by kernel_rfl
theorem zr286 : zerosOf Tryz.prog 286 = some [.t (.leaf (.string ⟨#[]⟩)), .t (.leaf (.int .i64 0)), .t (.leaf (.string ⟨#[]⟩)), .nil] := by kernel_rfl
theorem sh299 : shapeOf Tryz.prog 299 = some (true, 11) := by kernel_rfl
theorem sz299 : (Tryz.prog.info? 299).map (·.size) = some 11 := by kernel_rfl
theorem zr299 : zerosOf Tryz.prog 299 = some [.t (.leaf (.string ⟨#[]⟩)), .nil, .t (.leaf (.int .i64 0)), .t (.leaf (.string ⟨#[]⟩)), .t (.leaf (.string ⟨#[]⟩)), .t (.leaf (.int .i64 0)), .t (.leaf (.int .i64 0)), .t (.leaf (.string ⟨#[]⟩)), .nil, .nil, .nil] := by kernel_rfl
theorem fo24_0 : fieldOff Tryz.prog 24 0 = some 0 := by kernel_rfl
theorem fo26_0 : fieldOff Tryz.prog 26 0 = some 0 := by kernel_rfl
theorem fo26_1 : fieldOff Tryz.prog 26 1 = some 1 := by kernel_rfl
theorem fo31_0 : fieldOff Tryz.prog 31 0 = some 0 := by kernel_rfl
theorem fo33_0 : fieldOff Tryz.prog 33 0 = some 0 := by kernel_rfl
theorem fo33_1 : fieldOff Tryz.prog 33 1 = some 1 := by kernel_rfl
theorem fo39_0 : fieldOff Tryz.prog 39 0 = some 0 := by kernel_rfl
theorem fo39_1 : fieldOff Tryz.prog 39 1 = some 1 := by kernel_rfl
theorem fo39_2 : fieldOff Tryz.prog 39 2 = some 2 := by kernel_rfl
theorem fo41_0 : fieldOff Tryz.prog 41 0 = some 0 := by kernel_rfl
theorem fo41_1 : fieldOff Tryz.prog 41 1 = some 1 := by kernel_rfl
theorem fo47_0 : fieldOff Tryz.prog 47 0 = some 0 := by kernel_rfl
theorem fo47_1 : fieldOff Tryz.prog 47 1 = some 1 := by kernel_rfl
theorem fo47_2 : fieldOff Tryz.prog 47 2 = some 2 := by kernel_rfl
theorem fo49_0 : fieldOff Tryz.prog 49 0 = some 0 := by kernel_rfl
theorem fo49_1 : fieldOff Tryz.prog 49 1 = some 1 := by kernel_rfl
theorem fo94_0 : fieldOff Tryz.prog 94 0 = some 0 := by kernel_rfl
theorem fo94_1 : fieldOff Tryz.prog 94 1 = some 1 := by kernel_rfl
theorem fo94_2 : fieldOff Tryz.prog 94 2 = some 2 := by kernel_rfl
theorem fo94_3 : fieldOff Tryz.prog 94 3 = some 3 := by kernel_rfl
theorem fo94_4 : fieldOff Tryz.prog 94 4 = some 4 := by kernel_rfl
theorem fo103_0 : fieldOff Tryz.prog 103 0 = some 0 := by kernel_rfl
theorem fo103_1 : fieldOff Tryz.prog 103 1 = some 1 := by kernel_rfl
theorem fo103_2 : fieldOff Tryz.prog 103 2 = some 2 := by kernel_rfl
theorem fo103_3 : fieldOff Tryz.prog 103 3 = some 3 := by kernel_rfl
theorem fo103_4 : fieldOff Tryz.prog 103 4 = some 4 := by kernel_rfl
theorem fo103_5 : fieldOff Tryz.prog 103 5 = some 7 := by kernel_rfl
theorem fo103_6 : fieldOff Tryz.prog 103 6 = some 8 := by kernel_rfl
theorem fo105_0 : fieldOff Tryz.prog 105 0 = some 0 := by kernel_rfl
theorem fo105_1 : fieldOff Tryz.prog 105 1 = some 1 := by kernel_rfl
theorem fo105_2 : fieldOff Tryz.prog 105 2 = some 2 := by kernel_rfl
theorem fo105_3 : fieldOff Tryz.prog 105 3 = some 3 := by kernel_rfl
theorem fo105_4 : fieldOff Tryz.prog 105 4 = some 4 := by kernel_rfl
theorem fo105_5 : fieldOff Tryz.prog 105 5 = some 7 := by kernel_rfl
theorem fo113_0 : fieldOff Tryz.prog 113 0 = some 0 := by kernel_rfl
theorem fo113_1 : fieldOff Tryz.prog 113 1 = some 1 := by kernel_rfl
theorem fo113_2 : fieldOff Tryz.prog 113 2 = some 2 := by kernel_rfl
theorem fo113_3 : fieldOff Tryz.prog 113 3 = some 5 := by kernel_rfl
theorem fo113_4 : fieldOff Tryz.prog 113 4 = some 6 := by kernel_rfl
theorem fo113_5 : fieldOff Tryz.prog 113 5 = some 7 := by kernel_rfl
theorem fo113_6 : fieldOff Tryz.prog 113 6 = some 8 := by kernel_rfl
theorem fo113_7 : fieldOff Tryz.prog 113 7 = some 11 := by kernel_rfl
theorem fo126_0 : fieldOff Tryz.prog 126 0 = some 0 := by kernel_rfl
theorem fo126_1 : fieldOff Tryz.prog 126 1 = some 1 := by kernel_rfl
theorem fo126_2 : fieldOff Tryz.prog 126 2 = some 2 := by kernel_rfl
theorem fo126_3 : fieldOff Tryz.prog 126 3 = some 3 := by kernel_rfl
theorem fo126_4 : fieldOff Tryz.prog 126 4 = some 4 := by kernel_rfl
theorem fo126_5 : fieldOff Tryz.prog 126 5 = some 5 := by kernel_rfl
theorem fo147_0 : fieldOff Tryz.prog 147 0 = some 0 := by kernel_rfl
theorem fo147_1 : fieldOff Tryz.prog 147 1 = some 4 := by kernel_rfl
theorem fo147_2 : fieldOff Tryz.prog 147 2 = some 5 := by kernel_rfl
theorem fo166_0 : fieldOff Tryz.prog 166 0 = some 0 := by kernel_rfl
theorem fo166_1 : fieldOff Tryz.prog 166 1 = some 1 := by kernel_rfl
theorem fo166_2 : fieldOff Tryz.prog 166 2 = some 2 := by kernel_rfl
theorem fo166_3 : fieldOff Tryz.prog 166 3 = some 3 := by kernel_rfl
theorem fo166_4 : fieldOff Tryz.prog 166 4 = some 4 := by kernel_rfl
theorem fo166_5 : fieldOff Tryz.prog 166 5 = some 5 := by kernel_rfl
theorem fo171_0 : fieldOff Tryz.prog 171 0 = some 0 := by kernel_rfl
theorem fo171_1 : fieldOff Tryz.prog 171 1 = some 1 := by kernel_rfl
theorem fo171_2 : fieldOff Tryz.prog 171 2 = some 2 := by kernel_rfl
theorem fo191_0 : fieldOff Tryz.prog 191 0 = some 0 := by kernel_rfl
theorem fo191_1 : fieldOff Tryz.prog 191 1 = some 1 := by kernel_rfl
theorem fo191_2 : fieldOff Tryz.prog 191 2 = some 2 := by kernel_rfl
theorem fo191_3 : fieldOff Tryz.prog 191 3 = some 5 := by kernel_rfl
theorem fo191_4 : fieldOff Tryz.prog 191 4 = some 6 := by kernel_rfl
theorem fo191_5 : fieldOff Tryz.prog 191 5 = some 7 := by kernel_rfl
theorem fo199_0 : fieldOff Tryz.prog 199 0 = some 0 := by kernel_rfl
theorem fo199_1 : fieldOff Tryz.prog 199 1 = some 1 := by kernel_rfl
theorem fo225_0 : fieldOff Tryz.prog 225 0 = some 0 := by kernel_rfl
theorem fo225_1 : fieldOff Tryz.prog 225 1 = some 1 := by kernel_rfl
theorem fo229_0 : fieldOff Tryz.prog 229 0 = some 0 := by kernel_rfl
theorem fo229_1 : fieldOff Tryz.prog 229 1 = some 1 := by kernel_rfl
theorem fo229_2 : fieldOff Tryz.prog 229 2 = some 2 := by kernel_rfl
theorem fo234_0 : fieldOff Tryz.prog 234 0 = some 0 := by kernel_rfl
theorem fo234_1 : fieldOff Tryz.prog 234 1 = some 1 := by kernel_rfl
theorem fo234_2 : fieldOff Tryz.prog 234 2 = some 2 := by kernel_rfl
theorem fo234_3 : fieldOff Tryz.prog 234 3 = some 3 := by kernel_rfl
theorem fo234_4 : fieldOff Tryz.prog 234 4 = some 4 := by kernel_rfl
theorem fo238_0 : fieldOff Tryz.prog 238 0 = some 0 := by kernel_rfl
theorem fo238_1 : fieldOff Tryz.prog 238 1 = some 1 := by kernel_rfl
theorem fo238_2 : fieldOff Tryz.prog 238 2 = some 2 := by kernel_rfl
theorem fo242_0 : fieldOff Tryz.prog 242 0 = some 0 := by kernel_rfl
theorem fo242_1 : fieldOff Tryz.prog 242 1 = some 1 := by kernel_rfl
theorem fo242_2 : fieldOff Tryz.prog 242 2 = some 2 := by kernel_rfl
theorem fo242_3 : fieldOff Tryz.prog 242 3 = some 5 := by kernel_rfl
theorem fo242_4 : fieldOff Tryz.prog 242 4 = some 6 := by kernel_rfl
theorem fo242_5 : fieldOff Tryz.prog 242 5 = some 7 := by kernel_rfl
theorem fo242_6 : fieldOff Tryz.prog 242 6 = some 8 := by kernel_rfl
theorem fo242_7 : fieldOff Tryz.prog 242 7 = some 11 := by kernel_rfl
theorem fo248_0 : fieldOff Tryz.prog 248 0 = some 0 := by kernel_rfl
theorem fo248_1 : fieldOff Tryz.prog 248 1 = some 1 := by kernel_rfl
theorem fo248_2 : fieldOff Tryz.prog 248 2 = some 2 := by kernel_rfl
theorem fo248_3 : fieldOff Tryz.prog 248 3 = some 3 := by kernel_rfl
theorem fo248_4 : fieldOff Tryz.prog 248 4 = some 4 := by kernel_rfl
theorem fo248_5 : fieldOff Tryz.prog 248 5 = some 7 := by kernel_rfl
theorem fo248_6 : fieldOff Tryz.prog 248 6 = some 8 := by kernel_rfl
theorem fo250_0 : fieldOff Tryz.prog 250 0 = some 0 := by kernel_rfl
theorem fo250_1 : fieldOff Tryz.prog 250 1 = some 1 := by kernel_rfl
theorem fo250_2 : fieldOff Tryz.prog 250 2 = some 2 := by kernel_rfl
theorem fo250_3 : fieldOff Tryz.prog 250 3 = some 3 := by kernel_rfl
theorem fo250_4 : fieldOff Tryz.prog 250 4 = some 4 := by kernel_rfl
theorem fo250_5 : fieldOff Tryz.prog 250 5 = some 7 := by kernel_rfl
theorem fo258_0 : fieldOff Tryz.prog 258 0 = some 0 := by kernel_rfl
theorem fo258_1 : fieldOff Tryz.prog 258 1 = some 1 := by kernel_rfl
theorem fo260_0 : fieldOff Tryz.prog 260 0 = some 0 := by kernel_rfl
theorem fo260_1 : fieldOff Tryz.prog 260 1 = some 1 := by kernel_rfl
theorem fo260_2 : fieldOff Tryz.prog 260 2 = some 2 := by kernel_rfl
theorem fo277_0 : fieldOff Tryz.prog 277 0 = some 0 := by kernel_rfl
theorem fo277_1 : fieldOff Tryz.prog 277 1 = some 1 := by kernel_rfl
theorem fo277_2 : fieldOff Tryz.prog 277 2 = some 2 := by kernel_rfl
theorem fo277_3 : fieldOff Tryz.prog 277 3 = some 5 := by kernel_rfl
theorem fo277_4 : fieldOff Tryz.prog 277 4 = some 6 := by kernel_rfl
theorem fo277_5 : fieldOff Tryz.prog 277 5 = some 7 := by kernel_rfl
theorem fo280_0 : fieldOff Tryz.prog 280 0 = some 0 := by kernel_rfl
theorem fo280_1 : fieldOff Tryz.prog 280 1 = some 1 := by kernel_rfl
theorem fo283_0 : fieldOff Tryz.prog 283 0 = some 0 := by kernel_rfl
theorem fo283_1 : fieldOff Tryz.prog 283 1 = some 1 := by kernel_rfl
theorem fo283_2 : fieldOff Tryz.prog 283 2 = some 2 := by kernel_rfl
theorem fo286_0 : fieldOff Tryz.prog 286 0 = some 0 := by kernel_rfl
theorem fo286_1 : fieldOff Tryz.prog 286 1 = some 1 := by kernel_rfl
theorem fo299_0 : fieldOff Tryz.prog 299 0 = some 0 := by kernel_rfl
theorem fo299_1 : fieldOff Tryz.prog 299 1 = some 1 := by kernel_rfl
theorem fo299_2 : fieldOff Tryz.prog 299 2 = some 2 := by kernel_rfl
theorem mixed : Tryz.prog.follows .mixedOrders = true := by kernel_rfl
end Go.Proofs.YtnakkelglbcecaaGreat
