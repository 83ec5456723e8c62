/- What the rules ask of the program's types. No conditions. -/
import Derived.Test.YtnakkelglbcecaaPm10
import Derived.Test.YtnakkelglbcecaaProg
namespace Go.Proofs.Ytnakkelglbcecaa
open Go.RowKit Go.Proofs

theorem sh3 : shapeOf Try.prog 3 = some (false, 1) := by kernel_rfl
theorem sz3 : (Try.prog.info? 3).map (·.size) = some 1 := by kernel_rfl
theorem zr3 : zerosOf Try.prog 3 = some [.t (.leaf (.int .i64 0))] := by kernel_rfl
theorem sh4 : shapeOf Try.prog 4 = some (false, 1) := by kernel_rfl
theorem sz4 : (Try.prog.info? 4).map (·.size) = some 1 := by kernel_rfl
theorem zr4 : zerosOf Try.prog 4 = some [.t (.leaf (.bool false))] := by kernel_rfl
theorem sh9 : shapeOf Try.prog 9 = some (false, 1) := by kernel_rfl
theorem sz9 : (Try.prog.info? 9).map (·.size) = some 1 := by kernel_rfl
theorem zr9 : zerosOf Try.prog 9 = some [.t (.leaf (.string ⟨#[]⟩))] := by kernel_rfl
theorem sh22 : shapeOf Try.prog 22 = some (false, 1) := by kernel_rfl
theorem sz22 : (Try.prog.info? 22).map (·.size) = some 1 := by kernel_rfl
theorem el22 : elemOf? Try.prog 22 = some (75, 6, 136) := by kernel_rfl
theorem ze22 : (Try.prog.info? 75).bind (fun i => i.zero.map (fun z => z.cells.size)) = some 6 := by kernel_rfl
theorem zr22 : zerosOf Try.prog 22 = some [.nil] := by kernel_rfl
theorem sh24 : shapeOf Try.prog 24 = some (true, 1) := by kernel_rfl
theorem sz24 : (Try.prog.info? 24).map (·.size) = some 1 := by kernel_rfl
theorem zr24 : zerosOf Try.prog 24 = some [.nil] := by kernel_rfl
theorem sh25 : shapeOf Try.prog 25 = some (false, 1) := by kernel_rfl
theorem sz25 : (Try.prog.info? 25).map (·.size) = some 1 := by kernel_rfl
theorem el25 : elemOf? Try.prog 25 = some (27, 3, 48) := by kernel_rfl
theorem ze25 : (Try.prog.info? 27).bind (fun i => i.zero.map (fun z => z.cells.size)) = some 3 := by kernel_rfl
theorem zr25 : zerosOf Try.prog 25 = some [.nil] := by kernel_rfl
theorem sh27 : shapeOf Try.prog 27 = some (true, 3) := by kernel_rfl
theorem sz27 : (Try.prog.info? 27).map (·.size) = some 3 := by kernel_rfl
theorem zr27 : zerosOf Try.prog 27 = some [.t (.leaf (.int .i64 0)), .t (.leaf (.string ⟨#[]⟩)), .nil] := by kernel_rfl
theorem sh31 : shapeOf Try.prog 31 = some (false, 1) := by kernel_rfl
theorem sz31 : (Try.prog.info? 31).map (·.size) = some 1 := by kernel_rfl
theorem el31 : elemOf? Try.prog 31 = some (63, 6, 136) := by kernel_rfl
theorem ze31 : (Try.prog.info? 63).bind (fun i => i.zero.map (fun z => z.cells.size)) = some 6 := by kernel_rfl
theorem zr31 : zerosOf Try.prog 31 = some [.nil] := by kernel_rfl
theorem sh33 : shapeOf Try.prog 33 = some (true, 1) := by kernel_rfl
theorem sz33 : (Try.prog.info? 33).map (·.size) = some 1 := by kernel_rfl
theorem zr33 : zerosOf Try.prog 33 = some [.nil] := by kernel_rfl
theorem sh35 : shapeOf Try.prog 35 = some (false, 1) := by kernel_rfl
theorem sz35 : (Try.prog.info? 35).map (·.size) = some 1 := by kernel_rfl
theorem el35 : elemOf? Try.prog 35 = some (37, 3, 48) := by kernel_rfl
theorem ze35 : (Try.prog.info? 37).bind (fun i => i.zero.map (fun z => z.cells.size)) = some 3 := by kernel_rfl
theorem zr35 : zerosOf Try.prog 35 = some [.nil] := by kernel_rfl
theorem sh37 : shapeOf Try.prog 37 = some (true, 3) := by kernel_rfl
theorem sz37 : (Try.prog.info? 37).map (·.size) = some 3 := by kernel_rfl
theorem zr37 : zerosOf Try.prog 37 = some [.t (.leaf (.int .i64 0)), .t (.leaf (.string ⟨#[]⟩)), .nil] := by kernel_rfl
theorem sh47 : shapeOf Try.prog 47 = some (false, 1) := by kernel_rfl
theorem sz47 : (Try.prog.info? 47).map (·.size) = some 1 := by kernel_rfl
theorem el47 : elemOf? Try.prog 47 = some (9, 1, 16) := by kernel_rfl
theorem ze47 : (Try.prog.info? 9).bind (fun i => i.zero.map (fun z => z.cells.size)) = some 1 := by kernel_rfl
theorem zr47 : zerosOf Try.prog 47 = some [.nil] := by kernel_rfl
theorem sh48 : shapeOf Try.prog 48 = some (false, 1) := by kernel_rfl
theorem sz48 : (Try.prog.info? 48).map (·.size) = some 1 := by kernel_rfl
theorem el48 : elemOf? Try.prog 48 = some (178, 2, 40) := by kernel_rfl
theorem ze48 : (Try.prog.info? 178).bind (fun i => i.zero.map (fun z => z.cells.size)) = some 2 := by kernel_rfl
theorem zr48 : zerosOf Try.prog 48 = some [.nil] := by kernel_rfl
theorem sh50 : shapeOf Try.prog 50 = some (true, 3) := by kernel_rfl
theorem sz50 : (Try.prog.info? 50).map (·.size) = some 3 := by kernel_rfl
theorem zr50 : zerosOf Try.prog 50 = some [.t (.leaf (.string ⟨#[]⟩)), .nil, .nil] := by kernel_rfl
theorem pl50 : placesOf Try.prog 50 = some [(0, 1), (1, 1), (2, 1)] := by kernel_rfl
theorem sh58 : shapeOf Try.prog 58 = some (false, 1) := by kernel_rfl
theorem sz58 : (Try.prog.info? 58).map (·.size) = some 1 := by kernel_rfl
theorem el58 : elemOf? Try.prog 58 = some (68, 5, 72) := by kernel_rfl
theorem ze58 : (Try.prog.info? 68).bind (fun i => i.zero.map (fun z => z.cells.size)) = some 5 := by kernel_rfl
theorem zr58 : zerosOf Try.prog 58 = some [.nil] := by kernel_rfl
theorem sh59 : shapeOf Try.prog 59 = some (false, 1) := by kernel_rfl
theorem sz59 : (Try.prog.info? 59).map (·.size) = some 1 := by kernel_rfl
theorem el59 : elemOf? Try.prog 59 = some (50, 3, 64) := by kernel_rfl
theorem ze59 : (Try.prog.info? 50).bind (fun i => i.zero.map (fun z => z.cells.size)) = some 3 := by kernel_rfl
theorem zr59 : zerosOf Try.prog 59 = some [.nil] := by kernel_rfl
theorem sh60 : shapeOf Try.prog 60 = some (false, 1) := by kernel_rfl
theorem sz60 : (Try.prog.info? 60).map (·.size) = some 1 := by kernel_rfl
theorem el60 : elemOf? Try.prog 60 = some (125, 12, 192) := by kernel_rfl
theorem ze60 : (Try.prog.info? 125).bind (fun i => i.zero.map (fun z => z.cells.size)) = some 12 := by kernel_rfl
theorem zr60 : zerosOf Try.prog 60 = some [.nil] := by kernel_rfl
theorem sh61 : shapeOf Try.prog 61 = some (false, 1) := by kernel_rfl
theorem sz61 : (Try.prog.info? 61).map (·.size) = some 1 := by kernel_rfl
theorem el61 : elemOf? Try.prog 61 = some (133, 16, 280) := by kernel_rfl
theorem ze61 : (Try.prog.info? 133).bind (fun i => i.zero.map (fun z => z.cells.size)) = some 16 := by kernel_rfl
theorem zr61 : zerosOf Try.prog 61 = some [.nil] := by kernel_rfl
theorem sh63 : shapeOf Try.prog 63 = some (true, 6) := by kernel_rfl
theorem sz63 : (Try.prog.info? 63).map (·.size) = some 6 := by kernel_rfl
theorem zr63 : zerosOf Try.prog 63 = some [.t (.leaf (.string ⟨#[]⟩)), .nil, .nil, .nil, .nil, .nil] := by kernel_rfl
theorem sh66 : shapeOf Try.prog 66 = some (false, 1) := by kernel_rfl
theorem sz66 : (Try.prog.info? 66).map (·.size) = some 1 := by kernel_rfl
theorem el66 : elemOf? Try.prog 66 = some (175, 16, 264) := by kernel_rfl
theorem ze66 : (Try.prog.info? 175).bind (fun i => i.zero.map (fun z => z.cells.size)) = some 16 := by kernel_rfl
theorem zr66 : zerosOf Try.prog 66 = some [.nil] := by kernel_rfl
theorem sh68 : shapeOf Try.prog 68 = some (true, 5) := by kernel_rfl
theorem sz68 : (Try.prog.info? 68).map (·.size) = some 5 := by kernel_rfl
theorem zr68 : zerosOf Try.prog 68 = some [.t (.leaf (.string ⟨#[]⟩)), .nil, .t (.leaf (.bool false)), .t (.leaf (.bool false)), .nil] := by kernel_rfl
theorem pl68 : placesOf Try.prog 68 = some [(0, 1), (1, 1), (2, 1), (3, 1), (4, 1)] := by kernel_rfl
theorem sh70 : shapeOf Try.prog 70 = some (false, 1) := by kernel_rfl
theorem sz70 : (Try.prog.info? 70).map (·.size) = some 1 := by kernel_rfl
theorem el70 : elemOf? Try.prog 70 = some (102, 5, 72) := by kernel_rfl
theorem ze70 : (Try.prog.info? 102).bind (fun i => i.zero.map (fun z => z.cells.size)) = some 5 := by kernel_rfl
theorem zr70 : zerosOf Try.prog 70 = some [.nil] := by kernel_rfl
theorem sh71 : shapeOf Try.prog 71 = some (false, 1) := by kernel_rfl
theorem sz71 : (Try.prog.info? 71).map (·.size) = some 1 := by kernel_rfl
theorem el71 : elemOf? Try.prog 71 = some (106, 3, 64) := by kernel_rfl
theorem ze71 : (Try.prog.info? 106).bind (fun i => i.zero.map (fun z => z.cells.size)) = some 3 := by kernel_rfl
theorem zr71 : zerosOf Try.prog 71 = some [.nil] := by kernel_rfl
theorem sh72 : shapeOf Try.prog 72 = some (false, 1) := by kernel_rfl
theorem sz72 : (Try.prog.info? 72).map (·.size) = some 1 := by kernel_rfl
theorem el72 : elemOf? Try.prog 72 = some (111, 12, 192) := by kernel_rfl
theorem ze72 : (Try.prog.info? 111).bind (fun i => i.zero.map (fun z => z.cells.size)) = some 12 := by kernel_rfl
theorem zr72 : zerosOf Try.prog 72 = some [.nil] := by kernel_rfl
theorem sh73 : shapeOf Try.prog 73 = some (false, 1) := by kernel_rfl
theorem sz73 : (Try.prog.info? 73).map (·.size) = some 1 := by kernel_rfl
theorem el73 : elemOf? Try.prog 73 = some (119, 16, 280) := by kernel_rfl
theorem ze73 : (Try.prog.info? 119).bind (fun i => i.zero.map (fun z => z.cells.size)) = some 16 := by kernel_rfl
theorem zr73 : zerosOf Try.prog 73 = some [.nil] := by kernel_rfl
theorem sh75 : shapeOf Try.prog 75 = some (true, 6) := by kernel_rfl
theorem sz75 : (Try.prog.info? 75).map (·.size) = some 6 := by kernel_rfl
theorem zr75 : zerosOf Try.prog 75 = some [.t (.leaf (.string ⟨#[]⟩)), .nil, .nil, .nil, .nil, .nil] := by kernel_rfl
theorem sh100 : shapeOf Try.prog 100 = some (false, 1) := by kernel_rfl
theorem sz100 : (Try.prog.info? 100).map (·.size) = some 1 := by kernel_rfl
theorem el100 : elemOf? Try.prog 100 = some (159, 16, 264) := by kernel_rfl
theorem ze100 : (Try.prog.info? 159).bind (fun i => i.zero.map (fun z => z.cells.size)) = some 16 := by kernel_rfl
theorem zr100 : zerosOf Try.prog 100 = some [.nil] := by kernel_rfl
theorem sh102 : shapeOf Try.prog 102 = some (true, 5) := by kernel_rfl
theorem sz102 : (Try.prog.info? 102).map (·.size) = some 5 := by kernel_rfl
theorem zr102 : zerosOf Try.prog 102 = some [.t (.leaf (.string ⟨#[]⟩)), .nil, .t (.leaf (.bool false)), .t (.leaf (.bool false)), .nil] := by kernel_rfl
theorem sh104 : shapeOf Try.prog 104 = some (false, 1) := by kernel_rfl
theorem sz104 : (Try.prog.info? 104).map (·.size) = some 1 := by kernel_rfl
theorem el104 : elemOf? Try.prog 104 = some (162, 2, 40) := by kernel_rfl
theorem ze104 : (Try.prog.info? 162).bind (fun i => i.zero.map (fun z => z.cells.size)) = some 2 := by kernel_rfl
theorem zr104 : zerosOf Try.prog 104 = some [.nil] := by kernel_rfl
theorem sh106 : shapeOf Try.prog 106 = some (true, 3) := by kernel_rfl
theorem sz106 : (Try.prog.info? 106).map (·.size) = some 3 := by kernel_rfl
theorem zr106 : zerosOf Try.prog 106 = some [.t (.leaf (.string ⟨#[]⟩)), .nil, .nil] := by kernel_rfl
theorem sh108 : shapeOf Try.prog 108 = some (false, 1) := by kernel_rfl
theorem sz108 : (Try.prog.info? 108).map (·.size) = some 1 := by kernel_rfl
theorem el108 : elemOf? Try.prog 108 = some (165, 4, 64) := by kernel_rfl
theorem ze108 : (Try.prog.info? 165).bind (fun i => i.zero.map (fun z => z.cells.size)) = some 4 := by kernel_rfl
theorem zr108 : zerosOf Try.prog 108 = some [.nil] := by kernel_rfl
theorem sh109 : shapeOf Try.prog 109 = some (false, 1) := by kernel_rfl
theorem sz109 : (Try.prog.info? 109).map (·.size) = some 1 := by kernel_rfl
theorem el109 : elemOf? Try.prog 109 = some (168, 11, 184) := by kernel_rfl
theorem ze109 : (Try.prog.info? 168).bind (fun i => i.zero.map (fun z => z.cells.size)) = some 11 := by kernel_rfl
theorem zr109 : zerosOf Try.prog 109 = some [.nil] := by kernel_rfl
theorem sh111 : shapeOf Try.prog 111 = some (true, 12) := by kernel_rfl
theorem sz111 : (Try.prog.info? 111).map (·.size) = some 12 := by kernel_rfl
theorem zr111 : zerosOf Try.prog 111 = some [.t (.leaf (.string ⟨#[]⟩)), .nil, .t (.leaf (.int .i64 0)), .t (.leaf (.string ⟨#[]⟩)), .nil, .nil, .t (.leaf (.bool false)), .t (.leaf (.bool false)), .t (.leaf (.int .i64 0)), .t (.leaf (.string ⟨#[]⟩)), .nil, .nil] := by kernel_rfl
theorem sh113 : shapeOf Try.prog 113 = some (false, 1) := by kernel_rfl
theorem sz113 : (Try.prog.info? 113).map (·.size) = some 1 := by kernel_rfl
theorem el113 : elemOf? Try.prog 113 = some (171, 4, 64) := by kernel_rfl
theorem ze113 : (Try.prog.info? 171).bind (fun i => i.zero.map (fun z => z.cells.size)) = some 4 := by kernel_rfl
theorem zr113 : zerosOf Try.prog 113 = some [.nil] := by kernel_rfl
theorem sh114 : shapeOf Try.prog 114 = some (false, 1) := by kernel_rfl
theorem sz114 : (Try.prog.info? 114).map (·.size) = some 1 := by kernel_rfl
theorem el114 : elemOf? Try.prog 114 = some (117, 9, 144) := by kernel_rfl
theorem ze114 : (Try.prog.info? 117).bind (fun i => i.zero.map (fun z => z.cells.size)) = some 9 := by kernel_rfl
theorem zr114 : zerosOf Try.prog 114 = some [.nil] := by kernel_rfl
theorem sh115 : shapeOf Try.prog 115 = some (false, 1) := by kernel_rfl
theorem sz115 : (Try.prog.info? 115).map (·.size) = some 1 := by kernel_rfl
theorem el115 : elemOf? Try.prog 115 = some (200, 11, 184) := by kernel_rfl
theorem ze115 : (Try.prog.info? 200).bind (fun i => i.zero.map (fun z => z.cells.size)) = some 11 := by kernel_rfl
theorem zr115 : zerosOf Try.prog 115 = some [.nil] := by kernel_rfl
theorem sh117 : shapeOf Try.prog 117 = some (true, 9) := by kernel_rfl
theorem sz117 : (Try.prog.info? 117).map (·.size) = some 9 := by kernel_rfl
theorem zr117 : zerosOf Try.prog 117 = some [.t (.leaf (.int .i64 0)), .t (.leaf (.string ⟨#[]⟩)), .t (.leaf (.string ⟨#[]⟩)), .t (.leaf (.int .i64 0)), .t (.leaf (.int .i64 0)), .t (.leaf (.string ⟨#[]⟩)), .nil, .nil, .nil] := by kernel_rfl
theorem sh119 : shapeOf Try.prog 119 = some (true, 16) := by kernel_rfl
theorem sz119 : (Try.prog.info? 119).map (·.size) = some 16 := by kernel_rfl
theorem zr119 : zerosOf Try.prog 119 = some [.t (.leaf (.string ⟨#[]⟩)), .nil, .nil, .nil, .t (.leaf (.int .i64 0)), .t (.leaf (.string ⟨#[]⟩)), .nil, .t (.leaf (.int .i64 0)), .t (.leaf (.string ⟨#[]⟩)), .t (.leaf (.string ⟨#[]⟩)), .t (.leaf (.int .i64 0)), .t (.leaf (.int .i64 0)), .t (.leaf (.string ⟨#[]⟩)), .nil, .nil, .nil] := by kernel_rfl
theorem sh122 : shapeOf Try.prog 122 = some (false, 1) := by kernel_rfl
theorem sz122 : (Try.prog.info? 122).map (·.size) = some 1 := by kernel_rfl
theorem el122 : elemOf? Try.prog 122 = some (181, 4, 64) := by kernel_rfl
theorem ze122 : (Try.prog.info? 181).bind (fun i => i.zero.map (fun z => z.cells.size)) = some 4 := by kernel_rfl
theorem zr122 : zerosOf Try.prog 122 = some [.nil] := by kernel_rfl
theorem sh123 : shapeOf Try.prog 123 = some (false, 1) := by kernel_rfl
theorem sz123 : (Try.prog.info? 123).map (·.size) = some 1 := by kernel_rfl
theorem el123 : elemOf? Try.prog 123 = some (184, 11, 184) := by kernel_rfl
theorem ze123 : (Try.prog.info? 184).bind (fun i => i.zero.map (fun z => z.cells.size)) = some 11 := by kernel_rfl
theorem zr123 : zerosOf Try.prog 123 = some [.nil] := by kernel_rfl
theorem sh125 : shapeOf Try.prog 125 = some (true, 12) := by kernel_rfl
theorem sz125 : (Try.prog.info? 125).map (·.size) = some 12 := by kernel_rfl
theorem zr125 : zerosOf Try.prog 125 = some [.t (.leaf (.string ⟨#[]⟩)), .nil, .t (.leaf (.int .i64 0)), .t (.leaf (.string ⟨#[]⟩)), .nil, .nil, .t (.leaf (.bool false)), .t (.leaf (.bool false)), .t (.leaf (.int .i64 0)), .t (.leaf (.string ⟨#[]⟩)), .nil, .nil] := by kernel_rfl
theorem sh127 : shapeOf Try.prog 127 = some (false, 1) := by kernel_rfl
theorem sz127 : (Try.prog.info? 127).map (·.size) = some 1 := by kernel_rfl
theorem el127 : elemOf? Try.prog 127 = some (187, 4, 64) := by kernel_rfl
theorem ze127 : (Try.prog.info? 187).bind (fun i => i.zero.map (fun z => z.cells.size)) = some 4 := by kernel_rfl
theorem zr127 : zerosOf Try.prog 127 = some [.nil] := by kernel_rfl
theorem sh128 : shapeOf Try.prog 128 = some (false, 1) := by kernel_rfl
theorem sz128 : (Try.prog.info? 128).map (·.size) = some 1 := by kernel_rfl
theorem el128 : elemOf? Try.prog 128 = some (131, 9, 144) := by kernel_rfl
theorem ze128 : (Try.prog.info? 131).bind (fun i => i.zero.map (fun z => z.cells.size)) = some 9 := by kernel_rfl
theorem zr128 : zerosOf Try.prog 128 = some [.nil] := by kernel_rfl
theorem sh129 : shapeOf Try.prog 129 = some (false, 1) := by kernel_rfl
theorem sz129 : (Try.prog.info? 129).map (·.size) = some 1 := by kernel_rfl
theorem el129 : elemOf? Try.prog 129 = some (202, 11, 184) := by kernel_rfl
theorem ze129 : (Try.prog.info? 202).bind (fun i => i.zero.map (fun z => z.cells.size)) = some 11 := by kernel_rfl
theorem zr129 : zerosOf Try.prog 129 = some [.nil] := by kernel_rfl
theorem sh131 : shapeOf Try.prog 131 = some (true, 9) := by kernel_rfl
theorem sz131 : (Try.prog.info? 131).map (·.size) = some 9 := by kernel_rfl
theorem zr131 : zerosOf Try.prog 131 = some [.t (.leaf (.int .i64 0)), .t (.leaf (.string ⟨#[]⟩)), .t (.leaf (.string ⟨#[]⟩)), .t (.leaf (.int .i64 0)), .t (.leaf (.int .i64 0)), .t (.leaf (.string ⟨#[]⟩)), .nil, .nil, .nil] := by kernel_rfl
theorem sh133 : shapeOf Try.prog 133 = some (true, 16) := by kernel_rfl
theorem sz133 : (Try.prog.info? 133).map (·.size) = some 16 := by kernel_rfl
theorem zr133 : zerosOf Try.prog 133 = some [.t (.leaf (.string ⟨#[]⟩)), .nil, .nil, .nil, .t (.leaf (.int .i64 0)), .t (.leaf (.string ⟨#[]⟩)), .nil, .t (.leaf (.int .i64 0)), .t (.leaf (.string ⟨#[]⟩)), .t (.leaf (.string ⟨#[]⟩)), .t (.leaf (.int .i64 0)), .t (.leaf (.int .i64 0)), .t (.leaf (.string ⟨#[]⟩)), .nil, .nil, .nil] := by kernel_rfl
theorem sh159 : shapeOf Try.prog 159 = some (true, 16) := by kernel_rfl
theorem sz159 : (Try.prog.info? 159).map (·.size) = some 16 := by kernel_rfl
theorem zr159 : zerosOf Try.prog 159 = some [.t (.leaf (.string ⟨#[]⟩)), .nil, .t (.leaf (.int .i64 0)), .t (.leaf (.string ⟨#[]⟩)), .nil, .t (.leaf (.bool false)), .nil, .t (.leaf (.int .i64 0)), .t (.leaf (.string ⟨#[]⟩)), .t (.leaf (.string ⟨#[]⟩)), .t (.leaf (.int .i64 0)), .t (.leaf (.int .i64 0)), .t (.leaf (.string ⟨#[]⟩)), .nil, .nil, .nil] := by kernel_rfl
theorem sh162 : shapeOf Try.prog 162 = some (true, 2) := by kernel_rfl
theorem sz162 : (Try.prog.info? 162).map (·.size) = some 2 := by kernel_rfl
theorem zr162 : zerosOf Try.prog 162 = some [.t (.leaf (.string ⟨#[]⟩)), .nil] := by kernel_rfl
theorem sh165 : shapeOf Try.prog 165 = some (true, 4) := by kernel_rfl
theorem sz165 : (Try.prog.info? 165).map (·.size) = some 4 := by kernel_rfl
theorem zr165 : zerosOf Try.prog 165 = some [.t (.leaf (.string ⟨#[]⟩)), .t (.leaf (.int .i64 0)), .t (.leaf (.string ⟨#[]⟩)), .nil] := by kernel_rfl
theorem sh168 : shapeOf Try.prog 168 = some (true, 11) := by kernel_rfl
theorem sz168 : (Try.prog.info? 168).map (·.size) = some 11 := by kernel_rfl
theorem zr168 : zerosOf Try.prog 168 = some [.t (.leaf (.string ⟨#[]⟩)), .nil, .t (.leaf (.int .i64 0)), .t (.leaf (.string ⟨#[]⟩)), .t (.leaf (.string ⟨#[]⟩)), .t (.leaf (.int .i64 0)), .t (.leaf (.int .i64 0)), .t (.leaf (.string ⟨#[]⟩)), .nil, .nil, .nil] := by kernel_rfl
theorem sh171 : shapeOf Try.prog 171 = some (true, 4) := by kernel_rfl
theorem sz171 : (Try.prog.info? 171).map (·.size) = some 4 := by kernel_rfl
theorem zr171 : zerosOf Try.prog 171 = some [.t (.leaf (.string ⟨#[]⟩)), .t (.leaf (.int .i64 0)), .t (.leaf (.string ⟨#[]⟩)), .nil] := by kernel_rfl
theorem sh175 : shapeOf Try.prog 175 = some (true, 16) := by kernel_rfl
theorem sz175 : (Try.prog.info? 175).map (·.size) = some 16 := by kernel_rfl
theorem zr175 : zerosOf Try.prog 175 = some [.t (.leaf (.string ⟨#[]⟩)), .nil, .t (.leaf (.int .i64 0)), .t (.leaf (.string ⟨#[]⟩)), .nil, .t (.leaf (.bool false)), .nil, .t (.leaf (.int .i64 0)), .t (.leaf (.string ⟨#[]⟩)), .t (.leaf (.string ⟨#[]⟩)), .t (.leaf (.int .i64 0)), .t (.leaf (.int .i64 0)), .t (.leaf (.string ⟨#[]⟩)), .nil, .nil, .nil] := by kernel_rfl
theorem sh178 : shapeOf Try.prog 178 = some (true, 2) := by kernel_rfl
theorem sz178 : (Try.prog.info? 178).map (·.size) = some 2 := by kernel_rfl
theorem zr178 : zerosOf Try.prog 178 = some [.t (.leaf (.string ⟨#[]⟩)), .nil] := by kernel_rfl
theorem sh181 : shapeOf Try.prog 181 = some (true, 4) := by kernel_rfl
theorem sz181 : (Try.prog.info? 181).map (·.size) = some 4 := by kernel_rfl
theorem zr181 : zerosOf Try.prog 181 = some [.t (.leaf (.string ⟨#[]⟩)), .t (.leaf (.int .i64 0)), .t (.leaf (.string ⟨#[]⟩)), .nil] := by kernel_rfl
theorem sh184 : shapeOf Try.prog 184 = some (true, 11) := by kernel_rfl
theorem sz184 : (Try.prog.info? 184).map (·.size) = some 11 := by kernel_rfl
theorem zr184 : zerosOf Try.prog 184 = some [.t (.leaf (.string ⟨#[]⟩)), .nil, .t (.leaf (.int .i64 0)), .t (.leaf (.string ⟨#[]⟩)), .t (.leaf (.string ⟨#[]⟩)), .t (.leaf (.int .i64 0)), .t (.leaf (.int .i64 0)), .t (.leaf (.string ⟨#[]⟩)), .nil, .nil, .nil] := by kernel_rfl
theorem sh187 : shapeOf Try.prog 187 = some (true, 4) := by kernel_rfl
theorem sz187 : (Try.prog.info? 187).map (·.size) = some 4 := by kernel_rfl
theorem zr187 : zerosOf Try.prog 187 = some [.t (.leaf (.string ⟨#[]⟩)), .t (.leaf (.int .i64 0)), .t (.leaf (.string ⟨#[]⟩)), .nil] := by kernel_rfl
theorem sh200 : shapeOf Try.prog 200 = some (true, 11) := by kernel_rfl
theorem sz200 : (Try.prog.info? 200).map (·.size) = some 11 := by kernel_rfl
theorem zr200 : zerosOf Try.prog 200 = some [.t (.leaf (.string ⟨#[]⟩)), .nil, .t (.leaf (.int .i64 0)), .t (.leaf (.string ⟨#[]⟩)), .t (.leaf (.string ⟨#[]⟩)), .t (.leaf (.int .i64 0)), .t (.leaf (.int .i64 0)), .t (.leaf (.string ⟨#[]⟩)), .nil, .nil, .nil] := by kernel_rfl
theorem sh202 : shapeOf Try.prog 202 = some (true, 11) := by kernel_rfl
theorem sz202 : (Try.prog.info? 202).map (·.size) = some 11 := by kernel_rfl
theorem zr202 : zerosOf Try.prog 202 = some [.t (.leaf (.string ⟨#[]⟩)), .nil, .t (.leaf (.int .i64 0)), .t (.leaf (.string ⟨#[]⟩)), .t (.leaf (.string ⟨#[]⟩)), .t (.leaf (.int .i64 0)), .t (.leaf (.int .i64 0)), .t (.leaf (.string ⟨#[]⟩)), .nil, .nil, .nil] := by kernel_rfl
theorem fo24_0 : fieldOff Try.prog 24 0 = some 0 := by kernel_rfl
theorem fo27_0 : fieldOff Try.prog 27 0 = some 0 := by kernel_rfl
theorem fo27_1 : fieldOff Try.prog 27 1 = some 1 := by kernel_rfl
theorem fo27_2 : fieldOff Try.prog 27 2 = some 2 := by kernel_rfl
theorem fo33_0 : fieldOff Try.prog 33 0 = some 0 := by kernel_rfl
theorem fo37_0 : fieldOff Try.prog 37 0 = some 0 := by kernel_rfl
theorem fo37_1 : fieldOff Try.prog 37 1 = some 1 := by kernel_rfl
theorem fo37_2 : fieldOff Try.prog 37 2 = some 2 := by kernel_rfl
theorem fo50_0 : fieldOff Try.prog 50 0 = some 0 := by kernel_rfl
theorem fo50_1 : fieldOff Try.prog 50 1 = some 1 := by kernel_rfl
theorem fo50_2 : fieldOff Try.prog 50 2 = some 2 := by kernel_rfl
theorem fo63_0 : fieldOff Try.prog 63 0 = some 0 := by kernel_rfl
theorem fo63_1 : fieldOff Try.prog 63 1 = some 1 := by kernel_rfl
theorem fo63_2 : fieldOff Try.prog 63 2 = some 2 := by kernel_rfl
theorem fo63_3 : fieldOff Try.prog 63 3 = some 3 := by kernel_rfl
theorem fo63_4 : fieldOff Try.prog 63 4 = some 4 := by kernel_rfl
theorem fo63_5 : fieldOff Try.prog 63 5 = some 5 := by kernel_rfl
theorem fo68_0 : fieldOff Try.prog 68 0 = some 0 := by kernel_rfl
theorem fo68_1 : fieldOff Try.prog 68 1 = some 1 := by kernel_rfl
theorem fo68_2 : fieldOff Try.prog 68 2 = some 2 := by kernel_rfl
theorem fo68_3 : fieldOff Try.prog 68 3 = some 3 := by kernel_rfl
theorem fo68_4 : fieldOff Try.prog 68 4 = some 4 := by kernel_rfl
theorem fo75_0 : fieldOff Try.prog 75 0 = some 0 := by kernel_rfl
theorem fo75_1 : fieldOff Try.prog 75 1 = some 1 := by kernel_rfl
theorem fo75_2 : fieldOff Try.prog 75 2 = some 2 := by kernel_rfl
theorem fo75_3 : fieldOff Try.prog 75 3 = some 3 := by kernel_rfl
theorem fo75_4 : fieldOff Try.prog 75 4 = some 4 := by kernel_rfl
theorem fo75_5 : fieldOff Try.prog 75 5 = some 5 := by kernel_rfl
theorem fo102_0 : fieldOff Try.prog 102 0 = some 0 := by kernel_rfl
theorem fo102_1 : fieldOff Try.prog 102 1 = some 1 := by kernel_rfl
theorem fo102_2 : fieldOff Try.prog 102 2 = some 2 := by kernel_rfl
theorem fo102_3 : fieldOff Try.prog 102 3 = some 3 := by kernel_rfl
theorem fo102_4 : fieldOff Try.prog 102 4 = some 4 := by kernel_rfl
theorem fo106_0 : fieldOff Try.prog 106 0 = some 0 := by kernel_rfl
theorem fo106_1 : fieldOff Try.prog 106 1 = some 1 := by kernel_rfl
theorem fo106_2 : fieldOff Try.prog 106 2 = some 2 := by kernel_rfl
theorem fo111_0 : fieldOff Try.prog 111 0 = some 0 := by kernel_rfl
theorem fo111_1 : fieldOff Try.prog 111 1 = some 1 := by kernel_rfl
theorem fo111_2 : fieldOff Try.prog 111 2 = some 2 := by kernel_rfl
theorem fo111_3 : fieldOff Try.prog 111 3 = some 5 := by kernel_rfl
theorem fo111_4 : fieldOff Try.prog 111 4 = some 6 := by kernel_rfl
theorem fo111_5 : fieldOff Try.prog 111 5 = some 7 := by kernel_rfl
theorem fo111_6 : fieldOff Try.prog 111 6 = some 8 := by kernel_rfl
theorem fo111_7 : fieldOff Try.prog 111 7 = some 11 := by kernel_rfl
theorem fo117_0 : fieldOff Try.prog 117 0 = some 0 := by kernel_rfl
theorem fo117_1 : fieldOff Try.prog 117 1 = some 1 := by kernel_rfl
theorem fo117_2 : fieldOff Try.prog 117 2 = some 2 := by kernel_rfl
theorem fo117_3 : fieldOff Try.prog 117 3 = some 3 := by kernel_rfl
theorem fo117_4 : fieldOff Try.prog 117 4 = some 4 := by kernel_rfl
theorem fo117_5 : fieldOff Try.prog 117 5 = some 7 := by kernel_rfl
theorem fo117_6 : fieldOff Try.prog 117 6 = some 8 := by kernel_rfl
theorem fo119_0 : fieldOff Try.prog 119 0 = some 0 := by kernel_rfl
theorem fo119_1 : fieldOff Try.prog 119 1 = some 1 := by kernel_rfl
theorem fo119_2 : fieldOff Try.prog 119 2 = some 2 := by kernel_rfl
theorem fo119_3 : fieldOff Try.prog 119 3 = some 3 := by kernel_rfl
theorem fo119_4 : fieldOff Try.prog 119 4 = some 4 := by kernel_rfl
theorem fo119_5 : fieldOff Try.prog 119 5 = some 7 := by kernel_rfl
theorem fo125_0 : fieldOff Try.prog 125 0 = some 0 := by kernel_rfl
theorem fo125_1 : fieldOff Try.prog 125 1 = some 1 := by kernel_rfl
theorem fo125_2 : fieldOff Try.prog 125 2 = some 2 := by kernel_rfl
theorem fo125_3 : fieldOff Try.prog 125 3 = some 5 := by kernel_rfl
theorem fo125_4 : fieldOff Try.prog 125 4 = some 6 := by kernel_rfl
theorem fo125_5 : fieldOff Try.prog 125 5 = some 7 := by kernel_rfl
theorem fo125_6 : fieldOff Try.prog 125 6 = some 8 := by kernel_rfl
theorem fo125_7 : fieldOff Try.prog 125 7 = some 11 := by kernel_rfl
theorem fo131_0 : fieldOff Try.prog 131 0 = some 0 := by kernel_rfl
theorem fo131_1 : fieldOff Try.prog 131 1 = some 1 := by kernel_rfl
theorem fo131_2 : fieldOff Try.prog 131 2 = some 2 := by kernel_rfl
theorem fo131_3 : fieldOff Try.prog 131 3 = some 3 := by kernel_rfl
theorem fo131_4 : fieldOff Try.prog 131 4 = some 4 := by kernel_rfl
theorem fo131_5 : fieldOff Try.prog 131 5 = some 7 := by kernel_rfl
theorem fo131_6 : fieldOff Try.prog 131 6 = some 8 := by kernel_rfl
theorem fo133_0 : fieldOff Try.prog 133 0 = some 0 := by kernel_rfl
theorem fo133_1 : fieldOff Try.prog 133 1 = some 1 := by kernel_rfl
theorem fo133_2 : fieldOff Try.prog 133 2 = some 2 := by kernel_rfl
theorem fo133_3 : fieldOff Try.prog 133 3 = some 3 := by kernel_rfl
theorem fo133_4 : fieldOff Try.prog 133 4 = some 4 := by kernel_rfl
theorem fo133_5 : fieldOff Try.prog 133 5 = some 7 := by kernel_rfl
theorem fo159_0 : fieldOff Try.prog 159 0 = some 0 := by kernel_rfl
theorem fo159_1 : fieldOff Try.prog 159 1 = some 1 := by kernel_rfl
theorem fo159_2 : fieldOff Try.prog 159 2 = some 2 := by kernel_rfl
theorem fo159_3 : fieldOff Try.prog 159 3 = some 5 := by kernel_rfl
theorem fo159_4 : fieldOff Try.prog 159 4 = some 6 := by kernel_rfl
theorem fo159_5 : fieldOff Try.prog 159 5 = some 7 := by kernel_rfl
theorem fo162_0 : fieldOff Try.prog 162 0 = some 0 := by kernel_rfl
theorem fo162_1 : fieldOff Try.prog 162 1 = some 1 := by kernel_rfl
theorem fo165_0 : fieldOff Try.prog 165 0 = some 0 := by kernel_rfl
theorem fo165_1 : fieldOff Try.prog 165 1 = some 1 := by kernel_rfl
theorem fo168_0 : fieldOff Try.prog 168 0 = some 0 := by kernel_rfl
theorem fo168_1 : fieldOff Try.prog 168 1 = some 1 := by kernel_rfl
theorem fo168_2 : fieldOff Try.prog 168 2 = some 2 := by kernel_rfl
theorem fo171_0 : fieldOff Try.prog 171 0 = some 0 := by kernel_rfl
theorem fo171_1 : fieldOff Try.prog 171 1 = some 1 := by kernel_rfl
theorem fo175_0 : fieldOff Try.prog 175 0 = some 0 := by kernel_rfl
theorem fo175_1 : fieldOff Try.prog 175 1 = some 1 := by kernel_rfl
theorem fo175_2 : fieldOff Try.prog 175 2 = some 2 := by kernel_rfl
theorem fo175_3 : fieldOff Try.prog 175 3 = some 5 := by kernel_rfl
theorem fo175_4 : fieldOff Try.prog 175 4 = some 6 := by kernel_rfl
theorem fo175_5 : fieldOff Try.prog 175 5 = some 7 := by kernel_rfl
theorem fo178_0 : fieldOff Try.prog 178 0 = some 0 := by kernel_rfl
theorem fo178_1 : fieldOff Try.prog 178 1 = some 1 := by kernel_rfl
theorem fo181_0 : fieldOff Try.prog 181 0 = some 0 := by kernel_rfl
theorem fo181_1 : fieldOff Try.prog 181 1 = some 1 := by kernel_rfl
theorem fo184_0 : fieldOff Try.prog 184 0 = some 0 := by kernel_rfl
theorem fo184_1 : fieldOff Try.prog 184 1 = some 1 := by kernel_rfl
theorem fo184_2 : fieldOff Try.prog 184 2 = some 2 := by kernel_rfl
theorem fo187_0 : fieldOff Try.prog 187 0 = some 0 := by kernel_rfl
theorem fo187_1 : fieldOff Try.prog 187 1 = some 1 := by kernel_rfl
theorem fo200_0 : fieldOff Try.prog 200 0 = some 0 := by kernel_rfl
theorem fo200_1 : fieldOff Try.prog 200 1 = some 1 := by kernel_rfl
theorem fo200_2 : fieldOff Try.prog 200 2 = some 2 := by kernel_rfl
theorem fo202_0 : fieldOff Try.prog 202 0 = some 0 := by kernel_rfl
theorem fo202_1 : fieldOff Try.prog 202 1 = some 1 := by kernel_rfl
theorem fo202_2 : fieldOff Try.prog 202 2 = some 2 := by kernel_rfl
theorem mixed : Try.prog.follows .mixedOrders = true := by kernel_rfl
end Go.Proofs.Ytnakkelglbcecaa
