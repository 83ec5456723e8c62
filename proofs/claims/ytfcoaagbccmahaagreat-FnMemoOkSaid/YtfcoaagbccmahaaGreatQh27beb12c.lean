/- Words, rules and walks of several kinds, laid together. No conditions but those that each theorem states. -/
import Derived.Test.YtfcoaagbccmahaaGreatQhd1fa9bf0
import Derived.Test.YtfcoaagbccmahaaGreatProg
import Derived.Laws.MakeOwn
import Derived.Laws.BytesArg
set_option linter.unusedSimpArgs false
set_option linter.unusedVariables false
namespace Go.Proofs.YtfcoaagbccmahaaGreat
open Go.RowKit Go.Proofs
instance sh3:SH Tryz.prog 3 (false,1):= {}
instance sz3:SZ Tryz.prog 3 1:= {}
instance zr3:ZR Tryz.prog 3 [.t (.leaf (.int .i64 0))]:= {}
instance sh4:SH Tryz.prog 4 (false,1):= {}
instance sz4:SZ Tryz.prog 4 1:= {}
instance zr4:ZR Tryz.prog 4 [.t (.leaf (.bool false))]:= {}
instance sh5:SH Tryz.prog 5 (false,1):= {}
instance sz5:SZ Tryz.prog 5 1:= {}
instance zr5:ZR Tryz.prog 5 [.t (.leaf (.int .u8 0))]:= {}
instance sh9:SH Tryz.prog 9 (false,1):= {}
instance sz9:SZ Tryz.prog 9 1:= {}
instance zr9:ZR Tryz.prog 9 [.t (.leaf (.string ⟨#[]⟩))]:= {}
instance aD8:SH Tryz.prog 22 (false,1):= {}
instance aEu:SZ Tryz.prog 22 1:= {}
instance ayO:EL Tryz.prog 22 (5,1,1):= {}
instance aEW:ZE Tryz.prog 5 1:= {}
instance aE1:ZR Tryz.prog 22 [.nil]:= {}
instance aD9:SH Tryz.prog 24 (false,1):= {}
instance aEv:SZ Tryz.prog 24 1:= {}
instance aqP:EL Tryz.prog 24 (141,6,136):= {}
instance aEX:ZE Tryz.prog 141 6:= {}
instance aE2:ZR Tryz.prog 24 [.nil]:= {}
instance anL:SH Tryz.prog 26 (true,1):= {}
instance aEw:SZ Tryz.prog 26 1:= {}
instance aE3:ZR Tryz.prog 26 [.nil]:= {}
instance aDB:XK Tryz.prog 26 [(0,1)]:=⟨by kernel_rfl⟩
instance aEa:SH Tryz.prog 27 (false,1):= {}
instance aEx:SZ Tryz.prog 27 1:= {}
instance aqQ:EL Tryz.prog 27 (32,4,64):= {}
instance ax4:ZE Tryz.prog 32 4:= {}
instance aE4:ZR Tryz.prog 27 [.nil]:= {}
instance aEb:SH Tryz.prog 28 (false,1):= {}
instance aEy:SZ Tryz.prog 28 1:= {}
instance atC:EL Tryz.prog 28 (30,3,48):= {}
instance azC:ZE Tryz.prog 30 3:= {}
instance aE5:ZR Tryz.prog 28 [.nil]:= {}
instance NT:SH Tryz.prog 30 (true,3):= {}
instance ay7:SZ Tryz.prog 30 3:= {}
instance aE6:ZR Tryz.prog 30 [.t (.leaf (.int .i64 0)),.t (.leaf (.string ⟨#[]⟩)),.nil]:= {}
instance aDC:XK Tryz.prog 30 [(0,1),(1,1),(2,1)]:=⟨by kernel_rfl⟩
instance axY:SH Tryz.prog 32 (true,4):= {}
instance aBq:SZ Tryz.prog 32 4:= {}
instance aBs:ZR Tryz.prog 32 [.t (.leaf (.string ⟨#[]⟩)),.t (.leaf (.int .i64 0)),.t (.leaf (.string ⟨#[]⟩)),.nil]:= {}
instance aDD:XK Tryz.prog 32 [(0,1),(1,3)]:=⟨by kernel_rfl⟩
instance aEc:SH Tryz.prog 36 (false,1):= {}
instance aEz:SZ Tryz.prog 36 1:= {}
instance amO:EL Tryz.prog 36 (9,1,16):= {}
instance av8:ZE Tryz.prog 9 1:= {}
instance aE7:ZR Tryz.prog 36 [.nil]:= {}
instance aEd:SH Tryz.prog 37 (false,1):= {}
instance aEA:SZ Tryz.prog 37 1:= {}
instance au7:EL Tryz.prog 37 (46,2,40):= {}
instance aEY:ZE Tryz.prog 46 2:= {}
instance aE8:ZR Tryz.prog 37 [.nil]:= {}
instance aEe:SH Tryz.prog 39 (true,3):= {}
instance aEB:SZ Tryz.prog 39 3:= {}
instance aE9:ZR Tryz.prog 39 [.t (.leaf (.string ⟨#[]⟩)),.nil,.nil]:= {}
instance aDE:XK Tryz.prog 39 [(0,1),(1,1),(2,1)]:=⟨by kernel_rfl⟩
instance aEf:SH Tryz.prog 42 (false,1):= {}
instance aEC:SZ Tryz.prog 42 1:= {}
instance aDt:EL Tryz.prog 42 (44,4,64):= {}
instance aEZ:ZE Tryz.prog 44 4:= {}
instance aFa:ZR Tryz.prog 42 [.nil]:= {}
instance aEg:SH Tryz.prog 44 (true,4):= {}
instance aED:SZ Tryz.prog 44 4:= {}
instance aFb:ZR Tryz.prog 44 [.t (.leaf (.string ⟨#[]⟩)),.t (.leaf (.int .i64 0)),.t (.leaf (.string ⟨#[]⟩)),.nil]:= {}
instance aDF:XK Tryz.prog 44 [(0,1),(1,3)]:=⟨by kernel_rfl⟩
instance aEh:SH Tryz.prog 46 (true,2):= {}
instance aEE:SZ Tryz.prog 46 2:= {}
instance aBt:ZR Tryz.prog 46 [.t (.leaf (.string ⟨#[]⟩)),.nil]:= {}
instance aDG:XK Tryz.prog 46 [(0,1),(1,1)]:=⟨by kernel_rfl⟩
instance aEi:SH Tryz.prog 48 (false,1):= {}
instance aEF:SZ Tryz.prog 48 1:= {}
instance aw8:EL Tryz.prog 48 (99,6,96):= {}
instance aE0:ZE Tryz.prog 99 6:= {}
instance aFc:ZR Tryz.prog 48 [.nil]:= {}
instance aEj:SH Tryz.prog 52 (true,2):= {}
instance aEG:SZ Tryz.prog 52 2:= {}
instance aFd:ZR Tryz.prog 52 [.t (.leaf (.int .i64 0)),.t (.leaf (.int .i64 0))]:= {}
instance aDH:XK Tryz.prog 52 [(0,1),(1,1)]:=⟨by kernel_rfl⟩
instance aEk:SH Tryz.prog 53 (false,1):= {}
instance aEH:SZ Tryz.prog 53 1:= {}
instance au8:EL Tryz.prog 53 (55,5,56):= {}
instance azD:ZE Tryz.prog 55 5:= {}
instance aFe:ZR Tryz.prog 53 [.nil]:= {}
instance agJ:SH Tryz.prog 55 (true,5):= {}
instance aBr:SZ Tryz.prog 55 5:= {}
instance aBu:ZR Tryz.prog 55 [.t (.leaf (.int .i64 0)),.t (.leaf (.int .i64 0)),.t (.leaf (.int .i64 0)),.t (.leaf (.int .i64 0)),.nil]:= {}
instance aDI:XK Tryz.prog 55 [(0,1),(1,1),(2,2),(4,1)]:=⟨by kernel_rfl⟩
instance aEl:SH Tryz.prog 58 (false,1):= {}
instance aEI:SZ Tryz.prog 58 1:= {}
instance aEm:SH Tryz.prog 60 (false,1):= {}
instance aEJ:SZ Tryz.prog 60 1:= {}
instance aEn:SH Tryz.prog 64 (false,1):= {}
instance aEK:SZ Tryz.prog 64 1:= {}
instance au9:EL Tryz.prog 64 (3,1,8):= {}
instance azE:ZE Tryz.prog 3 1:= {}
instance aFf:ZR Tryz.prog 64 [.nil]:= {}
instance XE:SH Tryz.prog 68 (true,3):= {}
instance aEL:SZ Tryz.prog 68 3:= {}
instance aBv:ZR Tryz.prog 68 [.nil,.nil,.nil]:= {}
instance aDJ:XK Tryz.prog 68 [(0,1),(1,1),(2,1)]:=⟨by kernel_rfl⟩
instance aEo:SH Tryz.prog 75 (false,1):= {}
instance aEM:SZ Tryz.prog 75 1:= {}
instance aEp:SH Tryz.prog 80 (false,1):= {}
instance aEN:SZ Tryz.prog 80 1:= {}
instance aEq:SH Tryz.prog 84 (false,1):= {}
instance aEO:SZ Tryz.prog 84 1:= {}
instance aEs:SH Tryz.prog 92 (false,1):= {}
instance aEP:SZ Tryz.prog 92 1:= {}
instance aEt:SH Tryz.prog 99 (true,6):= {}
instance aEQ:SZ Tryz.prog 99 6:= {}
instance aFg:ZR Tryz.prog 99 [.t (.leaf (.string ⟨#[]⟩)),.t (.leaf (.int .i64 0)),.t (.leaf (.string ⟨#[]⟩)),.nil,.t (.leaf (.int .i64 0)),.nil]:= {}
instance aDK:XK Tryz.prog 99 [(0,4),(4,1),(5,1)]:=⟨by kernel_rfl⟩
instance aBX:SH Tryz.prog 124 (false,1):= {}
instance aCu:SZ Tryz.prog 124 1:= {}
instance aBY:SH Tryz.prog 131 (false,1):= {}
instance aCv:SZ Tryz.prog 131 1:= {}
instance aBZ:SH Tryz.prog 133 (true,3):= {}
instance aCw:SZ Tryz.prog 133 3:= {}
instance aC7:ZR Tryz.prog 133 [.nil,.t (.leaf (.int .i64 0)),.t (.leaf (.int .i64 0))]:= {}
instance aBH:XK Tryz.prog 133 [(0,1),(1,1),(2,1)]:=⟨by kernel_rfl⟩
instance aB0:SH Tryz.prog 136 (false,1):= {}
instance aCx:SZ Tryz.prog 136 1:= {}
instance awE:EL Tryz.prog 136 (156,5,72):= {}
instance aCY:ZE Tryz.prog 156 5:= {}
instance aC8:ZR Tryz.prog 136 [.nil]:= {}
instance aB1:SH Tryz.prog 137 (false,1):= {}
instance aCy:SZ Tryz.prog 137 1:= {}
instance awF:EL Tryz.prog 137 (39,3,64):= {}
instance aCZ:ZE Tryz.prog 39 3:= {}
instance aC9:ZR Tryz.prog 137 [.nil]:= {}
instance aB2:SH Tryz.prog 138 (false,1):= {}
instance aCz:SZ Tryz.prog 138 1:= {}
instance aiU:EL Tryz.prog 138 (163,12,192):= {}
instance aC0:ZE Tryz.prog 163 12:= {}
instance aDa:ZR Tryz.prog 138 [.nil]:= {}
instance aB3:SH Tryz.prog 139 (false,1):= {}
instance aCA:SZ Tryz.prog 139 1:= {}
instance aBB:EL Tryz.prog 139 (213,16,280):= {}
instance aC1:ZE Tryz.prog 213 16:= {}
instance aDb:ZR Tryz.prog 139 [.nil]:= {}
instance aB4:SH Tryz.prog 141 (true,6):= {}
instance aCB:SZ Tryz.prog 141 6:= {}
instance aDc:ZR Tryz.prog 141 [.t (.leaf (.string ⟨#[]⟩)),.nil,.nil,.nil,.nil,.nil]:= {}
instance aBI:XK Tryz.prog 141 [(0,1),(1,1),(2,1),(3,1),(4,1),(5,1)]:=⟨by kernel_rfl⟩
instance aB5:SH Tryz.prog 145 (true,2):= {}
instance aCC:SZ Tryz.prog 145 2:= {}
instance aDd:ZR Tryz.prog 145 [.nil,.nil]:= {}
instance aBJ:XK Tryz.prog 145 [(0,1),(1,1)]:=⟨by kernel_rfl⟩
instance aB6:SH Tryz.prog 154 (false,1):= {}
instance aCD:SZ Tryz.prog 154 1:= {}
instance YY:EL Tryz.prog 154 (237,16,264):= {}
instance azA:ZE Tryz.prog 237 16:= {}
instance aDe:ZR Tryz.prog 154 [.nil]:= {}
instance aB7:SH Tryz.prog 156 (true,5):= {}
instance aCE:SZ Tryz.prog 156 5:= {}
instance aDf:ZR Tryz.prog 156 [.t (.leaf (.string ⟨#[]⟩)),.nil,.t (.leaf (.bool false)),.t (.leaf (.bool false)),.nil]:= {}
instance aBK:XK Tryz.prog 156 [(0,1),(1,1),(2,1),(3,1),(4,1)]:=⟨by kernel_rfl⟩
instance aB8:SH Tryz.prog 161 (false,1):= {}
instance aCF:SZ Tryz.prog 161 1:= {}
instance atB:EL Tryz.prog 161 (242,11,184):= {}
instance aC2:ZE Tryz.prog 242 11:= {}
instance aDg:ZR Tryz.prog 161 [.nil]:= {}
instance aB9:SH Tryz.prog 163 (true,12):= {}
instance aCG:SZ Tryz.prog 163 12:= {}
instance aDh:ZR Tryz.prog 163 [.t (.leaf (.string ⟨#[]⟩)),.nil,.t (.leaf (.int .i64 0)),.t (.leaf (.string ⟨#[]⟩)),.nil,.nil,.t (.leaf (.bool false)),.t (.leaf (.bool false)),.t (.leaf (.int .i64 0)),.t (.leaf (.string ⟨#[]⟩)),.nil,.nil]:= {}
instance aBL:XK Tryz.prog 163 [(0,1),(1,1),(2,3),(5,1),(6,1),(7,1),(8,3),(11,1)]:=⟨by kernel_rfl⟩
instance aCa:SH Tryz.prog 187 (false,1):= {}
instance aCH:SZ Tryz.prog 187 1:= {}
instance EB:EL Tryz.prog 187 (189,2,40):= {}
instance aC3:ZE Tryz.prog 189 2:= {}
instance aDi:ZR Tryz.prog 187 [.nil]:= {}
instance ay6:SH Tryz.prog 189 (true,2):= {}
instance aCI:SZ Tryz.prog 189 2:= {}
instance aeW:ZR Tryz.prog 189 [.t (.leaf (.string ⟨#[]⟩)),.nil]:= {}
instance aBM:XK Tryz.prog 189 [(0,1),(1,1)]:=⟨by kernel_rfl⟩
instance aCb:SH Tryz.prog 194 (false,1):= {}
instance aCJ:SZ Tryz.prog 194 1:= {}
instance aCc:SH Tryz.prog 198 (false,1):= {}
instance aCK:SZ Tryz.prog 198 1:= {}
instance aBC:EL Tryz.prog 198 (52,2,16):= {}
instance aC4:ZE Tryz.prog 52 2:= {}
instance aDj:ZR Tryz.prog 198 [.nil]:= {}
instance aCd:SH Tryz.prog 201 (false,1):= {}
instance aCL:SZ Tryz.prog 201 1:= {}
instance aCe:SH Tryz.prog 207 (false,1):= {}
instance aCM:SZ Tryz.prog 207 1:= {}
instance ayN:EL Tryz.prog 207 (245,4,64):= {}
instance azB:ZE Tryz.prog 245 4:= {}
instance aDk:ZR Tryz.prog 207 [.nil]:= {}
instance aCf:SH Tryz.prog 208 (false,1):= {}
instance aCN:SZ Tryz.prog 208 1:= {}
instance aBD:EL Tryz.prog 208 (211,9,144):= {}
instance aC5:ZE Tryz.prog 211 9:= {}
instance aDl:ZR Tryz.prog 208 [.nil]:= {}
instance aCg:SH Tryz.prog 209 (false,1):= {}
instance aCO:SZ Tryz.prog 209 1:= {}
instance aBE:EL Tryz.prog 209 (262,11,184):= {}
instance aC6:ZE Tryz.prog 262 11:= {}
instance aDm:ZR Tryz.prog 209 [.nil]:= {}
instance aCh:SH Tryz.prog 211 (true,9):= {}
instance aCP:SZ Tryz.prog 211 9:= {}
instance aDn:ZR Tryz.prog 211 [.t (.leaf (.int .i64 0)),.t (.leaf (.string ⟨#[]⟩)),.t (.leaf (.string ⟨#[]⟩)),.t (.leaf (.int .i64 0)),.t (.leaf (.int .i64 0)),.t (.leaf (.string ⟨#[]⟩)),.nil,.nil,.nil]:= {}
instance aBN:XK Tryz.prog 211 [(0,1),(1,1),(2,1),(3,1),(4,3),(7,1),(8,1)]:=⟨by kernel_rfl⟩
instance aCi:SH Tryz.prog 213 (true,16):= {}
instance aCQ:SZ Tryz.prog 213 16:= {}
instance aDo:ZR Tryz.prog 213 [.t (.leaf (.string ⟨#[]⟩)),.nil,.nil,.nil,.t (.leaf (.int .i64 0)),.t (.leaf (.string ⟨#[]⟩)),.nil,.t (.leaf (.int .i64 0)),.t (.leaf (.string ⟨#[]⟩)),.t (.leaf (.string ⟨#[]⟩)),.t (.leaf (.int .i64 0)),.t (.leaf (.int .i64 0)),.t (.leaf (.string ⟨#[]⟩)),.nil,.nil,.nil]:= {}
instance aBO:XK Tryz.prog 213 [(0,1),(1,1),(2,1),(3,1),(4,3),(7,9)]:=⟨by kernel_rfl⟩
instance aCj:SH Tryz.prog 218 (false,1):= {}
instance aCR:SZ Tryz.prog 218 1:= {}
instance aCk:SH Tryz.prog 220 (true,5):= {}
instance aCS:SZ Tryz.prog 220 5:= {}
instance aDp:ZR Tryz.prog 220 [.t (.leaf (.string ⟨#[]⟩)),.t (.leaf (.int .i64 0)),.t (.leaf (.int .i64 0)),.t (.leaf (.int .i64 0)),.t (.leaf (.bool false))]:= {}
instance aBP:XK Tryz.prog 220 [(0,1),(1,1),(2,1),(3,1),(4,1)]:=⟨by kernel_rfl⟩
instance aCl:SH Tryz.prog 228 (false,1):= {}
instance aCT:SZ Tryz.prog 228 1:= {}
instance aCm:SH Tryz.prog 237 (true,16):= {}
instance aCU:SZ Tryz.prog 237 16:= {}
instance awS:ZR Tryz.prog 237 [.t (.leaf (.string ⟨#[]⟩)),.nil,.t (.leaf (.int .i64 0)),.t (.leaf (.string ⟨#[]⟩)),.nil,.t (.leaf (.bool false)),.nil,.t (.leaf (.int .i64 0)),.t (.leaf (.string ⟨#[]⟩)),.t (.leaf (.string ⟨#[]⟩)),.t (.leaf (.int .i64 0)),.t (.leaf (.int .i64 0)),.t (.leaf (.string ⟨#[]⟩)),.nil,.nil,.nil]:= {}
instance aBQ:XK Tryz.prog 237 [(0,1),(1,1),(2,3),(5,1),(6,1),(7,9)]:=⟨by kernel_rfl⟩
instance aCn:SH Tryz.prog 242 (true,11):= {}
instance aCV:SZ Tryz.prog 242 11:= {}
instance azF:ZR Tryz.prog 242 [.t (.leaf (.string ⟨#[]⟩)),.nil,.t (.leaf (.int .i64 0)),.t (.leaf (.string ⟨#[]⟩)),.t (.leaf (.string ⟨#[]⟩)),.t (.leaf (.int .i64 0)),.t (.leaf (.int .i64 0)),.t (.leaf (.string ⟨#[]⟩)),.nil,.nil,.nil]:= {}
instance aBR:XK Tryz.prog 242 [(0,1),(1,1),(2,9)]:=⟨by kernel_rfl⟩
instance aCo:SH Tryz.prog 245 (true,4):= {}
instance aCW:SZ Tryz.prog 245 4:= {}
instance aDq:ZR Tryz.prog 245 [.t (.leaf (.string ⟨#[]⟩)),.t (.leaf (.int .i64 0)),.t (.leaf (.string ⟨#[]⟩)),.nil]:= {}
instance aBS:XK Tryz.prog 245 [(0,1),(1,3)]:=⟨by kernel_rfl⟩
instance aCp:SH Tryz.prog 262 (true,11):= {}
instance aCX:SZ Tryz.prog 262 11:= {}
instance aDr:ZR Tryz.prog 262 [.t (.leaf (.string ⟨#[]⟩)),.nil,.t (.leaf (.int .i64 0)),.t (.leaf (.string ⟨#[]⟩)),.t (.leaf (.string ⟨#[]⟩)),.t (.leaf (.int .i64 0)),.t (.leaf (.int .i64 0)),.t (.leaf (.string ⟨#[]⟩)),.nil,.nil,.nil]:= {}
instance aBT:XK Tryz.prog 262 [(0,1),(1,1),(2,9)]:=⟨by kernel_rfl⟩
instance aAP:FO Tryz.prog 26 0 0:= {}
instance aAQ:FO Tryz.prog 30 0 0:= {}
instance aAR:FO Tryz.prog 30 1 1:= {}
instance aAS:FO Tryz.prog 30 2 2:= {}
instance aAT:FO Tryz.prog 32 0 0:= {}
instance aAU:FO Tryz.prog 32 1 1:= {}
instance aAV:FO Tryz.prog 39 0 0:= {}
instance aAW:FO Tryz.prog 39 1 1:= {}
instance aAX:FO Tryz.prog 39 2 2:= {}
instance aAY:FO Tryz.prog 44 0 0:= {}
instance aAZ:FO Tryz.prog 44 1 1:= {}
instance aA0:FO Tryz.prog 46 0 0:= {}
instance aA1:FO Tryz.prog 46 1 1:= {}
instance aA2:FO Tryz.prog 52 0 0:= {}
instance aA3:FO Tryz.prog 52 1 1:= {}
instance aA4:FO Tryz.prog 55 0 0:= {}
instance aA5:FO Tryz.prog 55 1 1:= {}
instance aA6:FO Tryz.prog 55 2 2:= {}
instance aA7:FO Tryz.prog 55 3 4:= {}
instance aA8:FO Tryz.prog 68 0 0:= {}
instance aA9:FO Tryz.prog 68 1 1:= {}
instance aBa:FO Tryz.prog 68 2 2:= {}
instance aBb:FO Tryz.prog 99 0 0:= {}
instance aBc:FO Tryz.prog 99 1 4:= {}
instance aBd:FO Tryz.prog 99 2 5:= {}
instance azI:FO Tryz.prog 133 0 0:= {}
instance azJ:FO Tryz.prog 133 1 1:= {}
instance azK:FO Tryz.prog 133 2 2:= {}
instance azL:FO Tryz.prog 141 0 0:= {}
instance azM:FO Tryz.prog 141 1 1:= {}
instance azN:FO Tryz.prog 141 2 2:= {}
instance azO:FO Tryz.prog 141 3 3:= {}
instance azP:FO Tryz.prog 141 4 4:= {}
instance azQ:FO Tryz.prog 141 5 5:= {}
instance azR:FO Tryz.prog 145 0 0:= {}
instance azS:FO Tryz.prog 145 1 1:= {}
instance azT:FO Tryz.prog 156 0 0:= {}
instance azU:FO Tryz.prog 156 1 1:= {}
instance azV:FO Tryz.prog 156 2 2:= {}
instance azW:FO Tryz.prog 156 3 3:= {}
instance azX:FO Tryz.prog 156 4 4:= {}
instance azY:FO Tryz.prog 163 0 0:= {}
instance azZ:FO Tryz.prog 163 1 1:= {}
instance az0:FO Tryz.prog 163 2 2:= {}
instance az1:FO Tryz.prog 163 3 5:= {}
instance az2:FO Tryz.prog 163 4 6:= {}
instance az3:FO Tryz.prog 163 5 7:= {}
instance az4:FO Tryz.prog 163 6 8:= {}
instance az5:FO Tryz.prog 163 7 11:= {}
instance az6:FO Tryz.prog 189 0 0:= {}
instance az7:FO Tryz.prog 189 1 1:= {}
instance az8:FO Tryz.prog 211 0 0:= {}
instance az9:FO Tryz.prog 211 1 1:= {}
instance aAa:FO Tryz.prog 211 2 2:= {}
instance aAb:FO Tryz.prog 211 3 3:= {}
instance aAc:FO Tryz.prog 211 4 4:= {}
instance aAd:FO Tryz.prog 211 5 7:= {}
instance aAe:FO Tryz.prog 211 6 8:= {}
instance aAf:FO Tryz.prog 213 0 0:= {}
instance aAg:FO Tryz.prog 213 1 1:= {}
instance aAh:FO Tryz.prog 213 2 2:= {}
instance aAi:FO Tryz.prog 213 3 3:= {}
instance aAj:FO Tryz.prog 213 4 4:= {}
instance aAk:FO Tryz.prog 213 5 7:= {}
instance aAl:FO Tryz.prog 220 0 0:= {}
instance aAm:FO Tryz.prog 220 1 1:= {}
instance aAn:FO Tryz.prog 220 2 2:= {}
instance aAo:FO Tryz.prog 220 3 3:= {}
instance aAp:FO Tryz.prog 220 4 4:= {}
instance aAq:FO Tryz.prog 237 0 0:= {}
instance aAr:FO Tryz.prog 237 1 1:= {}
instance aAs:FO Tryz.prog 237 2 2:= {}
instance aAt:FO Tryz.prog 237 3 5:= {}
instance aAu:FO Tryz.prog 237 4 6:= {}
instance aAv:FO Tryz.prog 237 5 7:= {}
instance aAw:FO Tryz.prog 242 0 0:= {}
instance aAx:FO Tryz.prog 242 1 1:= {}
instance aAy:FO Tryz.prog 242 2 2:= {}
instance aAz:FO Tryz.prog 245 0 0:= {}
instance aAA:FO Tryz.prog 245 1 1:= {}
instance aAB:FO Tryz.prog 262 0 0:= {}
instance aAC:FO Tryz.prog 262 1 1:= {}
instance aAD:FO Tryz.prog 262 2 2:= {}
instance aAE:FQ Tryz.prog 189 0 (0,false,1):= {}
instance aAF:FQ Tryz.prog 189 1 (1,false,1):= {}
theorem ayV:Tryz.prog.follows .mixedOrders=true:=by kernel_rfl
open Go.WalkArith Go.IntWalk Go.WideShapes
theorem iM.set{ok:Nat→Nat→Prop}{st:dL}{m:kQ}{w:World}{q:PV}: ∀ {ps:Z PV} {vs:Z Value} {j:Nat},iM ok st m w ps vs→(∀v,vs[j]?=some v→RV ok st m w q v)→iM ok st m w (ps.set j q) vs
 | [],[],j,_,_=>by simp [iM]
 |p::ps,v::vs,0,h,k=>⟨k v rfl,h.2⟩
 |p::ps,v::vs,j+1,h,k=>⟨h.1,iM.set h.2 fun u hu=>k u (by simpa using hu)⟩
 | [],_::_,_,h,_=>h.elim
 |_::_,[],_,h,_=>h.elim
section
variable {P:Program} {C:qT} {n:Nat} {s:AS}
theorem eY{k j:Nat}{bx:dO}(E sz:Nat)(hsz:0<sz)(hb:s.st.boxes[k]?=some (some bx))(hj:bx.cells[j]?=some .nil):
 Wk C n s ⟨s.env,(s.st.addRow ⟨E,sz,[],false⟩).setBox k ⟨bx.ty,bx.cells.set j (.acc sz [] s.st.rows.length)⟩⟩:=fun m a w h=>by
 have hE:=F4 (row:=⟨E,sz,[],false⟩) h.sto
 have hS:=JD (row:=⟨E,sz,[],false⟩) h.sto hsz rfl
 have h1:=h.step hE hS
 have hb1:(s.st.addRow ⟨E,sz,[],false⟩).boxes[k]?=some (some bx):=hb
 obtain⟨vs,hob,hcs⟩:=hS.box k bx hb1
 have hc:iM (kV C.av (s.st.addRow ⟨E,sz,[],false⟩) ⟨m.ρ,CR m.γ s.st.rows.length none⟩) (s.st.addRow ⟨E,sz,[],false⟩) ⟨m.ρ,CR m.γ s.st.rows.length none⟩ w (bx.cells.set j (.acc sz [] s.st.rows.length)) vs:=by
  refine iM.set hcs fun v hv=>?_
  obtain⟨u,hu,hr⟩:=hcs.get hj
  rw [hv] at hu
  cases hu
  obtain rfl:=(show v=_ from hr)
  exact⟨⟨E,sz,[],false⟩,by show(s.st.rows++ [_])[s.st.rows.length]?=_;simp,rfl,Nat.le_refl _,J5 _ _ _ _ (by unfold maxLen;omega),fun _=>by simp [cI,Z5]⟩
 exact⟨_,h1.step (TI hS hb1 rfl rfl rfl rfl fun _ _=>rfl) (abR hS hb1 rfl rfl rfl rfl (fun _ _=>rfl) hob hc)⟩
end
section
variable {P:Program} {C:qT} {n:Nat} {s:AS} {o:Oper}
theorem avS{T:TypeId}(hT:P.underlying T=some .bool)(a b:Bool)(w:World):(Op.equalIn Op.maxDepth T (.bool a) (.bool b)).run P w= .ok (a==b) w:=by
 unfold Op.maxDepth Op.equalIn
 simp [run_underlying hT]
theorem CU{T yT:TypeId}{x y:Operand}{a b:Bool}(ho:o.op= .binOp .neq T x y yT)(hd:bL o.dst n=true)(hx:s.ev x=some (.t (.leaf (.bool a))))(hy:s.ev y=some (.t (.leaf (.bool b))))(hT:P.underlying T=some .bool):
 cX P C n o s (s.putO o.dst (.t (.leaf (.bool (!decide (a=b)))))):=l5 ho hd hx hy (fun w=>by
  simp [eqGuard,binOp,Op.equal,avS hT]
  cases a<;>cases b<;>rfl) trivial
end
inductive LR (σ β:Type) where
 |next (s:σ)
 |brk (s:σ)
 |ret (x:β)
def sw{α:Type}(b:Bool)(x y:α):α:=match b with
 |true=>x
 |false=>y
theorem jL{α:Type}{b:Bool}{x y z:α}(h:b=true)(k:x=z):sw b x y=z:=by rw [h];exact k
theorem iK{α:Type}{b:Bool}{x y z:α}(h:b=false)(k:y=z):sw b x y=z:=by rw [h];exact k
def lt{α β:Type}(x:α)(f:α→β):β:=f x
theorem SW{α β:Type}{x y:α}{f:α→β}{z:β}(h:y=x)(k:f y=z):lt x f=z:=by subst h;exact k
noncomputable def gd{α:Type}(p:Prop)(x:J α):J α:= @ite _ p (Classical.propDecidable p) x none
theorem f7{α:Type}{p:Prop}{x z:J α}(h:p)(k:x=z):gd p x=z:=by unfold gd;rw [if_pos h];exact k
theorem gdF{α:Type}{p:Prop}{x:J α}(h: ¬p):gd p x=none:=by unfold gd;rw [if_neg h]
def bd{α β:Type}(m:J α)(f:α→J β):J β:=match m with
 |none=>none
 |some a=>f a
theorem iP{α β:Type}{m:J α}{f:α→J β}{a:α}{z:J β}(h:m=some a)(k:f a=z):bd m f=z:=by rw [h];exact k
def so{σ β:Type}(m:J (β⊕σ))(f:σ→J β):J β:=match m with
 |none=>none
 |some (.inl x)=>some x
 |some (.inr s)=>f s
theorem soR{σ β:Type}{m:J (β⊕σ)}{f:σ→J β}{s:σ}{z:J β}(h:m=some (.inr s))(k:f s=z):so m f=z:=by rw [h];exact k
theorem soL{σ β:Type}{m:J (β⊕σ)}{f:σ→J β}{x:β}(h:m=some (.inl x)):so m f=some x:=by rw [h];rfl
def loopN{σ β:Type}(f:Nat→σ→J (LR σ β)):Nat→Nat→σ→J (β⊕σ)
 |0,_,s=>some (.inr s)
 |k+1,i,s=>match f i s with
  |none=>none
  |some (.next s')=>loopN f k (i+1) s'
  |some (.brk s')=>some (.inr s')
  |some (.ret x)=>some (.inl x)
def loopW{σ β:Type}(f:σ→J (LR σ β)):Nat→σ→J (β⊕σ)
 |0,_=>none
 |k+1,s=>match f s with
  |none=>none
  |some (.next s')=>loopW f k s'
  |some (.brk s')=>some (.inr s')
  |some (.ret x)=>some (.inl x)
section
variable {σ β:Type} {f:Nat→σ→J (LR σ β)} {n i:Nat} {s s':σ} {x:β} {R:J (β⊕σ)}
theorem PD(h:i<n)(hJ:R=loopN f (n-i) i s)(e:f i s=some (.next s')):R=loopN f (n-(i+1)) (i+1) s':=by
 rw [hJ,show n-i=(n-(i+1))+1 by omega,loopN,e]
theorem aq9(h:i<n)(hJ:R=loopN f (n-i) i s)(e:f i s=some (.brk s')):R=some (.inr s'):=by
 rw [hJ,show n-i=(n-(i+1))+1 by omega,loopN,e]
theorem arC(h:i<n)(hJ:R=loopN f (n-i) i s)(e:f i s=some (.ret x)):R=some (.inl x):=by
 rw [hJ,show n-i=(n-(i+1))+1 by omega,loopN,e]
theorem arA(h:n≤i)(hJ:R=loopN f (n-i) i s):R=some (.inr s):=by
 rw [hJ,show n-i=0 by omega,loopN]
end
section
variable {σ β:Type} {f:σ→J (LR σ β)} {k:Nat} {s s':σ} {x:β} {R:J (β⊕σ)}
end
section
variable {P:Program} {C:qT} {n:Nat} {s:AS} {Q:Exit→AS→Prop}
def QC(C:qT)(n:Nat)(Q:Exit→AS→Prop):Prop:= ∀e s s',Wk C n s s'→Q e s'→Q e s
def NC(C:qT)(n:Nat)(N:AS→Prop):Prop:= ∀s s',Wk C n s s'→N s'→N s
theorem ayW{c:Code}:NC C n (dR P C n c Q):=fun _ _ h k=>dR.weak h k
theorem axQ{N:AS→Prop}(hn:NC C n N)(hq:QC C n Q):QC C n (abU N Q):=fun e s s' h k=>by
 cases e with
 |normal=>exact hn s s' h k
 |_=>exact hq _ s s' h k
theorem avR{id:Nat}(hq:QC C n Q):QC C n (AB id Q):=fun e s s' h k=>by
 cases e with
 |exit i=>
  simp only [AB] at k ⊢
  split
  ·rename_i hi;rw [if_pos hi] at k;exact hq _ s s' h k
  ·rename_i hi;rw [if_neg hi] at k;exact hq _ s s' h k
 |_=>exact hq _ s s' h k
theorem axP{fn:Func}{R:PV→dL→Prop}:QC C n (D1 P C n fn R):=fun e s s' h k=>⟨k.1,fun m a w hr=>by
 obtain⟨m',h'⟩:=h m a w hr
 exact k.2 m' a w h'⟩
end
section
variable {P:Program} {C:qT} {n:Nat} {s:AS} {o:Oper}
theorem cX.makeSlice{T E sz by_ N:Nat}{x y:Operand}(ho:o.op= .makeSlice T x y)(hd:bL o.dst n=true)(hx:s.ev x=some (.t (.leaf (.int .i64 (N:Int)))))(hy:s.ev y=some (.t (.leaf (.int .i64 (N:Int)))))
 (hT:elemOf? P T=some (E,sz,by_)) (hz:(P.info? E).bind (fun i=>i.zero.map (fun z=>z.cells.size))=some sz) (hsz:0<sz) (hb:by_*N≤281474976710656) (hN:N≤9223372036854775807):
 cX P C n o s ((⟨s.env,s.st.addRow ⟨E,sz,[],true⟩⟩:AS).putO o.dst (.full sz N s.st.rows.length)):=
 cX.run hd (s1:=⟨s.env,s.st.addRow ⟨E,sz,[],true⟩⟩) (fun m a w h=>by
  obtain⟨i,hu,hi,hs,hby⟩:=elemOf?.spec hT
  have h1:=(cH.leaf_eq (h.eval hx)).1
  have h2:=(cH.leaf_eq (h.eval hy)).1
  cases hzz:i.zero with
  |none=>simp [hi,hzz] at hz
  |some z=>
   have hb':(i.bytes:Int)*(N:Int)≤281474976710656:=by
    rw [hby]
    have:((by_*N:Nat):Int)≤281474976710656:=by omega
    rwa [Int.natCast_mul] at this
   have hr:=run_make (P:=P) w T E i z hu hi hzz .i64 .i64 N N (by omega) (Int.le_refl _) hb' (by omega)
   simp only [Int.toNat_natCast] at hr
   refine⟨.slice (some ⟨w.heap.size,0,none⟩) N N,⟨m.ρ,CR m.γ s.st.rows.length (some (w.heap.size,N))⟩,_,?_,TH (row:=⟨E,sz,[],true⟩) (c:=N) (cur:=madeCells z.cells (N*i.size)) h.sto,abQ (row:=⟨E,sz,[],true⟩) h.sto hsz rfl (by rw [size_madeCells,hs]) (by unfold maxLen;omega),?_⟩
   ·unfold execOp
    simp only [ho,h1,h2,Sem.run_bind,hr,Result.andThen_ok]
    rfl
   ·exact⟨⟨E,sz,[],true⟩,w.heap.size,by show(s.st.rows++ [_])[s.st.rows.length]?=_;simp,rfl,rfl,cI _ _ _,rfl⟩) rfl
theorem zB{T E sz by_ N r k:Nat}{x i:Operand}(ho:o.op= .indexAddr T x i)(hd:bL o.dst n=true)(hx:s.ev x=some (.full sz N r))(hi:s.ev i=some (.t (.leaf (.int .i64 (k:Int)))))(hk:k<N)(hT:elemOf? P T=some (E,sz,by_)):
 cX P C n o s (s.putO o.dst (.rptr r k)):=
 dV (c4 hd) fun m a w h=>by
  obtain⟨row,g,h1,h2,h3,h4,h5⟩:=h.eval hx
  have h6:=(cH.leaf_eq (h.eval hi)).1
  refine⟨.pointer (some ⟨g,0+k*sz,none⟩),?_,row,g,N,h1,h3,h4,by rw [h2,Nat.zero_add]⟩
  unfold execOp
  simp only [ho,h5,h6,Sem.run_bind,run_indexAt' hT hk,Result.andThen_ok]
  rfl
theorem zD{T sz N r k:Nat}{x y:Operand}{row:mV}{p:PV}{e:Z Tr}{es2:Z (Z Tr)}(j:Nat)(ho:o.op= .store T x y)(hx:s.ev x=some (.rptr r k))(hf:s.lk j=some (.full sz N r))(hrow:s.st.rows[r]?=some row)(hy:s.ev y=some p)(ht:IJ p=true)
 (hle:tN (xR p) (e.map PV.t)) (hel:e.length=sz) (hflat:KB (e.map PV.t)=true) (hT:(P.info? T).map (·.size)=some sz) (hk:k=row.es.length) (hkN:k<N) (he2:row.es++ [e]=es2):
 cX P C n o s ((⟨s.env,s.st.setRow r { row with es:=es2 }⟩:AS).delO o.dst):=
 ah3 (s1:=⟨s.env,s.st.setRow r { row with es:=es2 }⟩) (fun m a w h=>by
  subst he2 hk
  obtain⟨vf,-,row0,g,q1,q2,q3,q4,q5⟩:=h.env j _ hf
  rw [hrow] at q1
  cases q1
  subst q2
  obtain⟨row1,g1,n1,p1,p3,p4,p5⟩:=h.eval hx
  rw [hrow] at p1
  cases p1
  rw [q4] at p4
  injection p4 with p4
  injection p4 with e1 e2
  subst e1 e2
  have hr:=tN.rv hle (LV (h.eval hy) (MC ht))
  have hl:(a.eval y).cells.toList.length=row.sz:=by have:=hr.length;rw [List.length_map,hel] at this;exact this.symm
  obtain⟨hpos,hlens,hplace⟩:=h.sto.row r row hrow
  rcases hplace with⟨z1,-⟩|⟨g',c',cur,z1,hob,hcs,hfit,hmax,hrep⟩
  ·rw [q4] at z1;cases z1
  rw [q4] at z1
  injection z1 with z1
  injection z1 with e1 e2
  subst e1 e2
  have hfitc:row.es.length*row.sz+row.sz≤cur.size:=by
   rw [hcs]
   have:=Nat.mul_le_mul_right row.sz (Nat.succ_le_of_lt hkN)
   rwa [Nat.succ_mul] at this
  have hrun:=JJ (P:=P) (T:=T) (d:=row.es.length*row.sz) (v:=a.eval y) hob (by rw [hT,← hl];simp) (by have hq:(a.eval y).cells.size=row.sz:=(by simpa using hl);omega) (KB.one hflat hr)
  have hsp: ∀q:Nat,q<row.es.length*row.sz→(splice cur (row.es.length*row.sz) (a.eval y).cells.toList)[q]?=cur[q]?:=fun q hq=>by
   unfold Go.Proofs.YtfcoaagbccmahaaGreat.splice
   rw [List.getElem?_toArray,List.append_assoc,List.getElem?_append_left (by simp;omega),List.getElem?_take,if_pos hq,Array.getElem?_toList]
  have hG:WG C.av s.st m w r row [e] g N (splice cur (row.es.length*row.sz) (a.eval y).cells.toList) (w.setRow g (splice cur (row.es.length*row.sz) (a.eval y).cells.toList)):=by
   refine⟨hrow,rfl,rfl,rfl,by simp,fun b hb hne=>setRow_other w g b _ hne,setRow_heap w g cur _ _ _ hob,?_,by simp only [List.length_singleton];omega,hmax,fun e' he'=>?_,fun i e' hi j' d hd=>?_,fun i e' hi j' d hd=>?_,.inl ⟨N,cur,q4,hob,fun o ho=>hsp o ho⟩,fun _=>q4⟩
   ·unfold Go.Proofs.YtfcoaagbccmahaaGreat.splice
    simp only [List.size_toArray,List.length_append,List.length_take,List.length_drop,Array.length_toList,hl]
    omega
   ·have:e'=e:=by simpa using he'
    rw [this];exact hel
   ·cases hrep with
    |row cf r1 r2 r3 r4=>
     obtain⟨b',off',hbo,hb',r5⟩:=r3 (by rintro e0;rw [e0] at hi;simp at hi)
     injection hbo with hbo
     injection hbo with e1 e2 e3
     subst e1 e2
     have hc:=(r5 i e' hi j' d hd).2
     rw [hob.cell,Nat.zero_add] at hc
     refine⟨cf i j',?_,r4 i e' hi j' d hd⟩
     have hi1:=dK hi
     have hj1:j'<row.sz:=by rw [← hlens e' (List.mem_of_getElem? hi)];exact dK hd
     have hlt:i*row.sz+j'<row.es.length*row.sz:=by
      have:(i+1)*row.sz≤row.es.length*row.sz:=Nat.mul_le_mul_right _ hi1
      rw [Nat.succ_mul] at this
      omega
     rw [hsp _ hlt];exact hc
   ·obtain⟨rfl,rfl⟩:i=0∧e'=e:=by
     rcases i with _|i
     ·simp at hi;exact⟨rfl,hi.symm⟩
     ·simp at hi
    obtain⟨v,hv,hrv⟩:=hr.get (j:=j') (p:= .t d) (by rw [List.getElem?_map,hd];rfl)
    refine⟨v,?_,hrv⟩
    have hjl:=dK hv
    unfold Go.Proofs.YtfcoaagbccmahaaGreat.splice
    have htl:(cur.toList.take (row.es.length*row.sz)).length=row.es.length*row.sz:=by simp;omega
    rw [List.getElem?_toArray,Nat.add_zero,List.append_assoc,List.getElem?_append_right (by rw [htl];omega),htl,Nat.add_sub_cancel_left,List.getElem?_append_left hjl,hv]
  have hgm:CR m.γ r (some (g,N))=m.γ:=by
   funext q
   by_cases hqr:q=r
   ·subst hqr;rw [cI,q4]
   ·rw [eP hqr]
  refine⟨_,_,?_,hG.ev h.sto,hG.sto h.sto⟩
  unfold execOp
  simp only [ho,p5,Instr.storeAt,Instr.sureAddr,Sem.run_bind,Sem.run_pure,Result.andThen_ok,hrun]) rfl
theorem Wk.full{i E sz N r:Nat}{es:Z (Z Tr)}{b:Bool}(hx:s.lk i=some (.full sz N r))(hrow:s.st.rows[r]?=some ⟨E,sz,es,b⟩)(hl:es.length=N):Wk C n s (s.put i (.t (.row sz es))):=fun m a w h=>by
 refine⟨m,h.dfr,h.tsz,h.sto,fun j q hq=>?_,h.ev⟩
 rw [CE] at hq
 split at hq
 ·rename_i e
  subst e
  cases hq
  obtain⟨v,hv,row,g,q1,q2,q3,q4,q5⟩:=h.env j _ hx
  refine⟨v,hv,?_⟩
  rw [hrow] at q1
  cases q1
  obtain⟨-,-,hplace⟩:=h.sto.row r _ hrow
  rcases hplace with⟨z1,-⟩|⟨g',c',cur,z1,hob,hcs,hfit,hmax,hrep⟩
  ·rw [q4] at z1;cases z1
  rw [q4] at z1
  injection z1 with z1
  injection z1 with e1 e2
  subst e1 e2
  subst q5
  show cH _ _ (.row sz es) _
  have:cH (kV C.av s.st m) w (.row sz es) (.slice (some ⟨g,0,none⟩) es.length N):=hrep
  rw [hl] at this
  exact this
 ·exact h.env j q hq
end
def HX(v:Y)(k:Nat):UInt8:=(v[k]?).getD 0
section
variable {P:Program} {C:qT} {n:Nat} {s:AS} {o:Oper}
theorem ay9(b:UInt8):sN (.int .u8 (b.toNat:Int)):=by
 have:=b.toNat_lt
 simp [sN,Lit.wf,IntKind.min,IntKind.max,IntKind.bits,IntKind.signed]
 omega
theorem hZ{T:TypeId}{x i:Operand}{v:Y}{k:Nat}(ho:o.op= .index T x i)(hd:bL o.dst n=true)(hx:s.ev x=some (.t (.leaf (.string v))))(hi:s.ev i=some (.t (.leaf (.int .i64 (k:Int)))))(hk:k<v.size)(hT:P.underlying T=some .string):
 cX P C n o s (s.putO o.dst (.t (.leaf (.int .u8 ((HX v k).toNat:Int))))):=
 dV (c4 hd) fun m a w h=>by
  have h1:=(cH.leaf_eq (h.eval hx)).1
  have h2:=(cH.leaf_eq (h.eval hi)).1
  refine⟨.int .u8 ((HX v k).toNat:Int),?_,cH.leaf (ay9 _)⟩
  have h3:v[k]?=some v[k]:=by simp [hk]
  unfold execOp
  simp [ho,h1,h2,Instr.index,asIntOf,run_underlying hT,h3,HX]
theorem qQ{T:TypeId}{x i:Operand}{v:Y}{y:Int}(ho:o.op= .index T x i)(hd:bL o.dst n=true)(hx:s.ev x=some (.t (.leaf (.string v))))(hi:s.ev i=some (.t (.leaf (.int .i64 y))))(h0:0≤y)(hk:y.toNat<v.size)(hT:P.underlying T=some .string):
 cX P C n o s (s.putO o.dst (.t (.leaf (.int .u8 ((HX v y.toNat).toNat:Int))))):=
 hZ (k:=y.toNat) ho hd hx (by rw [hi,Int.toNat_of_nonneg h0]) hk hT
def VR(s:AS):J Operand→J Int
 |none=>some 0
 |some x=>match s.ev x with
  |some (.t (.leaf (.int .i64 y)))=>some y
  |_=>none
def FC(s:AS)(len:Nat):J Operand→J Int
 |none=>some (len:Int)
 |some x=>match s.ev x with
  |some (.t (.leaf (.int .i64 y)))=>some y
  |_=>none
theorem amP{m:kQ}{a:Act}{w:World}(h:RA C n s m a w){x:Operand}{y:Int}(hx:s.ev x=some (.t (.leaf (.int .i64 y)))):a.eval x= .int .i64 y:=(cH.leaf_eq (h.eval hx)).1
theorem VR.some'{x:Operand}{y:Int}(h:VR s (some x)=some y):s.ev x=some (.t (.leaf (.int .i64 y))):=by
 unfold VR at h
 simp only at h
 split at h
 ·rename_i z hz
  simp only [Option.some.injEq] at h
  rw [hz,h]
 ·cases h
theorem FC.some'{x:Operand}{y:Int}{len:Nat}(h:FC s len (some x)=some y):s.ev x=some (.t (.leaf (.int .i64 y))):=by
 unfold FC at h
 simp only at h
 split at h
 ·rename_i z hz
  simp only [Option.some.injEq] at h
  rw [hz,h]
 ·cases h
theorem Z6{m:kQ}{a:Act}{w:World}(h:RA C n s m a w){isS:Bool}{len cap:Nat}{lo hi:J Operand}{l k:Int}(hlen:len≤cap)(h1:VR s lo=some l)(h2:FC s len hi=some k)(h3:0≤l)(h4:l≤k)(h5:k≤(len:Int)):
 (Instr.sliceBounds isS len cap (lo.map a.eval) (hi.map a.eval) none).run P w= .ok (l.toNat,k.toNat,cap) w:=by
 have hk:0≤k:=by omega
 have hkc:k≤(cap:Int):=by omega
 have hlk:l≤(k.toNat:Int):=by omega
 cases lo with
 |none=>
  simp only [VR,Option.some.injEq] at h1
  subst h1
  cases hi with
  |none=>
   simp only [FC,Option.some.injEq] at h2
   subst h2
   simp [Instr.sliceBounds]
  |some y=>
   have e:=amP h (FC.some' h2)
   simp [Instr.sliceBounds,Instr.sliceBound,e,asIntOf,hk,hkc]
 |some x=>
  have e:=amP h (VR.some' h1)
  cases hi with
  |none=>
   simp only [FC,Option.some.injEq] at h2
   subst h2
   simp [Instr.sliceBounds,Instr.sliceBound,e,asIntOf,h3,h4]
  |some y=>
   have e2:=amP h (FC.some' h2)
   have hm:max k 0=k:=Int.max_eq_left hk
   simp [Instr.sliceBounds,Instr.sliceBound,e,e2,asIntOf,hk,hkc,h3,hlk,hm,h4]
   try omega
theorem CV{T:TypeId}{x:Operand}{lo hi:J Operand}{v:Y}{l k:Int}(ho:o.op= .slice T x lo hi none)(hd:bL o.dst n=true)(hx:s.ev x=some (.t (.leaf (.string v))))(h1:VR s lo=some l)(h2:FC s v.size hi=some k)(h3:0≤l∧l≤k∧k≤(v.size:Int))(hT:P.underlying T=some .string):
 cX P C n o s (s.putO o.dst (.t (.leaf (.string (v.extract l.toNat k.toNat))))):=
 dV (c4 hd) fun m a w h=>by
  obtain⟨e,h6⟩:=cH.leaf_eq (h.eval hx)
  have h6:v.size≤maxLen:=h6
  refine⟨.string (v.extract l.toNat k.toNat),?_,cH.leaf ?_⟩
  ·have hb:=Z6 (P:=P) h (isS:=false) (Nat.le_refl v.size) h1 h2 h3.1 h3.2.1 h3.2.2
   unfold execOp
   simp [ho,e,Instr.sliceAt,Instr.slice,run_underlying hT,hb]
  ·show(v.extract l.toNat k.toNat).size≤maxLen
   rw [ByteArray.size_extract]
   omega
theorem cH.part{ok:Nat→Nat→Prop}{w:World}{sz:Nat}{es:Z (Z Tr)}{a:J Addr}{cap l k:Nat}(h:cH ok w (.row sz es) (.slice a es.length cap))(h1:l≤k)(h2:k≤es.length):cH ok w (.row sz ((es.take k).drop l)) (.slice (if cap=l then a else a.map (·.add (l*sz))) (k-l) (cap-l)):=by
 cases h with
 |row c q1 q2 q3 q4=>
  have hlen:((es.take k).drop l).length=k-l:=by simp;omega
  have hget: ∀(i:Nat) e,((es.take k).drop l)[i]?=some e→es[l+i]?=some e:=fun i e he=>by
   rw [List.getElem?_drop,List.getElem?_take] at he
   split at he
   ·exact he
   ·cases he
  have:=cH.row (ok:=ok) (w:=w) (sz:=sz) (es:=(es.take k).drop l) (a:=if cap=l then a else a.map (·.add (l*sz))) (cap:=cap-l) (fun i j=>c (l+i) j) (by rw [hlen];omega) (by omega) (fun hne=>?_) (fun i e he j d hd=>q4 _ e (hget i e he) j d hd)
  ·rwa [hlen] at this
  ·have hkl:l<k:=by
    rcases Nat.lt_or_ge l k with h|h
    ·exact h
    ·exact absurd (List.length_eq_zero_iff.1 (by rw [hlen];omega)) hne
   obtain⟨b,off,rfl,hb,q5⟩:=q3 (by rintro rfl;simp at h2;omega)
   refine⟨b,off+l*sz,?_,hb,fun i e he j d hd=>?_⟩
   ·rw [if_neg (by omega)]
    have hadd:(⟨b,off,none⟩:Addr).add (l*sz)=⟨b,off+l*sz,none⟩:=by unfold Addr.add;split<;>simp_all
    simp [hadd]
   ·have:=q5 (l+i) e (hget i e he) j d hd
    rw [show off+l*sz+i*sz+j=off+(l+i)*sz+j by rw [Nat.add_mul];omega]
    exact this
theorem jQ{T E sz by_:Nat}{x:Operand}{lo hi:J Operand}{p:PV}{es:Z (Z Tr)}{l k:Int}(ho:o.op= .slice T x lo hi none)(hd:bL o.dst n=true)(hx:s.ev x=some p)(hp:mK p=some (sz,es))(h1:VR s lo=some l)(h2:FC s es.length hi=some k)(h3:0≤l∧l≤k∧k≤(es.length:Int))(hT:elemOf? P T=some (E,sz,by_)):
 cX P C n o s (s.putO o.dst (.t (.row sz ((es.take k.toNat).drop l.toNat)))):=
 dV (c4 hd) fun m a w h=>by
  have hr:=uL hp (h.eval hx)
  obtain⟨i,hu,hi',hs,-⟩:=elemOf?.spec hT
  obtain⟨ad,cap,hv,hlc,hcm⟩:=hr.shape
  rw [hv] at hr
  refine⟨_,?_,hr.part (l:=l.toNat) (k:=k.toNat) (by omega) (by omega)⟩
  have hb:=Z6 (P:=P) h (isS:=true) hlc h1 h2 h3.1 h3.2.1 h3.2.2
  unfold execOp
  simp [ho,hv,Instr.sliceAt,Instr.slice,run_underlying hu,hb,Go.sizeOf,typeInfo,hi',hs]
theorem ah1{T yT:TypeId}{x y:Operand}{a b c d:Int}(ho:o.op= .binOp .eql T x y yT)(hd:bL o.dst n=true)(hx:s.ev x=some (.agg [.t (.leaf (.int .i64 a)),.t (.leaf (.int .i64 b))]))(hy:s.ev y=some (.agg [.t (.leaf (.int .i64 c)),.t (.leaf (.int .i64 d))]))
 (hg:P.eqGuardType P.depth T=false) (hq: ∀(a b c d:Int) (w:World),(Op.equalIn Op.maxDepth T (.agg #[.int .i64 a,.int .i64 b]) (.agg #[.int .i64 c,.int .i64 d])).run P w= .ok (decide (a=c)&&decide (b=d)) w):
 cX P C n o s (s.putO o.dst (.t (.leaf (.bool (decide (a=c)&&decide (b=d)))))):=
 dV (c4 hd) fun m ac w h=>by
  obtain⟨vs,h1,h2⟩:=h.eval hx
  obtain⟨us,k1,k2⟩:=h.eval hy
  obtain⟨v0,v1,rfl⟩: ∃v0 v1,vs= [v0,v1]:=by
   have:=h2.length
   match vs,this with
   | [v0,v1],_=>exact⟨v0,v1,rfl⟩
  obtain⟨u0,u1,rfl⟩: ∃v0 v1,us= [v0,v1]:=by
   have:=k2.length
   match us,this with
   | [v0,v1],_=>exact⟨v0,v1,rfl⟩
  obtain⟨rfl,-⟩:=cH.leaf_eq h2.1
  obtain⟨rfl,-⟩:=cH.leaf_eq h2.2.1
  obtain⟨rfl,-⟩:=cH.leaf_eq k2.1
  obtain⟨rfl,-⟩:=cH.leaf_eq k2.2.1
  refine⟨.bool (decide (a=c)&&decide (b=d)),?_,cH.leaf trivial⟩
  unfold execOp
  simp [ho,h1,k1,eqGuard,hg,binOp,Op.equal,hq]
end
theorem avT(a b:Int)(d:Nat)(w:World):(Op.equalIn (d+1) 3 (.int .i64 a) (.int .i64 b)).run Tryz.prog w= .ok (a==b) w:=by
 unfold Op.equalIn
 simp [run_underlying Tryz.underlying3]
theorem av3:Tryz.prog.stoodInHeld 52=false:=by kernel_rfl
theorem awG:Tryz.prog.eqGuardType Tryz.prog.depth 52=false:=by kernel_rfl
theorem awH(a b c d:Int)(w:World):(Op.equalIn Op.maxDepth 52 (.agg #[.int .i64 a,.int .i64 b]) (.agg #[.int .i64 c,.int .i64 d])).run Tryz.prog w= .ok (decide (a=c)&&decide (b=d)) w:=by
 show(Op.equalIn (9998+1+1) 52 _ _).run Tryz.prog w=_
 rw [Op.equalIn]
 have h3:=MF sh3.h
 have h4:=run_sizeOf' sh3.h
 simp [run_underlying Tryz.underlying52,av3,part,h3,h4,avT]
 by_cases h1:a=c<;>by_cases h2:b=d<;>simp [h1,h2]
instance:Inhabited ByteArray:=⟨⟨#[]⟩⟩
def aR{α:Type}[Inhabited α](l:Z α)(k:Nat):α:=(l[k]?).getD default
theorem kU{α:Type}[Inhabited α]{l:Z α}{k:Nat}(h:k<l.length):aR l k=l[k]:=by simp [aR,h]
theorem ar6{l:Z Y}{k:Nat}(h:k<l.length):(bA l)[k]?=some [.leaf (.string (aR l k))]:=by rw [kU h];exact aeS h
theorem aq4{l:Z Int}{k:Nat}(h:k<l.length):(c7 l)[k]?=some [.leaf (.int .i64 (aR l k))]:=by rw [kU h];exact aq5 h
theorem amI{l:Z UInt8}{k:Nat}(h:k<l.length):(l6 l)[k]?=some [.leaf (.int .u8 ((aR l k).toNat:Int))]:=by rw [kU h];exact C1 h
theorem zK{a b c:Nat}(h:a+b≤68719476736)(hc:c≤2048):(a+b)*c≤140737488355328:=by
 have:=Nat.mul_le_mul h hc
 omega
theorem alL(l:Z Y)(a b:Nat):((bA l).take b).drop a=bA ((l.take b).drop a):=by simp [bA,List.map_drop,List.map_take]
theorem jP{P:Program}{C:qT}{n:Nat}{s:AS}{o:Oper}{sz:Nat}{es es':Z (Z Tr)}(h:cX P C n o s (s.putO o.dst (.t (.row sz es))))(e:es=es'):cX P C n o s (s.putO o.dst (.t (.row sz es'))):=e ▸ h
theorem yJ{a b:Nat}(h:decide ((a:Int)<(b:Int))=true):a<b:=yI h
theorem yH{a b:Nat}(h:decide ((a:Int)<(b:Int))=false):b≤a:=arG h
theorem am4{a:Nat}{b:Int}(h:decide ((a:Int)<b)=true):a<b.toNat:=by have:=of_decide_eq_true h;omega
theorem am3{a:Nat}{b:Int}(h:decide ((a:Int)<b)=false):b.toNat≤a:=by have:=of_decide_eq_false h;omega
def tR(s:dL)(fb0 fr0:Z Nat)(pre:dL):Z Nat→Z (J dO)→Prop
 | [],[]=>True
 |k::fb,some x::bs=>(∃y,s.boxes[k]?=some (some y)∧y.ty=x.ty∧tN y.cells (B4 fb0 fr0 x.cells)∧mJ pre x.cells=true)∧tR s fb0 fr0 pre fb bs
 |_,_=>False
def wJ(s:dL):Z Nat→Z mV→Prop
 | [],[]=>True
 |r::fr,row::rs=>s.rows[r]?=some row∧wJ s fr rs
 |_,_=>False
theorem tR.len{s pre:dL}{fb0 fr0:Z Nat}: ∀ {fb:Z Nat} {bs:Z (J dO)},tR s fb0 fr0 pre fb bs→fb.length=bs.length
 | [],[],_=>rfl
 |_::_,some _::_,h=>by simp [tR.len h.2]
 |_::_,none::_,h=>h.elim
 | [],_::_,h=>h.elim
 |_::_,[],h=>h.elim
theorem tR.get{s pre:dL}{fb0 fr0:Z Nat}: ∀ {fb:Z Nat} {bs:Z (J dO)},tR s fb0 fr0 pre fb bs→ ∀k,k<bs.length→ ∃x,bs[k]?=some (some x)∧ ∃y,s.boxes[fb.getD k 0]?=some (some y)∧y.ty=x.ty∧tN y.cells (B4 fb0 fr0 x.cells)∧mJ pre x.cells=true
 | [],[],_,k,h=>by simp at h
 |_::_,some x::_,h,0,_=>⟨x,rfl,h.1⟩
 |_::_,some _::_,h,k+1,hk=>by simpa using tR.get h.2 k (by simpa using hk)
 |_::_,none::_,h,_,_=>h.elim
 | [],_::_,h,_,_=>h.elim
 |_::_,[],h,_,_=>h.elim
theorem wJ.len{s:dL}: ∀ {fr:Z Nat} {rs:Z mV},wJ s fr rs→fr.length=rs.length
 | [],[],_=>rfl
 |_::_,_::_,h=>by simp [wJ.len h.2]
 | [],_::_,h=>h.elim
 |_::_,[],h=>h.elim
theorem wJ.get{s:dL}: ∀ {fr:Z Nat} {rs:Z mV},wJ s fr rs→ ∀k row,rs[k]?=some row→s.rows[fr.getD k 0]?=some row
 | [],[],_,k,_,h=>by simp at h
 |_::_,_::_,h,0,row,hr=>by simp at hr;subst hr;exact h.1
 |_::_,_::_,h,k+1,row,hr=>by simpa using wJ.get h.2 k row (by simpa using hr)
 | [],_::_,h,_,_,_=>h.elim
 |_::_,[],h,_,_,_=>h.elim
theorem lM.of{s pre:dL}{fb fr:Z Nat}(hb:tR s fb fr pre fb pre.boxes)(hr:wJ s fr pre.rows)(n1:fb.Nodup)(n2:fr.Nodup):lM s pre fb fr where
 fbl:=hb.len
 frl:=hr.len
 fbn:=n1
 frn:=n2
 all:=fun k hk=>by
  obtain⟨x,hx,-⟩:=hb.get k hk
  exact⟨x,hx⟩
 box:=fun k x hx=>by
  obtain⟨x',hx',h⟩:=hb.get k (List.getElem?_eq_some_iff.1 hx).1
  rw [hx] at hx'
  cases hx'
  exact h
 row:=hr.get
section
variable {P:Program} {C:qT} {n:Nat} {s:AS} {o:Oper}
theorem vO{y:Operand}{f:FuncId}{fn:Func}{xs:Z Operand}{ts:Array TypeId}{ps cs qs:Z PV}{res:PV}{pre st' S:dL}(fb fr:Z Nat)(ho:o.op= .call { callee:= .value y,args:=⟨xs⟩,argTypes:=ts })(hd:bL o.dst n=true)(hy:s.ev y=some (.fn f cs))(hf:P.funcs[f]?=some fn)(hnm:(fn.name== "runtime.NumGoroutine")=false)(hb:fn.body.isNone=false)
 (hx:xs.map s.ev=ps.map some) (hS:s.st=S) (hp:lM S pre fb fr) (hle:tN (ps++cs) (B4 fb fr qs)) (hok:mJ pre qs=true) (hbl:st'.boxes.length=pre.boxes.length) (hrl:st'.rows.length=pre.rows.length) (hc:cM P f qs pre (fun r t=>r=res∧t=st')):
 cX P C n o s ((⟨s.env,S.over st' fb fr⟩:AS).putO o.dst (PV.ren fb fr res)):=by
 subst hS
 exact X5 fb fr hd (fun m a w h=>by
  obtain⟨vs,h1,h2⟩:=h.eval hy
  refine⟨xs.map a.eval++vs,?_,iM.append (evL h hx) h2⟩
  have hcf:=jF (P:=P) hf hnm hb
  unfold execOp
  simp only [ho]
  simp [resolve,invoke,Deferred.ofValue,h1,hcf]) hp hle hok hbl hrl hc
theorem asD{ops:Array Oper}{rest:Z Oper}{Q:Exit→AS→Prop}{j d:Nat}{b c e:Bool}(hg:o.guard=some (j,c))(hj:(ops[j]?).bind (·.dst)=some d)(hb:s.lk d=some (.t (.leaf (.bool b))))(hv:b=e)(hne:(e==c)=false)(hd:bL o.dst n=true)(h:AL P C n ops rest Q (s.putO o.dst (.tup []))):AL P C n ops (o::rest) Q s:=fun m a w hr=>
 wpList_step fun K hK=>by
  subst hv
  rw [if_neg (by simpa [Region.wanted,hg,hr.yielded hj hb] using hne)]
  exact hK _ _ (h m _ w (hr.put (c4 hd) ⟨[],rfl,trivial⟩))
theorem asE{ops:Array Oper}{rest:Z Oper}{Q:Exit→AS→Prop}{j d:Nat}{c:Bool}(hg:o.guard=some (j,c))(hj:(ops[j]?).bind (·.dst)=some d)(hb:s.lk d=some (.tup []))(hd:bL o.dst n=true)(h:AL P C n ops rest Q (s.putO o.dst (.tup []))):AL P C n ops (o::rest) Q s:=fun m a w hr=>
 wpList_step fun K hK=>by
  have hy:yielded ops a.tmps j=none:=by
   obtain⟨v,hv,vs,rfl,hl⟩:=hr.env d _ hb
   simp [Go.yielded,hj,hv]
  rw [if_neg (by simp [Region.wanted,hg,hy])]
  exact hK _ _ (h m _ w (hr.put (c4 hd) ⟨[],rfl,trivial⟩))
theorem WC{T E sz by_ len:Nat}{parts:Array (Nat×Operand)}{ps:Z (Nat×Z PV)}{zs cs:Z PV}{es es':Z (Z Tr)}(ho:o.op= .buildSlice T len parts)(hd:bL o.dst n=true)(hT:elemOf? P T=some (E,sz,by_))(hz:jN P E=some zs)(hp:nN s parts.toList=some ps)
 (hc:t8 (fun i=>some (i*sz,sz)) (List.replicate len zs).flatten ps=some cs) (hle:tN cs (es.flatten.map PV.t)) (hel:es.length=len) (hes: ∀e∈es,e.length=sz) (hsz:0<sz) (hzl:zs.length=sz) (hsm:len*sz≤16777216) (he:es=es'):
 cX P C n o s (s.putO o.dst (.t (.row sz es'))):=he ▸ WF ho hd hT hz hp hc hle hel hes hsz hzl hsm
theorem WB{T E sz by_ len:Nat}{parts:Array (Nat×Operand)}{ps:Z (Nat×Z PV)}{zs cs:Z PV}{es es':Z (Z Tr)}(ho:o.op= .buildSlice T len parts)(hd:bL o.dst n=true)(hT:elemOf? P T=some (E,sz,by_))(hz:jN P E=some zs)(hp:nN s parts.toList=some ps)
 (hc:t8 (fun i=>some (i*sz,sz)) (List.replicate len zs).flatten ps=some cs) (hle:tN cs (es.flatten.map PV.t)) (hel:es.length=len) (hes: ∀e∈es,e.length=sz) (hsz:0<sz) (hzl:zs.length=sz) (hsm:len*sz≤16777216) (he:es=es'):
 cX P C n o s ((⟨s.env,s.st.addRow ⟨E,sz,es',false⟩⟩:AS).putO o.dst (.acc sz es' s.st.rows.length)):=he ▸ cX.buildSlice ho hd hT hz hp hc hle hel hes hsz hzl hsm
end
theorem ad7{C:qT}{bs:Z (J dO)}{rs:Z mV}{S:dL}(h:C.st=⟨bs,rs⟩)(hb: ∀k,k<bs.length→ ∃y,S.boxes[k]?=some (some y))(hl:rs.length≤S.rows.length):kT C.st S:=by
 rw [h]
 exact⟨fun k x hx=>hb k (List.getElem?_eq_some_iff.1 hx).1,fun k row hk=>⟨S.rows[k]'(Nat.lt_of_lt_of_le (List.getElem?_eq_some_iff.1 hk).1 hl),List.getElem?_eq_getElem _⟩⟩
theorem as7{S:dL}{x:dO}{bs:Z (J dO)}(h:S.boxes=some x::bs): ∀k,k<1→ ∃y,S.boxes[k]?=some (some y):=fun k hk=>by
 obtain rfl:k=0:=by omega
 exact⟨x,by rw [h];rfl⟩
theorem aw3{S:dL}{x y:dO}{bs:Z (J dO)}(h:S.boxes=some x::some y::bs): ∀k,k<2→ ∃y,S.boxes[k]?=some (some y):=fun k hk=>by
 rcases(by omega:k=0∨k=1) with rfl|rfl
 ·exact⟨x,by rw [h];rfl⟩
 ·exact⟨y,by rw [h];rfl⟩
theorem aw4{S:dL}{x y z:dO}{bs:Z (J dO)}(h:S.boxes=some x::some y::some z::bs): ∀k,k<3→ ∃y,S.boxes[k]?=some (some y):=fun k hk=>by
 rcases(by omega:k=0∨k=1∨k=2) with rfl|rfl|rfl
 ·exact⟨x,by rw [h];rfl⟩
 ·exact⟨y,by rw [h];rfl⟩
 ·exact⟨z,by rw [h];rfl⟩
theorem aw2{S:dL}: ∀k,k<0→ ∃y,S.boxes[k]?=some (some y):=fun k hk=>absurd hk (Nat.not_lt_zero _)
instance:Inhabited aF:=⟨.mk 0 0⟩
theorem aF.ta{l:Z aF}{k:Nat}(h:k<l.length):(aF.trs l)[k]?=some (aR l k).cs:=by rw [kU h];exact aF.trs_cs h
instance:Inhabited aB:=⟨.mk ⟨#[]⟩ []⟩
theorem aB.tq(l:Z aB)(a b:Nat):((aB.trs l).take b).drop a=aB.trs ((l.take b).drop a):=by rw [aB.tm,aB.tm,List.map_drop,List.map_take]
theorem aB.ta{l:Z aB}{k:Nat}(h:k<l.length):(aB.trs l)[k]?=some (aR l k).cs:=by rw [kU h];exact aB.trs_cs h
instance:Inhabited aA:=⟨.mk 0 ⟨#[]⟩ []⟩
theorem aA.tq(l:Z aA)(a b:Nat):((aA.trs l).take b).drop a=aA.trs ((l.take b).drop a):=by rw [aA.tm,aA.tm,List.map_drop,List.map_take]
theorem aA.ta{l:Z aA}{k:Nat}(h:k<l.length):(aA.trs l)[k]?=some (aR l k).cs:=by rw [kU h];exact aA.trs_cs h
instance:Inhabited aK:=⟨.mk ⟨#[]⟩ default⟩
theorem aK.ta{l:Z aK}{k:Nat}(h:k<l.length):(aK.trs l)[k]?=some (aR l k).cs:=by rw [kU h];exact aK.trs_cs h
instance:Inhabited aM:=⟨.mk 0 ⟨#[]⟩ ⟨#[]⟩ 0 default [] []⟩
theorem aM.ta{l:Z aM}{k:Nat}(h:k<l.length):(aM.trs l)[k]?=some (aR l k).cs:=by rw [kU h];exact aM.trs_cs h
instance:Inhabited cC:=⟨.mk ⟨#[]⟩ [] default⟩
theorem cC.ta{l:Z cC}{k:Nat}(h:k<l.length):(cC.trs l)[k]?=some (aR l k).cs:=by rw [kU h];exact cC.trs_cs h
instance:Inhabited aG:=⟨.mk ⟨#[]⟩ [] default false [] default⟩
theorem aG.ta{l:Z aG}{k:Nat}(h:k<l.length):(aG.trs l)[k]?=some (aR l k).cs:=by rw [kU h];exact aG.trs_cs h
instance:Inhabited aZ:=⟨.mk ⟨#[]⟩ [] false false []⟩
theorem aZ.ta{l:Z aZ}{k:Nat}(h:k<l.length):(aZ.trs l)[k]?=some (aR l k).cs:=by rw [kU h];exact aZ.trs_cs h
instance:Inhabited aE:=⟨.mk ⟨#[]⟩ []⟩
theorem aE.tq(l:Z aE)(a b:Nat):((aE.trs l).take b).drop a=aE.trs ((l.take b).drop a):=by rw [aE.tm,aE.tm,List.map_drop,List.map_take]
theorem aE.ta{l:Z aE}{k:Nat}(h:k<l.length):(aE.trs l)[k]?=some (aR l k).cs:=by rw [kU h];exact aE.trs_cs h
instance:Inhabited aO:=⟨.mk ⟨#[]⟩ [] []⟩
theorem aO.ta{l:Z aO}{k:Nat}(h:k<l.length):(aO.trs l)[k]?=some (aR l k).cs:=by rw [kU h];exact aO.trs_cs h
instance:Inhabited aD:=⟨.mk ⟨#[]⟩ default⟩
theorem aD.ta{l:Z aD}{k:Nat}(h:k<l.length):(aD.trs l)[k]?=some (aR l k).cs:=by rw [kU h];exact aD.trs_cs h
instance:Inhabited aT:=⟨.mk ⟨#[]⟩ [] default⟩
theorem aT.ta{l:Z aT}{k:Nat}(h:k<l.length):(aT.trs l)[k]?=some (aR l k).cs:=by rw [kU h];exact aT.trs_cs h
instance:Inhabited aL:=⟨.mk ⟨#[]⟩ [] default [] false false default []⟩
theorem aL.ta{l:Z aL}{k:Nat}(h:k<l.length):(aL.trs l)[k]?=some (aR l k).cs:=by rw [kU h];exact aL.trs_cs h
instance:Inhabited aY:=⟨.mk ⟨#[]⟩ default⟩
theorem aY.ta{l:Z aY}{k:Nat}(h:k<l.length):(aY.trs l)[k]?=some (aR l k).cs:=by rw [kU h];exact aY.trs_cs h
instance:Inhabited aQ:=⟨.mk ⟨#[]⟩ [] [] [] default default⟩
theorem aQ.ta{l:Z aQ}{k:Nat}(h:k<l.length):(aQ.trs l)[k]?=some (aR l k).cs:=by rw [kU h];exact aQ.trs_cs h
instance:Inhabited aN:=⟨.mk ⟨#[]⟩ [] [] [] [] []⟩
theorem aN.ta{l:Z aN}{k:Nat}(h:k<l.length):(aN.trs l)[k]?=some (aR l k).cs:=by rw [kU h];exact aN.trs_cs h
instance:Inhabited aH:=⟨.mk []⟩
theorem aH.ta{l:Z aH}{k:Nat}(h:k<l.length):(aH.trs l)[k]?=some (aR l k).cs:=by rw [kU h];exact aH.trs_cs h
instance:Inhabited xM:=⟨.mk default []⟩
instance:Inhabited aC:=⟨.mk 0 0 default []⟩
theorem aC.tq(l:Z aC)(a b:Nat):((aC.trs l).take b).drop a=aC.trs ((l.take b).drop a):=by rw [aC.tm,aC.tm,List.map_drop,List.map_take]
theorem aC.ta{l:Z aC}{k:Nat}(h:k<l.length):(aC.trs l)[k]?=some (aR l k).cs:=by rw [kU h];exact aC.trs_cs h
instance:Inhabited aJ:=⟨.mk default 0 []⟩
theorem aJ.ta{l:Z aJ}{k:Nat}(h:k<l.length):(aJ.trs l)[k]?=some (aR l k).cs:=by rw [kU h];exact aJ.trs_cs h
instance:Inhabited eC:=⟨.mk ⟨#[]⟩ 0 0 0 false⟩
instance:Inhabited aU:=⟨.mk [] [] []⟩
theorem aU.ta{l:Z aU}{k:Nat}(h:k<l.length):(aU.trs l)[k]?=some (aR l k).cs:=by rw [kU h];exact aU.trs_cs h
instance:Inhabited bR:=⟨.mk default []⟩
theorem bR.ta{l:Z bR}{k:Nat}(h:k<l.length):(bR.trs l)[k]?=some (aR l k).cs:=by rw [kU h];exact bR.trs_cs h
section
variable {P:Program} {C:qT} {n:Nat} {s:AS} {o:Oper}
theorem rV{T E sz by_ len:Nat}{parts:Array (Nat×Operand)}{ps:Z (Nat×Z PV)}{zs cs:Z PV}(ho:o.op= .buildSlice T len parts)(hd:bL o.dst n=true)(hT:elemOf? P T=some (E,sz,by_))(hz:jN P E=some zs)(hp:nN s parts.toList=some ps)
 (hc:t8 (fun i=>some (i*sz,sz)) (List.replicate len zs).flatten ps=some cs) (hcl:cs.length=len*sz) (hsz:0<sz) (hzl:zs.length=sz) (hsm:len*sz≤16777216):
 cX P C n o s ((⟨s.env,s.st.addBox ⟨E,cs⟩⟩:AS).putO o.dst (.bsl s.st.boxes.length len)):=
 cX.run hd (s1:=⟨s.env,s.st.addBox ⟨E,cs⟩⟩) (fun m a w h=>by
  obtain⟨us,h1,h2,h3⟩:=CT ho hT hz hp hc hcl hsz hzl hsm h
  exact⟨_,_,_,h1,LZ (x:=⟨E,cs⟩),QB (x:=⟨E,cs⟩) h.sto h2,⟨⟨E,cs⟩,by simp [dL.addBox]⟩,by simp [cI]⟩) rfl
theorem SY{T E sz by_ len:Nat}{parts:Array (Nat×Operand)}{ps:Z (Nat×Z PV)}{zs cs:Z PV}{es es':Z (Z Tr)}(ho:o.op= .buildSlice T len parts)(hd:bL o.dst n=true)(hT:elemOf? P T=some (E,sz,by_))(hz:jN P E=some zs)(hp:nN s parts.toList=some ps)
 (hc:t8 (fun i=>some (i*sz,sz)) (List.replicate len zs).flatten ps=some cs) (hle:tN cs (es.flatten.map PV.t)) (hel:es.length=len) (hes: ∀e∈es,e.length=sz) (hsz:0<sz) (hzl:zs.length=sz) (hsm:len*sz≤16777216) (he:es=es'):
 cX P C n o s (s.putO o.dst (.lit sz es')):=he ▸ WE ho hd hT hz hp hc hle hel hes hsz hzl hsm
theorem uY{T E sz by_ k N i:Nat}{x y:Operand}(ho:o.op= .indexAddr T x y)(hd:bL o.dst n=true)(hx:s.ev x=some (.bsl k N))(hy:s.ev y=some (.t (.leaf (.int .i64 (i:Int)))))(hi:i<N)(hT:elemOf? P T=some (E,sz,by_)):
 cX P C n o s (s.putO o.dst (.ptr k (i*sz))):=
 dV (c4 hd) fun m a w h=>by
  obtain⟨hb,hv⟩:=h.eval hx
  have h6:=(cH.leaf_eq (h.eval hy)).1
  refine⟨.pointer (some ⟨m.ρ k,0+i*sz,none⟩),?_,hb,by rw [Nat.zero_add]⟩
  unfold execOp
  simp only [ho,hv,h6,Sem.run_bind,run_indexAt' hT hi,Result.andThen_ok]
  rfl
theorem NW{T E sz by_:Nat}{x y:Operand}{es1 es2:Z (Z Tr)}{p:PV}(ho:o.op= .call { callee:= .builtin .append,args:= #[x,y],argTypes:= #[T,T] })
 (hx:s.ev x=some (.lit sz es1)) (hy:s.ev y=some p) (hp:mK p=some (sz,es2)) (h1: ∀e∈es1,e.length=sz) (h2: ∀e∈es2,e.length=sz) (hne:es2≠ []) (hsz:0<sz)
 (hT:elemOf? P T=some (E,sz,by_)) (hz:(P.info? E).bind (fun i=>i.zero.map (fun z=>z.cells.size))=some sz) (hb:0<by_) (hlen:(es1.length+es2.length)*by_≤140737488355328) {m:kQ} {a:Act} {w:World} (h:RA C n s m a w):
 ∃c cur w1,(execOp a.eval o).run P w= .ok (.value (.slice (some ⟨w.heap.size,0,none⟩) (es1.length+es2.length) c)) w1∧wI w w1∧OB w1 w.heap.size E cur∧es1.length+es2.length≤c∧c≤maxLen∧
  (∀q e,(es1++es2)[q]?=some e→ ∀j d,e[j]?=some d→ ∃v,cur[q*sz+j]?=some v∧cH (kV C.av s.st m) w d v):=by
 obtain⟨i,hu,hi,hs,hby⟩:=elemOf?.spec hT
 obtain⟨hr1,ad,hv1⟩:=h.eval hx
 have hr2:=uL hp (h.eval hy)
 obtain⟨b,off,c2,news,hv2,hnl,hnews,hone,hnd⟩:=hr2.news h2 hne hsz
 have hpos2:0<es2.length:=List.length_pos_iff.2 hne
 have hlen:(es1.length+es2.length)*i.bytes≤140737488355328:=by rw [hby];exact hlen
 have h63:es1.length+es2.length≤140737488355328:=Nat.le_trans (Nat.le_mul_of_pos_right _ (by omega)) hlen
 have hrun: ∀v w1,(Builtin.append_ #[T,T] o.type #[a.eval x,a.eval y]).run P w= .ok v w1→(execOp a.eval o).run P w= .ok (.value v) w1:=fun v w1 hr=>by
  unfold execOp
  simp only [ho,resolve,invoke,builtin,Sem.run_bind,Sem.run_pure,Result.andThen_ok,List.map_toArray,List.map_cons,List.map_nil,hr]
 cases hzz:i.zero with
 |none=>simp [hi,hzz] at hz
 |some z=>
  have fin: ∀(olds:Z Value) (cur:Array Value) (Zz:Z Value),cur.toList=olds++news++Zz→olds.length=es1.length*sz→(∀i e,es1[i]?=some e→ ∀j d,e[j]?=some d→ ∃v,olds[i*sz+j]?=some v∧cH (kV C.av s.st m) w d v)→
   ∀q e,(es1++es2)[q]?=some e→ ∀j d,e[j]?=some d→ ∃v,cur[q*sz+j]?=some v∧cH (kV C.av s.st m) w d v:=fun olds cur Zz hcur hol hod q e hq j d hj=>by
   rw [← Array.getElem?_toList,hcur,List.append_assoc]
   by_cases hlt:q<es1.length
   ·rw [List.getElem?_append_left hlt] at hq
    obtain⟨v,hv,hr⟩:=hod q e hq j d hj
    exact⟨v,by rw [List.getElem?_append_left (dK hv)];exact hv,hr⟩
   ·rw [List.getElem?_append_right (by omega)] at hq
    obtain⟨v,hv,hr⟩:=hnd _ e hq j d hj
    refine⟨v,?_,hr⟩
    have e1:q*sz+j=es1.length*sz+((q-es1.length)*sz+j):=by
     rw [← Nat.add_assoc,← Nat.add_mul]
     congr 2
     omega
    rw [e1,← hol,List.getElem?_append_right (by omega),Nat.add_sub_cancel_left,List.getElem?_append_left (dK hv)]
    exact hv
  have grow: ∀(A:Addr) (olds:Z Value),ad=some A→olds.length=es1.length*sz→(∀j v,olds[j]?=some v→w.cell? (A.add j)=some v)→(∀i e,es1[i]?=some e→ ∀j d,e[j]?=some d→ ∃v,olds[i*sz+j]?=some v∧cH (kV C.av s.st m) w d v)→
   ∃c cur w1,(execOp a.eval o).run P w= .ok (.value (.slice (some ⟨w.heap.size,0,none⟩) (es1.length+es2.length) c)) w1∧wI w w1∧OB w1 w.heap.size E cur∧es1.length+es2.length≤c∧c≤maxLen∧
    (∀q e,(es1++es2)[q]?=some e→ ∀j d,e[j]?=some d→ ∃v,cur[q*sz+j]?=some v∧cH (kV C.av s.st m) w d v):=fun A olds hA hol hold hod=>by
   subst hA
   have happ:=run_append_grow (P:=P) w T o.type E i z hu hi hzz A es1.length es1.length olds (by rw [hs];exact hol) hold ⟨b,off,none⟩ es2.length c2 news (by rw [hnl,hs]) hnews (by omega) (by omega) (growslice_fits (by omega) hlen)
   rw [← hv2,← hv1] at happ
   have hge:=grownCap_ge w (es1.length+es2.length) es1.length E
   exact⟨_,_,_,hrun _ _ happ,.alloc (.drew (.refl _)) _,OB.new w.drew E _,hge,grownCap_le_maxLen w _ _ _ (by unfold maxLen;omega),fin olds _ _ (by simp;rfl) hol hod⟩
  by_cases he:es1= []
  ·cases ad with
   |none=>
    subst he
    have happ:=run_append_nil (P:=P) w T o.type E i z hu hi hzz ⟨b,off,none⟩ es2.length c2 news (by rw [hnl,hs]) hnews (by omega) (by omega) (by simp only [List.length_nil,Nat.zero_add] at hlen;omega)
    have hv1':a.eval x= .slice none 0 0:=hv1
    rw [← hv2,← hv1'] at happ
    have hge:=grownCap_ge w es2.length 0 E
    have hf:=fin [] (news.toArray++Builtin.zeroCells z.cells (grownCap w es2.length 0 E-es2.length)) (Builtin.zeroCells z.cells (grownCap w es2.length 0 E-es2.length)).toList (by simp) (by simp) (fun i e h=>by simp at h)
    have hcm:grownCap w es2.length 0 E≤maxLen:=grownCap_le_maxLen w _ _ _ (by unfold maxLen;omega)
    simp only [List.length_nil,Nat.zero_add,List.nil_append] at hf ⊢
    exact⟨_,_,_,hrun _ _ happ,.alloc (.drew (.refl _)) _,OB.new w.drew E _,by simpa using hge,hcm,hf⟩
   |some A=>
    subst he
    exact grow A [] rfl (by simp) (fun j v h=>by simp at h) (fun i e h=>by simp at h)
  ·obtain⟨b1,off1,c1,olds,hv1',hol,hold,-,hod⟩:=hr1.news h1 he hsz
   have hva:=hv1.symm.trans hv1'
   injection hva with e1 e2 e3
   exact grow _ olds e1 hol hold hod
theorem mQ{T E sz by_:Nat}{x y:Operand}{es1 es2 es3:Z (Z Tr)}{p:PV}(ho:o.op= .call { callee:= .builtin .append,args:= #[x,y],argTypes:= #[T,T] })(hd:bL o.dst n=true)
 (hx:s.ev x=some (.lit sz es1)) (hy:s.ev y=some p) (hp:mK p=some (sz,es2)) (h1: ∀e∈es1,e.length=sz) (h2: ∀e∈es2,e.length=sz) (hne:es2≠ []) (hsz:0<sz)
 (hT:elemOf? P T=some (E,sz,by_)) (hz:(P.info? E).bind (fun i=>i.zero.map (fun z=>z.cells.size))=some sz) (hb:0<by_) (hlen:(es1.length+es2.length)*by_≤140737488355328) (h3:es1++es2=es3):
 cX P C n o s (s.putO o.dst (.t (.row sz es3))):=by
 subst h3
 refine OA hd fun m a w h=>?_
 obtain⟨c,cur,w1,hr,hX,hob,hc,hm,hget⟩:=NW ho hx hy hp h1 h2 hne hsz hT hz hb hlen h
 refine⟨_,w1,hr,hX,?_⟩
 have:=cH.row (ok:=kV C.av s.st m) (w:=w1) (es:=es1++es2) (sz:=sz) (a:=some ⟨w.heap.size,0,none⟩) (cap:=c) (fun q j=>(cur[q*sz+j]?).getD undef) (by rw [List.length_append];exact hc) hm (fun _=>⟨w.heap.size,0,rfl,hob.lt,fun q e hq j d hd=>⟨XS h.sto (Nat.le_refl _) _,?_⟩⟩) (fun q e hq j d hd=>?_)
 ·rw [List.length_append] at this
  exact this
 ·obtain⟨v,hv,-⟩:=hget q e hq j d hd
  rw [Nat.zero_add,hob.cell,hv]
  rfl
 ·obtain⟨v,hv,hr⟩:=hget q e hq j d hd
  rw [hv]
  exact cH.ext hr hX
theorem VO{α:Type}{sz:Nat}(hsz:0<sz): ∀ {es:Z (Z α)} {k:Nat} {d:α},(∀e∈es,e.length=sz)→es.flatten[k]?=some d→ ∃e,es[k/sz]?=some e∧e[k%sz]?=some d
 | [],k,d,_,h=>by simp at h
 |e::es,k,d,hl,h=>by
  have he:=hl e (by simp)
  rw [List.flatten_cons] at h
  by_cases hk:k<sz
  ·rw [List.getElem?_append_left (by omega)] at h
   exact⟨e,by rw [Nat.div_eq_of_lt hk];rfl,by rw [Nat.mod_eq_of_lt hk];exact h⟩
  ·rw [List.getElem?_append_right (by omega),he] at h
   obtain⟨e2,h1,h2⟩:=VO hsz (fun e he=>hl e (by simp [he])) h
   obtain⟨j,rfl⟩: ∃j,k=j+sz:=⟨k-sz,by omega⟩
   rw [Nat.add_sub_cancel] at h1 h2
   exact⟨e2,by rw [Nat.add_div_right _ hsz];exact h1,by rw [Nat.add_mod_right];exact h2⟩
theorem X3{T E sz by_:Nat}{x y:Operand}{es1 es2:Z (Z Tr)}{cs:Z PV}{p:PV}{len:Nat}(ho:o.op= .call { callee:= .builtin .append,args:= #[x,y],argTypes:= #[T,T] })(hd:bL o.dst n=true)
 (hx:s.ev x=some (.lit sz es1)) (hy:s.ev y=some p) (hp:mK p=some (sz,es2)) (h1: ∀e∈es1,e.length=sz) (h2: ∀e∈es2,e.length=sz) (hne:es2≠ []) (hsz:0<sz)
 (hT:elemOf? P T=some (E,sz,by_)) (hz:(P.info? E).bind (fun i=>i.zero.map (fun z=>z.cells.size))=some sz) (hb:0<by_) (hlen:(es1.length+es2.length)*by_≤140737488355328) (hcs:(es1++es2).flatten.map PV.t=cs) (hl:es1.length+es2.length=len):
 cX P C n o s ((⟨s.env,s.st.addBox ⟨E,cs⟩⟩:AS).putO o.dst (.gsl s.st.boxes.length len)):=by
 subst hcs hl
 refine cX.run hd (s1:=⟨s.env,s.st.addBox ⟨E,(es1++es2).flatten.map PV.t⟩⟩) (fun m a w h=>?_) rfl
 obtain⟨c,cur,w1,hr,hX,hob,hc,hm,hget⟩:=NW ho hx hy hp h1 h2 hne hsz hT hz hb hlen h
 have hes: ∀e∈es1++es2,e.length=sz:=fun e he=>(List.mem_append.1 he).elim (h1 e) (h2 e)
 have hfl: ∀(k:Nat) d,(es1++es2).flatten[k]?=some d→ ∃v,cur[k]?=some v∧cH (kV C.av s.st m) w d v:=fun k d hk=>by
  obtain⟨e,q1,q2⟩:=VO hsz hes hk
  obtain⟨v,hv,hrv⟩:=hget _ e q1 _ d q2
  rw [Nat.div_add_mod'] at hv
  exact⟨v,hv,hrv⟩
 have hrvl:iM (kV C.av s.st m) s.st m w ((es1++es2).flatten.map PV.t) ((List.range' 0 (es1++es2).flatten.length).map fun k=>(cur[k]?).getD undef):=iM.of_fn 0 fun k d hk=>by
  obtain⟨v,hv,hrv⟩:=hfl k d hk
  rw [Nat.zero_add,hv]
  exact hrv
 have hE:Ev s.st m w (s.st.addBox ⟨E,(es1++es2).flatten.map PV.t⟩) ⟨CR m.ρ s.st.boxes.length w.heap.size,m.γ⟩ w1:=TG hX (Nat.le_refl _)
 have hobp:OBp w1 w.heap.size E ((List.range' 0 (es1++es2).flatten.length).map fun k=>(cur[k]?).getD undef):=by
  refine⟨cur.toList.drop (es1++es2).flatten.length,?_⟩
  have e1:((List.range' 0 (es1++es2).flatten.length).map fun k=>(cur[k]?).getD undef)++cur.toList.drop (es1++es2).flatten.length=cur.toList:=by
   have hle:(es1++es2).flatten.length≤cur.toList.length:=by
    rcases Nat.eq_zero_or_pos (es1++es2).flatten.length with h0|h0
    ·omega
    ·obtain⟨v,hv,-⟩:=hfl ((es1++es2).flatten.length-1) _ (List.getElem?_eq_getElem (by omega))
     rw [← Array.getElem?_toList] at hv
     have:=dK hv
     omega
   refine List.ext_getElem? fun k=>?_
   by_cases hk:k<(es1++es2).flatten.length
   ·rw [List.getElem?_append_left (by simpa using hk),List.getElem?_map,List.getElem?_range' (by simpa using hk)]
    obtain⟨v,hv,-⟩:=hfl k _ (List.getElem?_eq_getElem hk)
    simp only [Option.map_some,Nat.zero_add,Nat.one_mul,hv,Option.getD_some]
    rw [← Array.getElem?_toList] at hv
    exact hv.symm
   ·rw [List.getElem?_append_right (by simpa using Nat.le_of_not_lt hk),List.getElem?_drop]
    congr 1
    simp
    simp at hk
    omega
  rw [e1]
  exact hob
 refine⟨_,_,w1,hr,hE,abP h.sto hX (Nat.le_refl _) hobp (iM.mono hE _ _ hrvl),⟨⟨E,(es1++es2).flatten.map PV.t⟩,by simp [dL.addBox]⟩,c,hc,hm,by simp [cI]⟩
theorem N9{T E sz by_ k N i:Nat}{x y:Operand}(ho:o.op= .indexAddr T x y)(hd:bL o.dst n=true)(hx:s.ev x=some (.gsl k N))(hy:s.ev y=some (.t (.leaf (.int .i64 (i:Int)))))(hi:i<N)(hT:elemOf? P T=some (E,sz,by_)):
 cX P C n o s (s.putO o.dst (.ptr k (i*sz))):=
 dV (c4 hd) fun m a w h=>by
  obtain⟨hb,c,hc,hm,hv⟩:=h.eval hx
  have h6:=(cH.leaf_eq (h.eval hy)).1
  refine⟨.pointer (some ⟨m.ρ k,0+i*sz,none⟩),?_,hb,by rw [Nat.zero_add]⟩
  unfold execOp
  simp only [ho,hv,h6,Sem.run_bind,run_indexAt' hT hi,Result.andThen_ok]
  rfl
mutual
inductive FLe (k sz:Nat) (es:List (List Tr)):PV→PV→Prop
 |le {p q:PV}:PV.Le p q→FLe k sz es p q
 |bsl {n:Nat}:es.length=n→FLe k sz es (.bsl k n) (.t (.row sz es))
 |bslL {n:Nat}:es.length=n→FLe k sz es (.bsl k n) (.lit sz es)
 |gsl {n:Nat}:es.length=n→FLe k sz es (.gsl k n) (.t (.row sz es))
 |agg {ps qs:List PV}:S1 k sz es ps qs→FLe k sz es (.agg ps) (.agg qs)
inductive S1 (k sz:Nat) (es:List (List Tr)):List PV→List PV→Prop
 |nil:S1 k sz es [] []
 |cons {p q:PV} {ps qs:List PV}:FLe k sz es p q→S1 k sz es ps qs→S1 k sz es (p::ps) (q::qs)
end
def abZ(k sz:Nat)(es:Z (Z Tr))(st':dL):Z (J dO)→Z (J dO)→Prop
 |_,[]=>True
 |_::xs,none::ys=>abZ k sz es st' xs ys
 |some x::xs,some y::ys=>(x.ty=y.ty∧S1 k sz es x.cells y.cells∧mJ st' y.cells=true)∧abZ k sz es st' xs ys
 |_,_=>False
theorem abZ.get{k sz:Nat}{es:Z (Z Tr)}{st':dL}: ∀ {xs ys:Z (J dO)},abZ k sz es st' xs ys→ ∀(i:Nat) (y:dO),ys[i]?=some (some y)→ ∃x:dO,xs[i]?=some (some x)∧x.ty=y.ty∧S1 k sz es x.cells y.cells∧mJ st' y.cells=true
 |_,[],_,i,y,h=>by simp at h
 | [],none::ys,hl,i,y,h=>hl.elim
 |x::xs,none::ys,hl,0,y,h=>by simp at h
 |none::xs,none::ys,hl,i+1,y,h=>by simpa using abZ.get (xs:=xs) hl i y (by simpa using h)
 |some _::xs,none::ys,hl,i+1,y,h=>by simpa using abZ.get (xs:=xs) hl i y (by simpa using h)
 |some x::xs,some z::ys,hl,0,y,h=>by
  simp at h
  subst h
  exact⟨x,rfl,hl.1⟩
 |some x::xs,some z::ys,hl,i+1,y,h=>by simpa using abZ.get (xs:=xs) hl.2 i y (by simpa using h)
 | [],some _::_,hl,_,_,_=>hl.elim
 |none::_,some _::_,hl,_,_,_=>hl.elim
def alZ(k sz:Nat)(es:Z (Z Tr))(s:AS)(st':dL):Z (Nat×PV)→Prop
 | []=>True
 |(i,q)::l=>(∃p,s.lk i=some p∧FLe k sz es p q∧hM st' q=true)∧alZ k sz es s st' l
theorem alZ.get{k sz:Nat}{es:Z (Z Tr)}{s:AS}{st':dL}: ∀ {l:Z (Nat×PV)} {i:Nat} {q:PV},alZ k sz es s st' l→l.lookup i=some q→ ∃p,s.lk i=some p∧FLe k sz es p q∧hM st' q=true
 | [],_,_,_,h=>by simp at h
 |(j,p)::l,i,q,hl,h=>by
  rw [List.lookup_cons] at h
  by_cases hik:i=j
  ·subst hik
   simp at h
   subst h
   exact hl.1
  ·rw [show(i==j)=false by simp [hik]] at h
   exact alZ.get hl.2 h
mutual
theorem FLe.rv{k sz:Nat}{es:Z (Z Tr)}{ok ok':Nat→Nat→Prop}{st st':dL}{m:kQ}{w:World}(hle: ∀p v,hM st' p=true→RV ok st m w p v→RV ok' st' m w p v)(hb: ∀v c,es.length≤c→c≤maxLen→v= .slice (some ⟨m.ρ k,0,none⟩) es.length c→cH ok' w (.row sz es) v)(hm:es.length≤maxLen):
 ∀ {p q:PV} {v:Value},FLe k sz es p q→hM st' q=true→RV ok st m w p v→RV ok' st' m w q v
 |_,_,_,.le h,hk,hr=>hle _ _ hk (h.rv hr)
 |_,_,_,.bsl h,_,hr=>hb _ _ (Nat.le_refl _) hm (h ▸ hr.2)
 |_,_,_,.bslL h,_,hr=>⟨hb _ _ (Nat.le_refl _) hm (h ▸ hr.2),_,h ▸ hr.2⟩
 |_,_,_,.gsl h,_,hr=>by
  obtain⟨-,c,hc,hcm,hv⟩:=hr
  subst h
  exact hb _ c hc hcm hv
 |_,_,_,.agg h,hk,hr=>by
  obtain⟨vs,hv,h1⟩:=hr
  exact⟨vs,hv,S1.rv hle hb hm h hk h1⟩
theorem S1.rv{k sz:Nat}{es:Z (Z Tr)}{ok ok':Nat→Nat→Prop}{st st':dL}{m:kQ}{w:World}(hle: ∀p v,hM st' p=true→RV ok st m w p v→RV ok' st' m w p v)(hb: ∀v c,es.length≤c→c≤maxLen→v= .slice (some ⟨m.ρ k,0,none⟩) es.length c→cH ok' w (.row sz es) v)(hm:es.length≤maxLen):
 ∀ {ps qs:Z PV} {vs:Z Value},S1 k sz es ps qs→mJ st' qs=true→iM ok st m w ps vs→iM ok' st' m w qs vs
 |_,_,[],.nil,_,h=>trivial
 |_,_,_::_,.nil,_,h=>h.elim
 |_,_,[],.cons _ _,_,h=>h.elim
 |_,_,_::_,.cons k1 k2,hk,h=>by
  simp only [mJ,Bool.and_eq_true] at hk
  exact⟨FLe.rv hle hb hm k1 hk.1 h.1,S1.rv hle hb hm k2 hk.2 h.2⟩
end
theorem aqI{k sz:Nat}{bx:dO}{es:Z (Z Tr)}{s':AS}(hb:s.st.boxes[k]?=some (some bx))(hc:tN bx.cells (es.flatten.map PV.t))(hes: ∀e∈es,e.length=sz)(hm:es.length≤16777216)
 (hbox:abZ k sz es s'.st s.st.boxes s'.st.boxes) (hnone:s'.st.boxes[k]?=some none) (hr:s'.st.rows=s.st.rows) (hp:kT C.st s'.st) (he:alZ k sz es s s'.st s'.env):Wk C n s s':=fun m a w h=>by
 have hsub:FZ s.st s'.st:=⟨fun i x hi=>by obtain⟨y,hy,-⟩:=hbox.get i x hi;exact⟨y,hy⟩,fun r row hrow=>by rw [hr] at hrow;exact hrow⟩
 obtain⟨vs,hob,hvs⟩:=h.sto.box k bx hb
 have hts:=tN.rv hc hvs
 have hokk: ∀o,kV C.av s'.st m (m.ρ k) o:=fun o=>⟨h.sto.avb k bx hb o,fun i x hi=>by
  obtain⟨y,hy,-⟩:=hbox.get i x hi
  by_cases hik:i=k
  ·subst hik
   rw [hnone] at hi
   cases hi
  ·exact h.sto.binj i k y bx hy hb hik,fun r row g c hrow hg e=>absurd e.symm (h.sto.br k bx r row g c hb (hsub.rows r row hrow) hg)⟩
 have hmm:es.length≤maxLen:=by unfold maxLen;omega
 have hRep: ∀v c,es.length≤c→c≤maxLen→v= .slice (some ⟨m.ρ k,0,none⟩) es.length c→cH (kV C.av s'.st m) w (.row sz es) v:=by
  rintro _ c hc hcm rfl
  have hget: ∀q e,es[q]?=some e→ ∀j d,e[j]?=some d→ ∃v,vs[q*sz+j]?=some v∧cH (kV C.av s.st m) w d v:=fun q e hq j d hj=>by
   have hf:=vR (sz:=sz) hes hq hj
   obtain⟨v,hv,hrv⟩:=hts.get (j:=q*sz+j) (p:= .t d) (by rw [List.getElem?_map,hf];rfl)
   exact⟨v,hv,hrv⟩
  refine cH.row (fun q j=>(vs[q*sz+j]?).getD undef) hc hcm (fun _=>⟨m.ρ k,0,rfl,hob.lt,fun q e hq j d hd=>⟨hokk _,?_⟩⟩) (fun q e hq j d hd=>?_)
  ·obtain⟨v,hv,-⟩:=hget q e hq j d hd
   rw [Nat.zero_add,hob.cell hv,hv]
   rfl
  ·obtain⟨v,hv,hrr⟩:=hget q e hq j d hd
   rw [hv]
   exact cH.mono hrr (Nat.le_refl _) (fun _ _ _ k=>hsub.ok k) (fun _ _ _ _=>rfl)
 have hle: ∀p v,hM s'.st p=true→RV (kV C.av s.st m) s.st m w p v→RV (kV C.av s'.st m) s'.st m w p v:=fun p v=>hsub.rv p v
 refine⟨m,h.dfr,h.tsz,?_,fun i q hq=>?_,?_⟩
 ·exact {
   box:=fun i x hi=>by
    obtain⟨y,hy,ht,hl,hk⟩:=hbox.get i x hi
    obtain⟨us,k1,k2⟩:=h.sto.box i y hy
    exact⟨us,by rw [← ht];exact k1,S1.rv hle hRep hmm hl hk k2⟩
   binj:=fun i i' x x' hi hi'=>by
    obtain⟨y,hy,-⟩:=hbox.get i x hi
    obtain⟨y',hy',-⟩:=hbox.get i' x' hi'
    exact h.sto.binj i i' y y' hy hy'
   row:=fun r row hrow=>by
    obtain⟨k1,k2,k3⟩:=h.sto.row r row (hsub.rows r row hrow)
    refine⟨k1,k2,?_⟩
    rcases k3 with k3|⟨g,c,cur,q1,q2,q3,q4,q5,q6⟩
    ·exact .inl k3
    ·exact .inr ⟨g,c,cur,q1,q2,q3,q4,q5,cH.mono q6 (Nat.le_refl _) (fun _ _ _ k=>hsub.ok k) (fun _ _ _ _=>rfl)⟩
   rinj:=fun r r' row row' g c c' hi hi'=>h.sto.rinj r r' row row' g c c' (hsub.rows r row hi) (hsub.rows r' row' hi')
   br:=fun i x r row g c hi hrow=>by
    obtain⟨y,hy,-⟩:=hbox.get i x hi
    exact h.sto.br i y r row g c hy (hsub.rows r row hrow)
   avlt:=h.sto.avlt
   avr:=fun r row g c hrow=>h.sto.avr r row g c (hsub.rows r row hrow)
   avb:=fun i x hi=>by
    obtain⟨y,hy,-⟩:=hbox.get i x hi
    exact h.sto.avb i y hy }
 ·obtain⟨p,h1,h2,h3⟩:=he.get hq
  obtain⟨v,hv,hrv⟩:=h.env i p h1
  exact⟨v,hv,FLe.rv hle hRep hmm h2 h3 hrv⟩
 ·exact {
   os:=h.ev.os
   tape:=h.ev.tape
   output:=h.ev.output
   size:=h.ev.size
   blk:=h.ev.blk
   cell:=h.ev.cell
   okk:=fun b o hb ho=>(hsub.ok (av:=fun _ _=>False) ⟨id,h.ev.okk b o hb ho⟩).2
   live:=fun i x hi=>⟨hp.1 i x hi,(h.ev.live i x hi).2⟩
   fresh:=fun i x' hi=>by
    obtain⟨y,hy,-⟩:=hbox.get i x' hi
    exact h.ev.fresh i y hy
   rowl:=fun r row hrow=>by
    obtain⟨row',hr'⟩:=hp.2 r row hrow
    obtain⟨row2,h1,h2⟩:=h.ev.rowl r row hrow
    have:=hsub.rows r row' hr'
    rw [h1] at this
    cases this
    exact⟨_,hr',h2⟩
   rfresh:=fun r row' g c hrow hg=>h.ev.rfresh r row' g c (hsub.rows r row' hrow) hg }
end
theorem YO{C:qT}{n:Nat}{s:AS}{k sz:Nat}{bx:dO}{es es':Z (Z Tr)}{s':AS}(heq:es=es')(hb:s.st.boxes[k]?=some (some bx))(hc:tN bx.cells (es.flatten.map PV.t))(hes: ∀e∈es,e.length=sz)(hm:es.length≤16777216)
 (hbox:abZ k sz es' s'.st s.st.boxes s'.st.boxes) (hnone:s'.st.boxes[k]?=some none) (hr:s'.st.rows=s.st.rows) (hp:kT C.st s'.st) (he:alZ k sz es' s s'.st s'.env):Wk C n s s':=by
 subst heq
 exact aqI hb hc hes hm hbox hnone hr hp he
theorem atE{p:Prop}(h:p:=by(repeat' (first|exact FLe.bsl rfl|exact FLe.bslL rfl|exact FLe.gsl rfl|exact S1.nil|apply S1.cons|exact FLe.le (PV.Le.refl _)|exact FLe.le (PV.Le.acc _ _ _)|exact FLe.le (PV.Le.nil _)|exact FLe.le (PV.Le.lit _ _)|exact FLe.le (PV.Le.nilLit _)|apply FLe.agg))):p:=h
abbrev pI(x:Int):PV:= .t (.leaf (.int .i64 x))
abbrev pN(x:Nat):PV:= .t (.leaf (.int .i64 (x:Int)))
abbrev pU(x:UInt8):PV:= .t (.leaf (.int .u8 (x.toNat:Int)))
abbrev pS(x:ByteArray):PV:= .t (.leaf (.string x))
abbrev pB(x:Bool):PV:= .t (.leaf (.bool x))
abbrev rS(l:List ByteArray):PV:= .t (.row 1 (bA l))
abbrev rI(l:List Int):PV:= .t (.row 1 (c7 l))
abbrev rU(l:List UInt8):PV:= .t (.row 1 (l6 l))
abbrev aS(l:List ByteArray)(r:Nat):PV:= .acc 1 (bA l) r
abbrev aI(l:List Int)(r:Nat):PV:= .acc 1 (c7 l) r
abbrev dC(d:DS):List PV:= [.t (.row 1 (l6 d.code)),.t (.leaf (.int .i64 (d.p:Int))),.t (.leaf (.int .i64 d.h))]
class TC (α:Type) [Inhabited α] where
 cs:α→List Tr
 trs:List α→List (List Tr)
 sz:Nat
 at_: ∀ {l:List α} {k:Nat},k<l.length→(trs l)[k]?=some (cs (aR l k))
 len: ∀l:List α,(trs l).length=l.length
 map: ∀l:List α,trs l=l.map cs
 csz: ∀a,(cs a).length=sz
instance:TC ByteArray:=⟨fun x=> [.leaf (.string x)],bA,1,ar6,b6,fun _=>rfl,fun _=>rfl⟩
instance:TC Int:=⟨fun x=> [.leaf (.int .i64 x)],c7,1,aq4,fF,fun _=>rfl,fun _=>rfl⟩
instance:TC UInt8:=⟨fun x=> [.leaf (.int .u8 (x.toNat:Int))],l6,1,amI,s6,fun _=>rfl,fun _=>rfl⟩
section
variable {α:Type} [Inhabited α] [TC α]
theorem TC.all(l:Z α): ∀e∈TC.trs l,e.length=TC.sz α:=fun e he=>by
 rw [TC.map] at he
 obtain⟨x,_,rfl⟩:=List.mem_map.1 he
 exact TC.csz x
theorem awW(a b:Z α):TC.trs a++TC.trs b=TC.trs (a++b):=by rw [TC.map,TC.map,TC.map,List.map_append]
end
def Hd{β:Type}(m:J β)(K:β→Prop):Prop:= ∃v,m=some v∧K v
section
variable {α β σ:Type} {K:β→Prop} {r:β}
theorem hd0{m:J β}(h:m=some r):Hd m (fun v=>v=r):=⟨r,h,rfl⟩
theorem gdI{p:Prop}{x:J β}(h:Hd (gd p x) K):p∧Hd x K:=by
 obtain⟨v,h1,h2⟩:=h
 by_cases hp:p
 ·rw [f7 hp rfl] at h1;exact⟨hp,v,h1,h2⟩
 ·rw [gdF hp] at h1;cases h1
theorem bdI{o:J α}{f:α→J β}(h:Hd (bd o f) K): ∃a,o=some a∧Hd (f a) K:=by
 obtain⟨v,h1,h2⟩:=h
 cases o with
 |none=>cases h1
 |some a=>exact⟨a,rfl,v,h1,h2⟩
theorem cB{G p:Prop}{x:J β}(h:Hd (gd p x) K)(k:p→Hd x K→G):G:=k (gdI h).1 (gdI h).2
theorem bN{G:Prop}{o:J α}{f:α→J β}(h:Hd (bd o f) K)(k: ∀a,o=some a→Hd (f a) K→G):G:=by
 obtain⟨a,h1,h2⟩:=bdI h
 exact k a h1 h2
theorem eX{G:Prop}{A B:Type}{o:J (A×B)}{f:A×B→J β}(h:Hd (bd o f) K)(k: ∀a b,o=some (a,b)→Hd (f (a,b)) K→G):G:=bN h fun _=>k _ _
theorem J9{G:Prop}{A B C:Type}{o:J (A×B×C)}{f:A×B×C→J β}(h:Hd (bd o f) K)(k: ∀a b c,o=some (a,b,c)→Hd (f (a,b,c)) K→G):G:=bN h fun _=>k _ _ _
theorem aAM{G:Prop}{A B C D:Type}{o:J (A×B×C×D)}{f:A×B×C×D→J β}(h:Hd (bd o f) K)(k: ∀a b c d,o=some (a,b,c,d)→Hd (f (a,b,c,d)) K→G):G:=bN h fun _=>k _ _ _ _
theorem gM{G:Prop}{x:α}{f:α→J β}(h:Hd (lt x f) K)(k: ∀y,y=x→Hd (f y) K→G):G:=k x rfl h
theorem sS{b:Bool}{x y:J β}(h:Hd (sw b x y) K)(e:b=true):Hd x K:=by subst e;exact h
theorem sR{b:Bool}{x y:J β}(h:Hd (sw b x y) K)(e:b=false):Hd y K:=by subst e;exact h
theorem tO{v:β}(h:Hd (some v) K):K v:=by
 obtain⟨u,h1,h2⟩:=h
 cases h1
 exact h2
def SK(f:σ→J β)(K:β→Prop):β⊕σ→Prop
 | .inl x=>K x
 | .inr s=>Hd (f s) K
theorem fA{m:J (β⊕σ)}{f:σ→J β}(h:Hd (so m f) K):Hd m (SK f K):=by
 obtain⟨v,h1,h2⟩:=h
 cases m with
 |none=>cases h1
 |some a=>
  refine⟨a,rfl,?_⟩
  cases a with
  |inl x=>cases h1;exact h2
  |inr s=>exact⟨v,h1,h2⟩
def LK(f:Nat→σ→J (LR σ β))(n i:Nat)(K:β⊕σ→Prop):LR σ β→Prop
 | .next s=>Hd (loopN f (n-(i+1)) (i+1) s) K
 | .brk s=>K (.inr s)
 | .ret x=>K (.inl x)
def LW(f:σ→J (LR σ β))(k:Nat)(K:β⊕σ→Prop):LR σ β→Prop
 | .next s=>Hd (loopW f k s) K
 | .brk s=>K (.inr s)
 | .ret x=>K (.inl x)
theorem skL{f:σ→J β}{x:β}(h:SK f K (.inl x)):K x:=h
theorem lkR{f:Nat→σ→J (LR σ β)}{n i:Nat}{K:β⊕σ→Prop}{x:β}(h:LK f n i K (.ret x)):K (.inl x):=h
theorem lwR{f:σ→J (LR σ β)}{k:Nat}{K:β⊕σ→Prop}{x:β}(h:LW f k K (.ret x)):K (.inl x):=h
theorem lnT{f:Nat→σ→J (LR σ β)}{n i:Nat}{s:σ}{K:β⊕σ→Prop}(hl:i<n)(h:Hd (loopN f (n-i) i s) K):Hd (f i s) (LK f n i K):=by
 obtain⟨v,h1,h2⟩:=h
 rw [show n-i=(n-(i+1))+1 by omega,loopN] at h1
 cases hf:f i s with
 |none=>rw [hf] at h1;cases h1
 |some x=>
  rw [hf] at h1
  refine⟨x,rfl,?_⟩
  cases x with
  |next s'=>exact⟨v,h1,h2⟩
  |brk s'=>cases h1;exact h2
  |ret x=>cases h1;exact h2
theorem lnE{f:Nat→σ→J (LR σ β)}{n i:Nat}{s:σ}{K:β⊕σ→Prop}(hl:n≤i)(h:Hd (loopN f (n-i) i s) K):K (.inr s):=by
 obtain⟨v,h1,h2⟩:=h
 rw [show n-i=0 by omega,loopN] at h1
 cases h1
 exact h2
theorem lwT{f:σ→J (LR σ β)}{k:Nat}{s:σ}{K:β⊕σ→Prop}(h:Hd (loopW f k s) K): ∃k',k=k'+1∧Hd (f s) (LW f k' K):=by
 obtain⟨v,h1,h2⟩:=h
 cases k with
 |zero=>cases h1
 |succ k=>
  rw [loopW] at h1
  refine⟨k,rfl,?_⟩
  cases hf:f s with
  |none=>rw [hf] at h1;cases h1
  |some x=>
   rw [hf] at h1
   refine⟨x,rfl,?_⟩
   cases x with
   |next s'=>exact⟨v,h1,h2⟩
   |brk s'=>cases h1;exact h2
   |ret x=>cases h1;exact h2
end
section
variable {P:Program} {C:qT} {n:Nat} {s s':AS}
theorem RS{st':dL}(h:kT C.st st':=by first|exact ad8 (by assumption)|(refine ad7 (by assumption) ?_ ?_;(first|exact aw2|exact as7 rfl|exact aw3 rfl|exact aw4 rfl);exact Nat.le_of_ble_eq_true rfl)):kT C.st st':=h
theorem V9{st st':dL}(hb:D6 st' st.boxes st'.boxes:=by repeat' (first|exact trivial|refine⟨⟨rfl,mG,rfl⟩,?_⟩))(hr:st.rows.take st'.rows.length=st'.rows:=by first|rfl|simp):xG st st':=StLe_mk' hb hr
theorem FT(hst:xG s.st s'.st:=by exact V9)(hp:kT C.st s'.st:=by exact RS)(he:adK s s'.st s'.env:=by repeat' (first|exact trivial|refine⟨⟨_,rfl,mG,rfl⟩,?_⟩)):Wk C n s s':=Wk.mk hst hp he
end
theorem FJ{P:Program}{f:FuncId}{args:Z PV}{pre:dL}{q:PV}{y d:DS}{T:TypeId}(hy:y=d)(h:cM P f args pre (fun r t=>r=q∧t=DS.box T d)):cM P f args pre (fun r t=>r=q∧t=DS.box T y):=by subst hy;exact h
theorem QE{P:Program}{f:FuncId}{args:Z PV}{pre:dL}{x z:Y}{y d:DS}{T:TypeId}(hy:y=d)(hx:x=z)(h:cM P f args pre (fun r t=>r=pS z∧t=DS.box T d)):cM P f args pre (fun r t=>r=pS x∧t=DS.box T y):=by subst hy hx;exact h
def aw5{β σ:Type}(C:qT)(n:Nat)(I:σ→AS)(K:β⊕σ→Prop)(Q:Exit→AS→Prop):Exit→AS→Prop
 | .normal,s=> ∃v,K (.inr v)∧Wk C n s (I v)
 |e,s=>Q e s
def lpQ{β σ:Type}(C:qT)(n:Nat)(id:Nat)(I:Nat→σ→AS)(O:σ→AS)(f:Nat→σ→J (LR σ β))(m i:Nat)(K:β⊕σ→Prop)(Q:Exit→AS→Prop):Exit→AS→Prop
 | .normal,s=>i<m∧ ∃v,Hd (loopN f (m-(i+1)) (i+1) v) K∧Wk C n s (I (i+1) v)
 | .exit j,s=>if j=id then ∃v,K (.inr v)∧Wk C n s (O v) else Q (.exit j) s
 |e,s=>Q e s
def lwQ{β σ:Type}(C:qT)(n:Nat)(id:Nat)(I:σ→AS)(O:σ→AS)(f:σ→J (LR σ β))(k:Nat)(K:β⊕σ→Prop)(Q:Exit→AS→Prop):Exit→AS→Prop
 | .normal,s=> ∃v,Hd (loopW f k v) K∧Wk C n s (I v)
 | .exit j,s=>if j=id then ∃v,K (.inr v)∧Wk C n s (O v) else Q (.exit j) s
 |e,s=>Q e s
section
variable {P:Program} {C:qT} {n:Nat} {s:AS} {Q:Exit→AS→Prop} {β σ:Type}
theorem axO{I:σ→AS}{K:β⊕σ→Prop}(hq:QC C n Q):QC C n (aw5 C n I K Q):=fun e s s' h k=>by
 cases e with
 |normal=>obtain⟨v,h1,h2⟩:=k;exact⟨v,h1,h.trans h2⟩
 |_=>exact hq _ s s' h k
theorem ay2{id:Nat}{I:Nat→σ→AS}{O:σ→AS}{f:Nat→σ→J (LR σ β)}{m i:Nat}{K:β⊕σ→Prop}(hq:QC C n Q):QC C n (lpQ C n id I O f m i K Q):=fun e s s' h k=>by
 cases e with
 |normal=>obtain⟨h0,v,h1,h2⟩:=k;exact⟨h0,v,h1,h.trans h2⟩
 |exit j=>
  simp only [lpQ] at k ⊢
  split
  ·rename_i hj;rw [if_pos hj] at k;obtain⟨v,h1,h2⟩:=k;exact⟨v,h1,h.trans h2⟩
  ·rename_i hj;rw [if_neg hj] at k;exact hq _ s s' h k
 |_=>exact hq _ s s' h k
theorem ay3{id:Nat}{I:σ→AS}{O:σ→AS}{f:σ→J (LR σ β)}{m:Nat}{K:β⊕σ→Prop}(hq:QC C n Q):QC C n (lwQ C n id I O f m K Q):=fun e s s' h k=>by
 cases e with
 |normal=>obtain⟨v,h1,h2⟩:=k;exact⟨v,h1,h.trans h2⟩
 |exit j=>
  simp only [lwQ] at k ⊢
  split
  ·rename_i hj;rw [if_pos hj] at k;obtain⟨v,h1,h2⟩:=k;exact⟨v,h1,h.trans h2⟩
  ·rename_i hj;rw [if_neg hj] at k;exact hq _ s s' h k
 |_=>exact hq _ s s' h k
theorem qcA(h:QC C n Q:=by repeat' (first|exact axP|exact ayW|apply axO|apply ay2|apply ay3|apply axQ|apply avR)):QC C n Q:=h
theorem qY{c:Code}{m:J (β⊕σ)}{K:β⊕σ→Prop}(I:σ→AS)(H:Hd m K)(h:Hd m K→dR P C n c (aw5 C n I K Q) s)(k: ∀v,K (.inr v)→Q .normal (I v))(hq:QC C n Q:=by exact qcA):dR P C n c Q s:=
 dR.mono (h H) fun e s' hc=>by
  cases e with
  |normal=>
   obtain⟨v,h1,h2⟩:=hc
   exact hq _ _ _ h2 (k v h1)
  |_=>exact hc
theorem aAO{I:σ→AS}{K:β⊕σ→Prop}{e:Exit}(h: ∃v,K (.inr v)∧Wk C n s (I v))(he:e= .normal:=by exact rfl):aw5 C n I K Q e s:=by subst he;exact h
theorem bV{c:Code}{id:Nat}{f:Nat→σ→J (LR σ β)}{m i0:Nat}{v0:σ}{K:β⊕σ→Prop}(I:Nat→σ→AS)(O:σ→AS)(H:Hd (loopN f (m-i0) i0 v0) K)
 (round: ∀i v,Hd (loopN f (m-i) i v) K→dR P C n c (lpQ C n id I O f m i K Q) (I i v)) (k: ∀v,K (.inr v)→Q .normal (O v)) (h0:Wk C n s (I i0 v0):=by exact FT) (hq:QC C n Q:=by exact qcA):dR P C n (.block id (.loop c)) Q s:=by
 refine dR.block ?_;refine S0 (ι:=Nat×σ) (fun x=>Hd (loopN f (m-x.1) x.1 x.2) K) (fun x=>I x.1 x.2) (fun x=>m-x.1) (i0,v0) H h0 ?_;rintro⟨i,v⟩ hj
 refine dR.mono (round i v hj) fun e s' h=>?_
 cases e with
 |normal=>
  obtain⟨h1,v',h2,h3⟩:=h
  exact⟨(i+1,v'),h2,h3,by show m-(i+1)<m-i;omega⟩
 |exit j=>
  simp only [lpQ] at h
  show AB id Q (.exit j) s'
  simp only [AB]
  split
  ·rename_i hj;rw [if_pos hj] at h;obtain⟨v',h1,h2⟩:=h;exact hq _ _ _ h2 (k v' h1)
  ·rename_i hj;rw [if_neg hj] at h;exact h
 |_=>exact h
theorem VQ{c:Code}{id:Nat}{f:σ→J (LR σ β)}{k0:Nat}{v0:σ}{K:β⊕σ→Prop}(I:σ→AS)(O:σ→AS)(H:Hd (loopW f k0 v0) K)
 (round: ∀k v,Hd (f v) (LW f k K)→dR P C n c (lwQ C n id I O f k K Q) (I v)) (k: ∀v,K (.inr v)→Q .normal (O v)) (h0:Wk C n s (I v0):=by exact FT) (hq:QC C n Q:=by exact qcA):dR P C n (.block id (.loop c)) Q s:=by
 refine dR.block ?_;refine S0 (ι:=Nat×σ) (fun x=>Hd (loopW f x.1 x.2) K) (fun x=>I x.2) (fun x=>x.1) (k0,v0) H h0 ?_;rintro⟨i,v⟩ hj
 obtain⟨i',rfl,hj'⟩:=lwT (f:=f) (k:=i) (s:=v) hj
 refine dR.mono (round i' v hj') fun e s' h=>?_
 cases e with
 |normal=>
  obtain⟨v',h2,h3⟩:=h
  exact⟨(i',v'),h2,h3,by show i'<i'+1;omega⟩
 |exit j=>
  simp only [lwQ] at h
  show AB id Q (.exit j) s'
  simp only [AB]
  split
  ·rename_i hj;rw [if_pos hj] at h;obtain⟨v',h1,h2⟩:=h;exact hq _ _ _ h2 (k v' h1)
  ·rename_i hj;rw [if_neg hj] at h;exact h
 |_=>exact h
theorem lpN{id:Nat}{I:Nat→σ→AS}{O:σ→AS}{f:Nat→σ→J (LR σ β)}{m i:Nat}{K:β⊕σ→Prop}{e:Exit}(hi:i<m)(h: ∃v,LK f m i K (.next v)∧Wk C n s (I (i+1) v))(he:e= .normal:=by exact rfl):lpQ C n id I O f m i K Q e s:=by subst he;exact⟨hi,h⟩
theorem lpX{id:Nat}{I:Nat→σ→AS}{O:σ→AS}{f:Nat→σ→J (LR σ β)}{m i:Nat}{K:β⊕σ→Prop}{e:Exit}(h: ∃v,K (.inr v)∧Wk C n s (O v))(he:e= .exit id:=by exact rfl):lpQ C n id I O f m i K Q e s:=by
 subst he
 simp only [lpQ,if_pos]
 exact h
theorem lpB{id:Nat}{I:Nat→σ→AS}{O:σ→AS}{f:Nat→σ→J (LR σ β)}{m i:Nat}{K:β⊕σ→Prop}{e:Exit}(h: ∃v,LK f m i K (.brk v)∧Wk C n s (O v))(he:e= .exit id:=by exact rfl):lpQ C n id I O f m i K Q e s:=lpX h he
theorem lwN{id:Nat}{I:σ→AS}{O:σ→AS}{f:σ→J (LR σ β)}{k:Nat}{K:β⊕σ→Prop}{e:Exit}(h: ∃v,LW f k K (.next v)∧Wk C n s (I v))(he:e= .normal:=by exact rfl):lwQ C n id I O f k K Q e s:=by subst he;exact h
theorem lwB{id:Nat}{I:σ→AS}{O:σ→AS}{f:σ→J (LR σ β)}{k:Nat}{K:β⊕σ→Prop}{e:Exit}(h: ∃v,LW f k K (.brk v)∧Wk C n s (O v))(he:e= .exit id:=by exact rfl):lwQ C n id I O f k K Q e s:=by
 subst he
 simp only [lwQ,if_pos]
 exact h
theorem dY{β:Type}{K:β→Prop}{x y:J β}{ops:Array Oper}{l:Z Oper}(d:Nat){b:Bool}(H:Hd (sw b x y) K)(h1:b=true→Hd x K→AL P C n ops l Q s)(h0:b=false→Hd y K→AL P C n ops l Q s)(hb:s.lk d=some (.t (.leaf (.bool b))):=by exact rfl):AL P C n ops l Q s:=xO d hb (fun h=>h1 h (sS H h)) (fun h=>h0 h (sR H h))
theorem bG{K:β→Prop}{c:Operand}{b:Bool}{x y:J β}{cx cy:Code}(H:Hd (sw b x y) K)(ht:b=true→Hd x K→dR P C n cx Q s)(hf:b=false→Hd y K→dR P C n cy Q s)(hc:s.ev c=some (.t (.leaf (.bool b))):=by exact rfl):dR P C n (.cond c cx cy) Q s:=
 dR.cond hc (fun h=>ht h (sS H h)) fun h=>hf h (sR H h)
theorem amM{c:Operand}{b:Bool}{cx cy:Code}(e:b=true)(h:dR P C n cx Q s)(hc:s.ev c=some (.t (.leaf (.bool b))):=by exact rfl):dR P C n (.cond c cx cy) Q s:=dR.cond hc (fun _=>h) fun h=>absurd (e.symm.trans h) (by decide)
theorem YV{c:Operand}{b:Bool}{cx cy:Code}(e:b=false)(h:dR P C n cy Q s)(hc:s.ev c=some (.t (.leaf (.bool b))):=by exact rfl):dR P C n (.cond c cx cy) Q s:=dR.cond hc (fun h=>absurd (e.symm.trans h) (by decide)) fun _=>h
theorem cZ{K:β⊕σ→Prop}{f:Nat→σ→J (LR σ β)}{m i:Nat}{v:σ}{c:Operand}{b:Bool}{cx cy:Code}(H:Hd (loopN f (m-i) i v) K)(ht:b=true→i<m→Hd (f i v) (LK f m i K)→dR P C n cx Q s)(hf:b=false→K (.inr v)→dR P C n cy Q s)(h1:b=true→i<m:=by first|exact yJ|exact am4)(h0:b=false→m≤i:=by first|exact yH|exact am3)(hc:s.ev c=some (.t (.leaf (.bool b))):=by exact rfl):dR P C n (.cond c cx cy) Q s:=
 dR.cond hc (fun h=>ht h (h1 h) (lnT (h1 h) H)) fun h=>hf h (lnE (h0 h) H)
theorem qI{f:FuncId}{fn:Func}{c:Code}{args:Z PV}{pre:dL}{R:PV→dL→Prop}(hf:P.funcs[f]?=some fn)(h: ∀C:qT,C.st=pre→dR P C fn.ntmps c (D1 P C fn.ntmps fn R) ⟨J7 0 args,pre⟩)(hb:fn.body=some c:=by exact rfl)(hn:args.length≤fn.ntmps:=by first|decide|(simp;done)|(simp;decide)):cM P f args pre R:=aeX hf hb hn h
theorem qS{x y:Code}(h:dR P C n x (abU (dR P C n y Q) Q) s):dR P C n (.seq x y) Q s:=dR.seq h
theorem qR{id:Nat}{l:Z Oper}(h:AL P C n l.toArray l Q s):dR P C n (.region id l.toArray false) Q s:=X9 h
theorem qN{ops:Array Oper}(h:Q .normal s):AL P C n ops [] Q s:=AL.nil h
theorem q1{ops:Array Oper}{o:Oper}{rest:Z Oper}{s1:AS}(ho:cX P C n o s s1)(h:AL P C n ops rest Q s1)(hg:o.guard=none:=by exact rfl):AL P C n ops (o::rest) Q s:=AL.cons hg ho h
theorem qg{ops:Array Oper}{o:Oper}{rest:Z Oper}{s1:AS}{j d:Nat}{b c:Bool}(hv:b=c)(ho:cX P C n o s s1)(h:AL P C n ops rest Q s1)(hg:o.guard=some (j,c):=by exact rfl)(hj:(ops[j]?).bind (·.dst)=some d:=by exact rfl)(hb:s.lk d=some (.t (.leaf (.bool b))):=by exact rfl):AL P C n ops (o::rest) Q s:=alT hg hj hb hv ho h
theorem qk{ops:Array Oper}{o:Oper}{rest:Z Oper}{j d:Nat}{b c e:Bool}(hv:b=e)(h:AL P C n ops rest Q (s.putO o.dst (.tup [])))(hg:o.guard=some (j,c):=by exact rfl)(hj:(ops[j]?).bind (·.dst)=some d:=by exact rfl)(hb:s.lk d=some (.t (.leaf (.bool b))):=by exact rfl)(hne:(e==c)=false:=by exact rfl)(hd:bL o.dst n=true:=by exact rfl):AL P C n ops (o::rest) Q s:=asD hg hj hb hv hne hd h
theorem qku{ops:Array Oper}{o:Oper}{rest:Z Oper}{j d:Nat}{c:Bool}(h:AL P C n ops rest Q (s.putO o.dst (.tup [])))(hg:o.guard=some (j,c):=by exact rfl)(hj:(ops[j]?).bind (·.dst)=some d:=by exact rfl)(hb:s.lk d=some (.tup []):=by exact rfl)(hd:bL o.dst n=true:=by exact rfl):AL P C n ops (o::rest) Q s:=asE hg hj hb hd h
theorem qe{fn:Func}{R:PV→dL→Prop}{e:Exit}{ps:Z PV}{res q:PV}{st':dL}(hR:R q st':=by exact⟨rfl,rfl⟩)(hr:WP P s fn.results.toList ps)(he:e= .normal∨e= .ret:=by first|exact .inr rfl|exact .inl rfl)(hres:(match ps with| [p]=>p|ps=> .tup ps)=res:=by exact rfl)
 (hst:xG s.st st':=by exact V9) (hp:kT C.st st':=by exact RS) (hle:PV.Le res q:=by exact mG) (hk:hM st' q=true:=by exact rfl):D1 P C n fn R e s:=D1.mk he hr hres hst hp hle hk hR
theorem SX{fn:Func}{R:PV→dL→Prop}{e:Exit}{p q:PV}{st':dL}(hR:R q st':=by exact⟨rfl,rfl⟩)(hr:WP P s fn.results.toList [p]:=by exact⟨rfl,trivial⟩)(he:e= .normal∨e= .ret:=by first|exact .inr rfl|exact .inl rfl)
 (hst:xG s.st st':=by exact V9) (hp:kT C.st st':=by exact RS) (hle:PV.Le p q:=by exact mG) (hk:hM st' q=true:=by exact rfl):D1 P C n fn R e s:=D1.mk he hr rfl hst hp hle hk hR
theorem qe2{fn:Func}{R:PV→dL→Prop}{e:Exit}{p1 p2 q:PV}{st':dL}(hR:R q st':=by exact⟨rfl,rfl⟩)(hr:WP P s fn.results.toList [p1,p2]:=by exact⟨rfl,rfl,trivial⟩)(he:e= .normal∨e= .ret:=by first|exact .inr rfl|exact .inl rfl)
 (hst:xG s.st st':=by exact V9) (hp:kT C.st st':=by exact RS) (hle:PV.Le (.tup [p1,p2]) q:=by exact mG) (hk:hM st' q=true:=by exact rfl):D1 P C n fn R e s:=D1.mk he hr rfl hst hp hle hk hR
theorem qe3{fn:Func}{R:PV→dL→Prop}{e:Exit}{p1 p2 p3 q:PV}{st':dL}(hR:R q st':=by exact⟨rfl,rfl⟩)(hr:WP P s fn.results.toList [p1,p2,p3]:=by exact⟨rfl,rfl,rfl,trivial⟩)(he:e= .normal∨e= .ret:=by first|exact .inr rfl|exact .inl rfl)
 (hst:xG s.st st':=by exact V9) (hp:kT C.st st':=by exact RS) (hle:PV.Le (.tup [p1,p2,p3]) q:=by exact mG) (hk:hM st' q=true:=by exact rfl):D1 P C n fn R e s:=D1.mk he hr rfl hst hp hle hk hR
theorem gV(i:Nat){p:PV}{sz:Nat}{es:Z (Z Tr)}{N:Nat}{c:Code}(hl:es.length=N)(k:N≤9223372036854775807→dR P C n c Q s)(hx:s.lk i=some p:=by exact rfl)(hp:mK p=some (sz,es):=by exact rfl):dR P C n c Q s:=dR.fact (af4 i hx hp hl) k
theorem szF(i:Nat){v:Y}{c:Code}(k:v.size≤9223372036854775807→dR P C n c Q s)(hx:s.lk i=some (.t (.leaf (.string v))):=by exact rfl):dR P C n c Q s:=dR.fact (fun m a w h=>by
 obtain⟨u,-,hr⟩:=h.env i _ hx
 have h1:v.size≤maxLen:=(cH.leaf_eq hr).2
 unfold maxLen at h1
 omega) k
theorem acJ(i:Nat){p:PV}{sz:Nat}{es:Z (Z Tr)}{N:Nat}{ops:Array Oper}{l:Z Oper}(hl:es.length=N)(k:N≤9223372036854775807→AL P C n ops l Q s)(hx:s.lk i=some p:=by exact rfl)(hp:mK p=some (sz,es):=by exact rfl):AL P C n ops l Q s:=AL.fact (af4 i hx hp hl) k
end
section
variable {P:Program} {C:qT} {n:Nat}
theorem dk{D:kZ}{i j lo hi:Nat}{o:Oper}{b c e:Bool}(hv:b=e)(hg:o.guard=some (j,c):=by exact rfl)(hj:D.out j=some (.t (.leaf (.bool b))):=by exact rfl)(hk:D.kind i= .q lo hi:=by exact rfl)(hne:(e==c)=false:=by exact rfl)(ho:D.out i=some (.tup []):=by exact rfl)(hd:bL o.dst n=true:=by exact rfl):D.step P C n i o:=
 .inr ⟨by subst hv;unfold kZ.want;rw [hg];dsimp only;rw [hj];dsimp only;rw [hne],⟨_,_,hk⟩,.inr ⟨ho,hd⟩⟩
end
def pk{α:Type}[Inhabited α](l:Z α)(j:Nat):α:=l.getD j (l.getLastD default)
instance:Inhabited DS:=⟨⟨[],0,0⟩⟩
instance:Inhabited PV:=⟨.nil⟩
instance:Inhabited dL:=⟨⟨[],[]⟩⟩
instance:Inhabited mV:=⟨⟨0,0,[],false⟩⟩
def evA(s:AS):Z Operand→J (Z PV)
 | []=>some []
 |x::xs=>match s.ev x with
  |some p=>match evA s xs with
   |some ps=>some (p::ps)
   |none=>none
  |none=>none
theorem LX{s:AS}: ∀ {xs:Z Operand} {ps:Z PV},evA s xs=some ps→xs.map s.ev=ps.map some
 | [],ps,h=>by cases h;rfl
 |x::xs,ps,h=>by
  unfold evA at h
  split at h
  ·rename_i p hp
   split at h
   ·rename_i qs hq
    cases h
    rw [List.map_cons,List.map_cons,hp,LX hq]
   ·cases h
  ·cases h
section
variable {P:Program} {C:qT} {n:Nat} {s:AS} {o:Oper}
theorem bI{x:Operand}{p:PV}(ho:o.op= .move x∨o.op= .assign x:=by first|exact .inl rfl|exact .inr rfl)(hd:bL o.dst n=true:=by exact rfl)(hx:s.ev x=some p:=by exact rfl):cX P C n o s (s.putO o.dst p):=cX.move ho hd hx
theorem rL1{T:TypeId}{x:Operand}{k d z:Nat}{bx:dO}{p:PV}(hT:kA P T=some (false,z))(ho:o.op= .load T x:=by exact rfl)(hd:bL o.dst n=true:=by exact rfl)(hx:s.ev x=some (.ptr k d):=by exact rfl)(hb:s.st.boxes[k]?=some (some bx):=by exact rfl)(hc:bx.cells[d]?=some p:=by exact rfl):cX P C n o s (s.putO o.dst p):=QF ho hd hx hb hT hc
theorem rLp{T:TypeId}{x:Operand}{k d z:Nat}{bx:dO}(cs:Z PV)(hT:kA P T=some (true,z))(ho:o.op= .load T x:=by exact rfl)(hd:bL o.dst n=true:=by exact rfl)(hx:s.ev x=some (.ptr k d):=by exact rfl)(hb:s.st.boxes[k]?=some (some bx):=by exact rfl)(hc:(bx.cells.drop d).take z=cs:=by exact rfl)(hl:cs.length=z:=by exact rfl):cX P C n o s (s.putO o.dst (.agg cs)):=VF ho hd hx hb hT hc hl
theorem rK1{T:TypeId}{x:Operand}{z:Nat}{d:Tr}{cs:Z Tr}(hT:kA P T=some (false,z))(ho:o.op= .load T x:=by exact rfl)(hd:bL o.dst n=true:=by exact rfl)(hx:s.ev x=some (.eptr cs):=by exact rfl)(hc:cs[0]?=some d:=by exact rfl):cX P C n o s (s.putO o.dst (.t d)):=zC ho hd hx hT hc
theorem rKe{T:TypeId}{x:Operand}{z:Nat}{cs:Z Tr}(ds:Z Tr)(hT:kA P T=some (true,z))(ho:o.op= .load T x:=by exact rfl)(hd:bL o.dst n=true:=by exact rfl)(hx:s.ev x=some (.eptr cs):=by exact rfl)(hc:cs.take z=ds:=by exact rfl)(hl:ds.length=z:=by exact rfl):cX P C n o s (s.putO o.dst (.agg (ds.map PV.t))):=ae4 ho hd hx hT hc hl
theorem rFp{T:TypeId}{x:Operand}{f k d e:Nat}(hf:uF P T f=some e)(ho:o.op= .fieldAddr T x f:=by exact rfl)(hd:bL o.dst n=true:=by exact rfl)(hx:s.ev x=some (.ptr k d):=by exact rfl):cX P C n o s (s.putO o.dst (.ptr k (d+e))):=ae3 ho hd hx hf
theorem rFe{T:TypeId}{x:Operand}{f e:Nat}{cs:Z Tr}(hf:uF P T f=some e)(ho:o.op= .fieldAddr T x f:=by exact rfl)(hd:bL o.dst n=true:=by exact rfl)(hx:s.ev x=some (.eptr cs):=by exact rfl):cX P C n o s (s.putO o.dst (.eptr (cs.drop e))):=abY ho hd hx hf
theorem rAl{T:TypeId}{ps:Z PV}(hz:jN P T=some ps)(ho:o.op= .alloc T:=by exact rfl)(hd:bL o.dst n=true:=by exact rfl):cX P C n o s ((⟨s.env,s.st.addBox ⟨T,ps⟩⟩:AS).putO o.dst (.ptr s.st.boxes.length 0)):=cX.alloc ho hd hz
theorem fQ{T:TypeId}{x:Operand}{p:PV}(cs:Z PV)(ho:o.op= .box T x:=by exact rfl)(hd:bL o.dst n=true:=by exact rfl)(hx:s.ev x=some p:=by exact rfl)(hc:xR p=cs:=by exact rfl)(ht:IJ p=true:=by exact rfl):cX P C n o s ((⟨s.env,s.st.addBox ⟨T,cs⟩⟩:AS).putO o.dst (.ptr s.st.boxes.length 0)):=cX.box ho hd hx hc ht
theorem rSu{T:TypeId}{x y:Operand}{k d:Nat}{bx:dO}{p:PV}{cs ds:Z PV}(hT:(P.info? T).map (·.size)=some cs.length)(ho:o.op= .store T x y:=by exact rfl)(hx:s.ev x=some (.ptr k d):=by exact rfl)(hb:s.st.boxes[k]?=some (some bx):=by exact rfl)(hy:s.ev y=some p:=by exact rfl)(hc:xR p=cs:=by exact rfl)(ht:IJ p=true:=by exact rfl)(hf:KB cs=true:=by exact rfl)
 (hfit:d+cs.length≤bx.cells.length:=by exact Nat.le_of_ble_eq_true rfl) (hds:bx.cells.take d++cs++bx.cells.drop (d+cs.length)=ds:=by exact rfl):cX P C n o s ((⟨s.env,s.st.setBox k ⟨bx.ty,ds⟩⟩:AS).delO o.dst):=ae5 ho hx hb hy hc ht hf hT hfit hds
theorem rLn{T:TypeId}{x:Operand}{p:PV}{sz N:Nat}{es:Z (Z Tr)}{E:Nat×Nat×Nat}(hT:elemOf? P T=some E)(hl:es.length=N)(ho:o.op= .call { callee:= .builtin .len,args:= #[x],argTypes:= #[T] }:=by exact rfl)(hd:bL o.dst n=true:=by exact rfl)(hx:s.ev x=some p:=by exact rfl)(hp:mK p=some (sz,es):=by exact rfl):cX P C n o s (s.putO o.dst (.t (.leaf (.int .i64 (N:Int))))):=asI ho hd hx hp hT hl
theorem rEq{T yT:TypeId}{x y:Operand}{k:IntKind}{a b:Int}(ho:o.op= .binOp .eql T x y yT:=by exact rfl)(hd:bL o.dst n=true:=by exact rfl)(hx:s.ev x=some (.t (.leaf (.int k a))):=by exact rfl)(hy:s.ev y=some (.t (.leaf (.int k b))):=by exact rfl):cX P C n o s (s.putO o.dst (.t (.leaf (.bool (decide (a=b)))))):=asG ho hd hx hy
theorem rNe{T yT:TypeId}{x y:Operand}{k:IntKind}{a b:Int}(ho:o.op= .binOp .neq T x y yT:=by exact rfl)(hd:bL o.dst n=true:=by exact rfl)(hx:s.ev x=some (.t (.leaf (.int k a))):=by exact rfl)(hy:s.ev y=some (.t (.leaf (.int k b))):=by exact rfl):cX P C n o s (s.putO o.dst (.t (.leaf (.bool (!decide (a=b)))))):=asL ho hd hx hy
theorem rLt{T yT:TypeId}{x y:Operand}{k:IntKind}{a b:Int}(ho:o.op= .binOp .lss T x y yT:=by exact rfl)(hd:bL o.dst n=true:=by exact rfl)(hx:s.ev x=some (.t (.leaf (.int k a))):=by exact rfl)(hy:s.ev y=some (.t (.leaf (.int k b))):=by exact rfl):cX P C n o s (s.putO o.dst (.t (.leaf (.bool (decide (a<b)))))):=cX.lss ho hd hx hy
theorem rLe{T yT:TypeId}{x y:Operand}{k:IntKind}{a b:Int}(ho:o.op= .binOp .leq T x y yT:=by exact rfl)(hd:bL o.dst n=true:=by exact rfl)(hx:s.ev x=some (.t (.leaf (.int k a))):=by exact rfl)(hy:s.ev y=some (.t (.leaf (.int k b))):=by exact rfl):cX P C n o s (s.putO o.dst (.t (.leaf (.bool (decide (a≤b)))))):=cX.leq ho hd hx hy
theorem rGt{T yT:TypeId}{x y:Operand}{k:IntKind}{a b:Int}(ho:o.op= .binOp .gtr T x y yT:=by exact rfl)(hd:bL o.dst n=true:=by exact rfl)(hx:s.ev x=some (.t (.leaf (.int k a))):=by exact rfl)(hy:s.ev y=some (.t (.leaf (.int k b))):=by exact rfl):cX P C n o s (s.putO o.dst (.t (.leaf (.bool (decide (a>b)))))):=cX.gtr ho hd hx hy
theorem rGe{T yT:TypeId}{x y:Operand}{k:IntKind}{a b:Int}(ho:o.op= .binOp .geq T x y yT:=by exact rfl)(hd:bL o.dst n=true:=by exact rfl)(hx:s.ev x=some (.t (.leaf (.int k a))):=by exact rfl)(hy:s.ev y=some (.t (.leaf (.int k b))):=by exact rfl):cX P C n o s (s.putO o.dst (.t (.leaf (.bool (decide (a≥b)))))):=cX.geq ho hd hx hy
theorem rSe{T yT:TypeId}{x y:Operand}{a b:Y}(ho:o.op= .binOp .eql T x y yT:=by exact rfl)(hd:bL o.dst n=true:=by exact rfl)(hx:s.ev x=some (.t (.leaf (.string a))):=by exact rfl)(hy:s.ev y=some (.t (.leaf (.string b))):=by exact rfl):cX P C n o s (s.putO o.dst (.t (.leaf (.bool (decide (a=b)))))):=asH ho hd hx hy
theorem rSn{T yT:TypeId}{x y:Operand}{a b:Y}(ho:o.op= .binOp .neq T x y yT:=by exact rfl)(hd:bL o.dst n=true:=by exact rfl)(hx:s.ev x=some (.t (.leaf (.string a))):=by exact rfl)(hy:s.ev y=some (.t (.leaf (.string b))):=by exact rfl):cX P C n o s (s.putO o.dst (.t (.leaf (.bool (!decide (a=b)))))):=asM ho hd hx hy
theorem JP{T:TypeId}{x:Operand}{b:Bool}(ho:o.op= .unOp .not T x:=by exact rfl)(hd:bL o.dst n=true:=by exact rfl)(hx:s.ev x=some (.t (.leaf (.bool b))):=by exact rfl):cX P C n o s (s.putO o.dst (.t (.leaf (.bool (!b))))):=asN ho hd hx
theorem rAw{T yT:TypeId}{x y:Operand}{k:IntKind}{a b:Int}(ho:o.op= .binOp .add T x y yT:=by exact rfl)(hd:bL o.dst n=true:=by exact rfl)(hx:s.ev x=some (.t (.leaf (.int k a))):=by exact rfl)(hy:s.ev y=some (.t (.leaf (.int k b))):=by exact rfl):cX P C n o s (s.putO o.dst (.t (.leaf (.int k (k.wrap (a+b)))))):=JW ho hd hx hy
theorem rSw{T yT:TypeId}{x y:Operand}{k:IntKind}{a b:Int}(ho:o.op= .binOp .sub T x y yT:=by exact rfl)(hd:bL o.dst n=true:=by exact rfl)(hx:s.ev x=some (.t (.leaf (.int k a))):=by exact rfl)(hy:s.ev y=some (.t (.leaf (.int k b))):=by exact rfl):cX P C n o s (s.putO o.dst (.t (.leaf (.int k (k.wrap (a-b)))))):=ah5 ho hd hx hy
theorem rIx{α:Type}[Inhabited α][TC α]{l:Z α}{T E sz by_:Nat}{x i:Operand}{p:PV}{k:Nat}(h:k<l.length)(hT:elemOf? P T=some (E,sz,by_))(ho:o.op= .indexAddr T x i:=by exact rfl)(hd:bL o.dst n=true:=by exact rfl)(hx:s.ev x=some p:=by exact rfl)(hp:mK p=some (sz,TC.trs l):=by exact rfl)(hi:s.ev i=some (.t (.leaf (.int .i64 (k:Int)))):=by exact rfl):cX P C n o s (s.putO o.dst (.eptr (TC.cs (aR l k)))):=cX.index ho hd hx hp hi (TC.at_ h) hT
theorem rIy{α:Type}[Inhabited α][TC α]{l:Z α}{T E sz by_:Nat}{x i:Operand}{p:PV}{y:Int}(h:0≤y∧y.toNat<l.length)(hT:elemOf? P T=some (E,sz,by_))(ho:o.op= .indexAddr T x i:=by exact rfl)(hd:bL o.dst n=true:=by exact rfl)(hx:s.ev x=some p:=by exact rfl)(hp:mK p=some (sz,TC.trs l):=by exact rfl)(hi:s.ev i=some (.t (.leaf (.int .i64 y))):=by exact rfl):cX P C n o s (s.putO o.dst (.eptr (TC.cs (aR l y.toNat)))):=alW ho hd hx hp hi h.1 (TC.at_ h.2) hT
theorem rIn{α:Type}[Inhabited α][TC α]{l:Z α}{T E sz by_:Nat}{x i:Operand}{p:PV}{k:Nat}{z:α}(hz:z=aR l k)(h:k<l.length)(hT:elemOf? P T=some (E,sz,by_))(ho:o.op= .indexAddr T x i:=by exact rfl)(hd:bL o.dst n=true:=by exact rfl)(hx:s.ev x=some p:=by exact rfl)(hp:mK p=some (sz,TC.trs l):=by exact rfl)(hi:s.ev i=some (.t (.leaf (.int .i64 (k:Int)))):=by exact rfl):cX P C n o s (s.putO o.dst (.eptr (TC.cs z))):=by
 subst hz
 exact rIx h hT ho hd hx hp hi
theorem rIm{α:Type}[Inhabited α][TC α]{l:Z α}{T E sz by_:Nat}{x i:Operand}{p:PV}{y:Int}{z:α}(hz:z=aR l y.toNat)(h:0≤y∧y.toNat<l.length)(hT:elemOf? P T=some (E,sz,by_))(ho:o.op= .indexAddr T x i:=by exact rfl)(hd:bL o.dst n=true:=by exact rfl)(hx:s.ev x=some p:=by exact rfl)(hp:mK p=some (sz,TC.trs l):=by exact rfl)(hi:s.ev i=some (.t (.leaf (.int .i64 y))):=by exact rfl):cX P C n o s (s.putO o.dst (.eptr (TC.cs z))):=by
 subst hz
 exact rIy h hT ho hd hx hp hi
theorem rF1{T:TypeId}{x:Operand}{f e z:Nat}{cs:Z PV}{p:PV}(hf:xS P T f=some (e,false,z))(ho:o.op= .field T x f:=by exact rfl)(hd:bL o.dst n=true:=by exact rfl)(hx:s.ev x=some (.agg cs):=by exact rfl)(hc:cs[e]?=some p:=by exact rfl):cX P C n o s (s.putO o.dst p):=alV ho hd hx hf hc
theorem rEx{x:Operand}{i:Nat}{ps:Z PV}{p:PV}(ho:o.op= .extract x i:=by exact rfl)(hd:bL o.dst n=true:=by exact rfl)(hx:s.ev x=some (.tup ps):=by exact rfl)(hi:ps[i]?=some p:=by exact rfl):cX P C n o s (s.putO o.dst p):=cX.extract ho hd hx hi
theorem rBd{T:TypeId}{parts:Array (Nat×Operand)}{ps:Z (Nat×Z PV)}{zs cs:Z PV}{places:Z (Nat×Nat)}(hz:jN P T=some zs)(hpl:RY P T=some places)(ho:o.op= .build T parts:=by exact rfl)(hd:bL o.dst n=true:=by exact rfl)(hp:nN s parts.toList=some ps:=by exact rfl)(hc:t8 (fun i=>places.toArray[i]?) zs ps=some cs:=by exact rfl):cX P C n o s (s.putO o.dst (.agg cs)):=cX.build ho hd hz hpl hp hc
theorem rBs{α:Type}[Inhabited α][TC α]{T E by_ len:Nat}{parts:Array (Nat×Operand)}{ps:Z (Nat×Z PV)}{zs cs:Z PV}(l:Z α)(hT:elemOf? P T=some (E,TC.sz α,by_))(hz:jN P E=some zs)(ho:o.op= .buildSlice T len parts:=by exact rfl)(hd:bL o.dst n=true:=by exact rfl)(hp:nN s parts.toList=some ps:=by exact rfl)
 (hc:t8 (fun i=>some (i*TC.sz α,TC.sz α)) (List.replicate len zs).flatten ps=some cs:=by exact rfl) (hle:tN cs ((l.map TC.cs).flatten.map PV.t):=by exact mG) (hel:l.length=len:=by exact rfl) (hsz:0<TC.sz α:=by decide) (hzl:zs.length=TC.sz α:=by exact rfl) (hsm:len*TC.sz α≤16777216:=by decide):cX P C n o s (s.putO o.dst (.t (.row (TC.sz α) (TC.trs l)))):=
 WC (es:=l.map TC.cs) ho hd hT hz hp hc hle (by rw [List.length_map];exact hel) (fun e he=>TC.all l e (by rw [TC.map];exact he)) hsz hzl hsm (TC.map l).symm
theorem rBl{α:Type}[Inhabited α][TC α]{T E by_ len:Nat}{parts:Array (Nat×Operand)}{ps:Z (Nat×Z PV)}{zs cs:Z PV}(l:Z α)(hT:elemOf? P T=some (E,TC.sz α,by_))(hz:jN P E=some zs)(ho:o.op= .buildSlice T len parts:=by exact rfl)(hd:bL o.dst n=true:=by exact rfl)(hp:nN s parts.toList=some ps:=by exact rfl)
 (hc:t8 (fun i=>some (i*TC.sz α,TC.sz α)) (List.replicate len zs).flatten ps=some cs:=by exact rfl) (hle:tN cs ((l.map TC.cs).flatten.map PV.t):=by exact mG) (hel:l.length=len:=by exact rfl) (hsz:0<TC.sz α:=by decide) (hzl:zs.length=TC.sz α:=by exact rfl) (hsm:len*TC.sz α≤16777216:=by decide):cX P C n o s (s.putO o.dst (.lit (TC.sz α) (TC.trs l))):=
 SY (es:=l.map TC.cs) ho hd hT hz hp hc hle (by rw [List.length_map];exact hel) (fun e he=>TC.all l e (by rw [TC.map];exact he)) hsz hzl hsm (TC.map l).symm
theorem rBa{α:Type}[Inhabited α][TC α]{T E by_ len:Nat}{parts:Array (Nat×Operand)}{ps:Z (Nat×Z PV)}{zs cs:Z PV}(l:Z α)(hT:elemOf? P T=some (E,TC.sz α,by_))(hz:jN P E=some zs)(ho:o.op= .buildSlice T len parts:=by exact rfl)(hd:bL o.dst n=true:=by exact rfl)(hp:nN s parts.toList=some ps:=by exact rfl)
 (hc:t8 (fun i=>some (i*TC.sz α,TC.sz α)) (List.replicate len zs).flatten ps=some cs:=by exact rfl) (hle:tN cs ((l.map TC.cs).flatten.map PV.t):=by exact mG) (hel:l.length=len:=by exact rfl) (hsz:0<TC.sz α:=by decide) (hzl:zs.length=TC.sz α:=by exact rfl) (hsm:len*TC.sz α≤16777216:=by decide):cX P C n o s ((⟨s.env,s.st.addRow ⟨E,TC.sz α,TC.trs l,false⟩⟩:AS).putO o.dst (.acc (TC.sz α) (TC.trs l) s.st.rows.length)):=
 WB (es:=l.map TC.cs) ho hd hT hz hp hc hle (by rw [List.length_map];exact hel) (fun e he=>TC.all l e (by rw [TC.map];exact he)) hsz hzl hsm (TC.map l).symm
theorem rAp{α:Type}[Inhabited α][TC α]{T E by_:Nat}{x y:Operand}{a b:Z α}{r:Nat}{row:mV}{p:PV}(h:a.length+b.length≤68719476736)(hT:elemOf? P T=some (E,TC.sz α,by_))(hz:(P.info? E).bind (fun i=>i.zero.map (fun z=>z.cells.size))=some (TC.sz α))(ho:o.op= .call { callee:= .builtin .append,args:= #[x,y],argTypes:= #[T,T] }:=by exact rfl)(hd:bL o.dst n=true:=by exact rfl)
 (hx:s.ev x=some (.acc (TC.sz α) (TC.trs a) r):=by exact rfl) (hrow:s.st.rows[r]?=some row:=by exact rfl) (hes:row.es=TC.trs a:=by exact rfl) (hE:row.E=E:=by exact rfl) (hw:row.whole=false:=by exact rfl) (hy:s.ev y=some p:=by exact rfl) (hp:mK p=some (TC.sz α,TC.trs b):=by exact rfl)
 (hb:0<by_:=by decide) (hb2:by_≤2048:=by decide):cX P C n o s ((⟨s.env,s.st.setRow r { row with es:=TC.trs (a++b) }⟩:AS).putO o.dst (.acc (TC.sz α) (TC.trs (a++b)) r)):=
 ah0 ho hd hx hrow hes hE hw hy hp (TC.all b) hT hz hb (by rw [TC.len,TC.len];exact zK h hb2) (awW a b)
theorem rMf{f:FuncId}{cap:Array Operand}{ps:Z PV}(ho:o.op= .makeFunc (.func f) #[] cap:=by exact rfl)(hd:bL o.dst n=true:=by exact rfl)(hc:evA s cap.toList=some ps:=by exact rfl):cX P C n o s (s.putO o.dst (.fn f ps)):=cX.makeFunc ho hd (LX hc)
theorem wZ{x:Operand}{k d:Nat}(ho:o.op= .nilCheck x:=by exact rfl)(hd:bL o.dst n=true:=by exact rfl)(hx:s.ev x=some (.ptr k d):=by exact rfl):cX P C n o s (s.putO o.dst (.ptr k d)):=alY ho hd hx
theorem rNf{x:Operand}{f:FuncId}{cs:Z PV}(ho:o.op= .nilCheck x:=by exact rfl)(hd:bL o.dst n=true:=by exact rfl)(hx:s.ev x=some (.fn f cs):=by exact rfl):cX P C n o s (s.putO o.dst (.fn f cs)):=apZ ho hd hx
theorem CJ{x y z:Operand}{b:Bool}{p:PV}(hb:b=true)(ho:o.op= .pick x y z:=by exact rfl)(hd:bL o.dst n=true:=by exact rfl)(hx:s.ev x=some (.t (.leaf (.bool b))):=by exact rfl)(hy:s.ev y=some p:=by exact rfl):cX P C n o s (s.putO o.dst p):=ap1 ho hd hx hb hy
theorem D3{x y z:Operand}{b:Bool}{p:PV}(hb:b=false)(ho:o.op= .pick x y z:=by exact rfl)(hd:bL o.dst n=true:=by exact rfl)(hx:s.ev x=some (.t (.leaf (.bool b))):=by exact rfl)(hy:s.ev z=some p:=by exact rfl):cX P C n o s (s.putO o.dst p):=ap0 ho hd hx hb hy
theorem bJ{f:FuncId}{fn:Func}{xs:Z Operand}{ts:Array TypeId}{ps qs:Z PV}{res:PV}(hf:P.funcs[f]?=some fn)(hc:bU P f qs res)(ho:o.op= .call { callee:= .value (.func f),args:=⟨xs⟩,argTypes:=ts }:=by exact rfl)(hd:bL o.dst n=true:=by exact rfl)(hnm:(fn.name== "runtime.NumGoroutine")=false:=by kernel_rfl)(hb:fn.body.isNone=false:=by exact rfl)
 (hx:evA s xs=some ps:=by exact rfl) (hle:tN ps qs:=by exact mG) (h1:lW qs=true:=by exact rfl) (h2:PV.free res=true:=by exact rfl):cX P C n o s (s.putO o.dst res):=LN ho hd hf hnm hb (LX hx) hle h1 h2 hc
theorem rCv{y:Operand}{f:FuncId}{fn:Func}{xs:Z Operand}{ts:Array TypeId}{ps cs qs:Z PV}{res:PV}(hf:P.funcs[f]?=some fn)(hc:bU P f qs res)(ho:o.op= .call { callee:= .value y,args:=⟨xs⟩,argTypes:=ts }:=by exact rfl)(hd:bL o.dst n=true:=by exact rfl)(hy:s.ev y=some (.fn f cs):=by exact rfl)(hnm:(fn.name== "runtime.NumGoroutine")=false:=by kernel_rfl)(hb:fn.body.isNone=false:=by exact rfl)
 (hx:evA s xs=some ps:=by exact rfl) (hle:tN (ps++cs) qs:=by exact mG) (h1:lW qs=true:=by exact rfl) (h2:PV.free res=true:=by exact rfl):cX P C n o s (s.putO o.dst res):=apY ho hd hy hf hnm hb (LX hx) hle h1 h2 hc
theorem ay1{S pre:dL}{fb fr:Z Nat}(hb:tR S fb fr pre fb pre.boxes:=by repeat' (first|exact trivial|refine⟨⟨_,rfl,rfl,mG,rfl⟩,?_⟩))(hr:wJ S fr pre.rows:=by repeat' (first|exact trivial|refine⟨rfl,?_⟩))(h1:fb.Nodup:=by decide)(h2:fr.Nodup:=by decide):lM S pre fb fr:=lM.of hb hr h1 h2
theorem fO{f:FuncId}{fn:Func}{xs:Z Operand}{ts:Array TypeId}{ps qs:Z PV}{res:PV}{pre st':dL}(fb fr:Z Nat)(hf:P.funcs[f]?=some fn)(hc:cM P f qs pre (fun r t=>r=res∧t=st'))(ho:o.op= .call { callee:= .value (.func f),args:=⟨xs⟩,argTypes:=ts }:=by exact rfl)(hd:bL o.dst n=true:=by exact rfl)(hnm:(fn.name== "runtime.NumGoroutine")=false:=by kernel_rfl)(hb:fn.body.isNone=false:=by exact rfl)
 (hx:evA s xs=some ps:=by exact rfl) (hp:lM s.st pre fb fr:=by exact ay1) (hle:tN ps (B4 fb fr qs):=by exact mG) (hok:mJ pre qs=true:=by exact rfl) (hbl:st'.boxes.length=pre.boxes.length:=by exact rfl) (hrl:st'.rows.length=pre.rows.length:=by exact rfl):cX P C n o s ((⟨s.env,s.st.over st' fb fr⟩:AS).putO o.dst (PV.ren fb fr res)):=alU fb fr ho hd hf hnm hb (LX hx) rfl hp hle hok hbl hrl hc
end
theorem dne{x a b:Int}(h:decide (x=a)=true)(hab:a≠b):decide (x=b)=false:=by
 rw [of_decide_eq_true h]
 exact decide_eq_false hab
theorem apC{x b:Int}(h:(decide (x=2)||decide (x=3))=true)(h2:2≠b)(h3:3≠b):decide (x=b)=false:=by
 rw [Bool.or_eq_true,decide_eq_true_eq,decide_eq_true_eq] at h
 refine decide_eq_false fun e=>?_
 omega
theorem awN{x:Int}(h:(decide (x=2)||decide (x=3))=true)(h2:decide (x=2)=false):decide (x=3)=true:=by
 rw [h2,Bool.false_or] at h
 exact h
theorem ayX{x:Int}(h:(decide (x=2)||decide (x=3))=false):decide (x=2)=false:=(Bool.or_eq_false_iff.1 h).1
theorem ayY{x:Int}(h:(decide (x=2)||decide (x=3))=false):decide (x=3)=false:=(Bool.or_eq_false_iff.1 h).2
theorem WA{P:Program}{C:qT}{n:Nat}{s:AS}{o:Oper}{T E sz by_:Nat}{x y:Operand}{es1 es2 es3:Z (Z Tr)}{cs:Z PV}{p:PV}{len:Nat}(ho:o.op= .call { callee:= .builtin .append,args:= #[x,y],argTypes:= #[T,T] })(hd:bL o.dst n=true)
 (hx:s.ev x=some (.lit sz es1)) (hy:s.ev y=some p) (hp:mK p=some (sz,es2)) (h1: ∀e∈es1,e.length=sz) (h2: ∀e∈es2,e.length=sz) (hne:es2≠ []) (hsz:0<sz)
 (hT:elemOf? P T=some (E,sz,by_)) (hz:(P.info? E).bind (fun i=>i.zero.map (fun z=>z.cells.size))=some sz) (hb:0<by_) (hlen:(es1.length+es2.length)*by_≤140737488355328) (h3:es1++es2=es3) (hcs:es3.flatten.map PV.t=cs) (hl:es1.length+es2.length=len):
 cX P C n o s ((⟨s.env,s.st.addBox ⟨E,cs⟩⟩:AS).putO o.dst (.gsl s.st.boxes.length len)):=X3 ho hd hx hy hp h1 h2 hne hsz hT hz hb hlen (by rw [h3];exact hcs) hl
section
variable {P:Program} {C:qT} {n:Nat} {s:AS} {Q:Exit→AS→Prop}
abbrev LB:=Z Y
theorem qW{id:Nat}{l:Z Oper}{y:Code}(h:AL P C n l.toArray l (abU (dR P C n y Q) Q) s):dR P C n (.seq (.region id l.toArray false) y) Q s:=qS (qR h)
theorem qZ{ops:Array Oper}(h:Q .ret s):AL P C n ops [] (abU (dR P C n .ret Q) Q) s:=qN (dR.ret h)
theorem rAd{o:Oper}{T yT:TypeId}{x y:Operand}{a b:Int}(c:Nat)(ho:o.op= .binOp .add T x y yT:=by exact rfl)(hd:bL o.dst n=true:=by exact rfl)(hx:s.ev x=some (.t (.leaf (.int .i64 a))):=by exact rfl)(hy:s.ev y=some (.t (.leaf (.int .i64 b))):=by exact rfl)(hc:a+b=((c:Nat):Int):=by omega)(hb: -9223372036854775808≤((c:Nat):Int)∧((c:Nat):Int)≤9223372036854775807:=by omega):cX P C n o s (s.putO o.dst (.t (.leaf (.int .i64 ((c:Nat):Int))))):=zT ho hd hx hy hc hb
theorem Y2{k sz:Nat}{bx:dO}{es es':Z (Z Tr)}{s':AS}(heq:es=es')(hb:s.st.boxes[k]?=some (some bx))(hc:tN bx.cells (es.flatten.map PV.t))(hes: ∀e∈es,e.length=sz)(hm:es.length≤16777216:=by exact Nat.le_of_ble_eq_true rfl)(hbox:abZ k sz es' s'.st s.st.boxes s'.st.boxes:=by repeat' (first|exact trivial|refine⟨⟨rfl,atE,rfl⟩,?_⟩))(hnone:s'.st.boxes[k]?=some none:=by exact rfl)(hr:s'.st.rows=s.st.rows:=by exact rfl)(hp:kT C.st s'.st:=by exact RS)(he:alZ k sz es' s s'.st s'.env:=by repeat' (first|exact trivial|refine⟨⟨_,rfl,atE,rfl⟩,?_⟩)):Wk C n s s':=YO heq hb hc hes hm hbox hnone hr hp he
theorem WT{o:Oper}{f:FuncId}{fn:Func}{xs:Z Operand}{ts:Array TypeId}{ps qs:Z PV}{B:Z (J dO)}{E:TypeId}{sz:Nat}{es:Z (Z Tr)}{R:Nat→PV}{S:dL}(hf:P.funcs[f]?=some fn)(hR: ∀k k',Mv sz es k k' (R k) (R k'))(hc:xF P f qs ⟨[],[]⟩ B E sz es R)(ho:o.op= .call { callee:= .value (.func f),args:=⟨xs⟩,argTypes:=ts }:=by exact rfl)(hd:bL o.dst n=true:=by exact rfl)(hnm:(fn.name== "runtime.NumGoroutine")=false:=by kernel_rfl)(hb:fn.body.isNone=false:=by exact rfl)(hx:xs.map s.ev=ps.map some:=by exact rfl)(hS:s.st=S:=by exact rfl)(hle:tN ps (B4 [] [] qs):=by exact mG)(hok:mJ ⟨[],[]⟩ qs=true:=by exact rfl)(hbl:B.length=(⟨[],[]⟩:dL).boxes.length:=by exact rfl)(hfree:pY B=true:=by exact rfl):cX P C n o s ((⟨s.env,⟨(S.over ⟨B,[]⟩ [] []).boxes,S.rows++ [⟨E,sz,es,false⟩]⟩⟩:AS).putO o.dst (R S.rows.length)):=nV (pre:=⟨[],[]⟩) [] ho hd hf hnm hb hx hS (lM.of trivial trivial (by decide) (by decide)) rfl hle hok hbl hfree hR hc
end
theorem qJ{β:Type}{m:Option β}{r:β}{P:Program}{f:FuncId}{fn:Func}{c:Code}{args:List PV}{pre:dL}{R:PV→dL→Prop}(hf:P.funcs[f]?=some fn)(H:m=some r)(h: ∀C:qT,C.st=pre→Hd m (fun v=>v=r)→dR P C fn.ntmps c (D1 P C fn.ntmps fn R) ⟨J7 0 args,pre⟩)(hb:fn.body=some c:=by exact rfl)(hn:args.length≤fn.ntmps:=by first|decide|(simp;done)|(simp;decide)):cM P f args pre R:=qI hf (fun C hC=>h C hC (hd0 H)) hb hn
section
variable {P:Program} {C:qT} {n:Nat} {o:Oper}
theorem ar9{a:Act}{K1 K:Act→World→Prop}{Q:Exit→Act→World→Prop}(hv: ∀v w',K1 (a.put o.dst v) w'→K (a.put o.dst v) w')
 (hd: ∀d w',K1 (({ a with defers:=d::a.defers }:Act).put o.dst undef) w'→K (({ a with defers:=d::a.defers }:Act).put o.dst undef) w'): ∀r,o.upon P a K1 Q r→o.upon P a K Q r:=by
 intro r h
 cases r with
 |ok x w'=>
  cases x with
  |value v=>exact hv v w' h
  |skip=>exact hv undef w' h
  |defer d=>exact hd d w' h
  |enter f args=>
   refine Calls.mono h fun e w'' he=>?_
   cases e with
   |returned v=>exact hv v w'' he
   |panicked c=>exact he
   |outgrown=>exact he
  |row r args=>exact Rows.mono h fun v w'' he=>hv v w'' he
  |_=>exact h
 |halt x w'=>
  cases x with
  |panic v=>exact h
  |_=>exact h
theorem af5(s:AS)(d:Nat)(p:PV)(i:Nat):(s.putO (some d) p).lk i=if i=d then some p else s.lk i:=CE s d i p
theorem cX.frame{E:Z (Nat×PV)}{st st1:dL}{p:PV}{s':AS}(h: ∀C',cX P C' n o ⟨E,st⟩ ((⟨E,st1⟩:AS).putO o.dst p))(hst:s'.st=st)(hl: ∀t q,E.lookup t=some q→s'.lk t=some q):
 cX P C n o s' ((⟨s'.env,st1⟩:AS).putO o.dst p):=fun m a w hr K Q hK=>by
 subst hst
 have hr':RA ⟨C.av,s'.st,m,w⟩ n ⟨E,s'.st⟩ m a w:=⟨hr.dfr,hr.tsz,hr.sto,fun i q hq=>hr.env i q (hl i q hq),Ev.refl _ _ _⟩
 have h1:=h ⟨C.av,s'.st,m,w⟩ m a w hr' (fun a' w'=> ∃m',RA ⟨C.av,s'.st,m,w⟩ n ((⟨E,st1⟩:AS).putO o.dst p) m' a' w') Q (fun m' a' w' h=>⟨m',h⟩)
 unfold Oper.wp at h1 ⊢
 refine ar9 (fun v w'=>?_) (fun d w'=>?_) _ h1
 ·rintro⟨m',h2⟩
  refine hK m' _ w' ?_
  have key: ∀(dst:J Nat),dst=o.dst→RA C n ((⟨s'.env,st1⟩:AS).putO dst p) m' (a.put dst v) w':=fun dst hdst=>by
   rw [← hdst] at h2
   cases dst with
   |none=>
    have hE:Ev s'.st m w st1 m' w':=h2.ev
    exact⟨h2.dfr,h2.tsz,h2.sto,fun i q hq=>by
     obtain⟨v',hv',hrv⟩:=hr.env i q hq
     exact⟨v',hv',RV.mono hE q v' hrv⟩,hr.ev.trans hE⟩
   |some d=>
    have hE:Ev s'.st m w st1 m' w':=h2.ev
    refine⟨h2.dfr,h2.tsz,h2.sto,fun i q hq=>?_,hr.ev.trans hE⟩
    rw [af5] at hq
    by_cases hi:i=d
    ·rw [if_pos hi] at hq
     cases hq
     exact h2.env i _ (by rw [af5,if_pos hi])
    ·rw [if_neg hi] at hq
     obtain⟨v',hv',hrv⟩:=hr.env i q hq
     exact⟨v',by simp only [Act.put];rw [Array.getElem?_setIfInBounds_ne (fun e=>hi e.symm)];exact hv',RV.mono hE q v' hrv⟩
  exact key o.dst rfl
 ·rintro⟨m',h2⟩
  have h3:=h2.dfr
  have h4:(({ a with defers:=d::a.defers }:Act).put o.dst undef).defers=d::a.defers:=by
   cases o.dst<;>rfl
  rw [h4] at h3
  cases h3
theorem X6{E:Z (Nat×PV)}{st st1:dL}{s':AS}(hn:o.dst=none)(h: ∀C',cX P C' n o ⟨E,st⟩ ⟨E,st1⟩)(hst:s'.st=st)(hl: ∀t q,E.lookup t=some q→s'.lk t=some q):
 cX P C n o s' ⟨s'.env,st1⟩:=by
 have:=cX.frame (C:=C) (P:=P) (n:=n) (o:=o) (p:= .nil) (E:=E) (st:=st) (st1:=st1) (s':=s') (by rw [hn];exact h) hst hl
 rw [hn] at this
 exact this
structure DD where
 outs:List (Option PV)
 ks:List (Option DK)
 ins:List (List Nat)
 effs:List Nat
 fs:List (Option dO→dL)
 rds:List ((Nat×Nat)×Nat×Option (Option dO))
 az:Option (Nat×dO)
def DD.cz(g:DD):J dO:=g.az.map (·.2)
def ab:J dO→dL→dL
 |none,st=>st
 |some z,st=>st.addBox z
def OR:dL:=⟨[],[⟨0,0,[],false⟩]⟩
def tw(st:dL):J dO→dL
 |none=>OR
 |some _=>st
theorem au1{C:qT}{n:Nat}{env:Z (Nat×PV)}{m:kQ}{a:Act}{w:World}(h:RA C n ⟨env,OR⟩ m a w):False:=by
 have:=(h.sto.row 0 ⟨0,0,[],false⟩ rfl).1
 exact absurd this (by decide)
theorem ae0{P:Program}{C:qT}{n:Nat}{o:Oper}{s s1:AS}(hs:s.st=OR):cX P C n o s s1:=fun m a w hr K Q hK=>by
 obtain⟨env,st⟩:=s
 cases hs
 exact(au1 hr).elim
theorem cX.away{P:Program}{C:qT}{n:Nat}{o:Oper}{s s1:AS}{t k off:Nat}(hl:s.lk t=some (.ptr k off))(hk:s.st.boxes[k]?=none):cX P C n o s s1:=fun m a w hr K Q hK=>by
 obtain⟨v,-,⟨x,hx⟩,-⟩:=hr.env t _ hl
 rw [hk] at hx
 cases hx
def rs(s:AS):Z Nat→Z (Nat×PV)
 | []=> []
 |t::ts=>match s.lk t with
  |some p=>(t,p)::rs s ts
  |none=>rs s ts
theorem apN{s:AS}{t:Nat}{q:PV}: ∀ {I:Z Nat},(rs s I).lookup t=some q→t∈I∧s.lk t=some q
 | [],h=>by cases h
 |x::I,h=>by
  unfold rs at h
  cases hx:s.lk x with
  |none=>
   rw [hx] at h
   obtain⟨h1,h2⟩:=apN (I:=I) h
   exact⟨.tail _ h1,h2⟩
  |some p=>
   rw [hx] at h
   dsimp only at h
   rw [List.lookup_cons] at h
   by_cases htx:t=x
   ·subst htx
    simp only [BEq.rfl] at h
    cases h
    exact⟨.head _,hx⟩
   ·rw [show(t==x)=false by simp [htx]] at h
    obtain⟨h1,h2⟩:=apN (I:=I) h
    exact⟨.tail _ h1,h2⟩
def ae6(l:Z Oper)(e0:Z (Nat×PV))(outs:Z (J PV))(i t:Nat)(p:PV):Prop:=
 (∃(j:Nat) (o:Oper),j<i∧l[j]?=some o∧o.dst=some t∧outs[j]?=some (some p))∨(e0.lookup t=some p∧ ∀(j:Nat) (o:Oper),j<i→l[j]?=some o→o.dst≠some t)
inductive WD (l:List Oper) (e0:List (Nat×PV)) (outs:List (Option PV)) (i:Nat) (o:Oper):Bool→Prop
 |n:o.guard=none→WD l e0 outs i o true
 |y {j d:Nat} {b c:Bool}:o.guard=some (j,c)→(l[j]?).bind (·.dst)=some d→ae6 l e0 outs i d (.t (.leaf (.bool b)))→WD l e0 outs i o (b==c)
 |u {j d:Nat} {c:Bool}:o.guard=some (j,c)→(l[j]?).bind (·.dst)=some d→ae6 l e0 outs i d (.tup [])→WD l e0 outs i o false
inductive WS (l:List Oper) (s:AS) (o:Oper):Bool→Prop
 |n:o.guard=none→WS l s o true
 |y {j d:Nat} {b c:Bool}:o.guard=some (j,c)→(l[j]?).bind (·.dst)=some d→s.lk d=some (.t (.leaf (.bool b)))→WS l s o (b==c)
 |u {j d:Nat} {c:Bool}:o.guard=some (j,c)→(l[j]?).bind (·.dst)=some d→s.lk d=some (.tup [])→WS l s o false
inductive VI (P:Program) (n N:Nat) (md:Bool) (g:DD) (i:Nat) (o:Oper) (E:List (Nat×PV)):Prop
 |q {p:PV}:g.ks[i]?=some none→g.outs[i]?=some (some p)→(∀C' st,cX P C' n o ⟨E,st⟩ ((⟨E,st⟩:AS).putO o.dst p))→VI P n N md g i o E
 |r {lo hi k:Nat} {X:Option (Option dO)} {p:PV}:g.ks[i]?=some (some (.q lo hi))→g.outs[i]?=some (some p)→((lo,hi),k,X)∈g.rds→(md=true→k<N)→(∀C' (st:dL),st.boxes[k]?=X→cX P C' n o ⟨E,st⟩ ((⟨E,st⟩:AS).putO o.dst p))→VI P n N md g i o E
 |c {j:Nat} {f:Option dO→dL} {p:PV}:g.ks[i]?=some (some (.q j j))→g.outs[i]?=some (some p)→g.fs[j]?=some f→(∀C' z,cX P C' n o ⟨E,f z⟩ ((⟨E,f z⟩:AS).putO o.dst p))→VI P n N md g i o E
 |e {j:Nat} {f f1:Option dO→dL} {p:PV}:g.ks[i]?=some (some (.ef j))→g.outs[i]?=some (some p)→g.fs[j]?=some f→g.fs[j+1]?=some f1→(∀C' z,cX P C' n o ⟨E,f z⟩ ((⟨E,f1 z⟩:AS).putO o.dst p))→VI P n N md g i o E
 |e0 {j:Nat} {f f1:Option dO→dL}:g.ks[i]?=some (some (.ef j))→o.dst=none→g.fs[j]?=some f→g.fs[j+1]?=some f1→(∀C' z,cX P C' n o ⟨E,f z⟩ ⟨E,f1 z⟩)→VI P n N md g i o E
 |ea {j a t off:Nat} {zb:dO} {f f1:Option dO→dL}:g.az=some (a,zb)→g.ks[i]?=some (some (.ef j))→o.dst=none→g.fs[j]?=some f→g.fs[j+1]?=some f1→E.lookup t=some (.ptr N off)→(f none=OR∨(f none).boxes.length=N)→(∀C',cX P C' n o ⟨E,f (some zb)⟩ ⟨E,f1 (some zb)⟩)→VI P n N md g i o E
 |al {zb:dO}:md=true→g.az=some (i,zb)→g.ks[i]?=some (some .al)→g.outs[i]?=some (some (.ptr N 0))→(∀C' st,st.boxes.length=N→cX P C' n o ⟨[],st⟩ ((⟨[],st.addBox zb⟩:AS).putO o.dst (.ptr N 0)))→VI P n N md g i o E
inductive YA (P:Program) (n N:Nat) (md:Bool) (l:List Oper) (e0:List (Nat×PV)) (g:DD) (i:Nat) (o:Oper):Prop
 |does {E:List (Nat×PV)} {I:List Nat}:WD l e0 g.outs i o true→g.ins[i]?=some I→(∀t q,E.lookup t=some q→t∈I∧ae6 l e0 g.outs i t q)→VI P n N md g i o E→YA P n N md l e0 g i o
 |skip:WD l e0 g.outs i o false→g.ks[i]?=some none→g.outs[i]?=some (some (.tup []))→bL o.dst n=true→YA P n N md l e0 g i o
structure DD.le (g g':DD):Prop where
 outs: ∀(i:Nat) (x:Option PV),g.outs[i]?=some x→g'.outs[i]?=some x
 ks: ∀(i:Nat) (x:Option DK),g.ks[i]?=some x→g'.ks[i]?=some x
 ins: ∀(i:Nat) (x:List Nat),g.ins[i]?=some x→g'.ins[i]?=some x
 fs: ∀(i:Nat) (x:Option dO→dL),g.fs[i]?=some x→g'.fs[i]?=some x
 rds: ∀x∈g.rds,x∈g'.rds
 az: ∀x,g.az=some x→g'.az=some x
theorem U9{g g':DD}(h:g.le g'){l:Z Oper}{e0:Z (Nat×PV)}{i t:Nat}{p:PV}(k:ae6 l e0 g.outs i t p):ae6 l e0 g'.outs i t p:=by
 rcases k with⟨j,o,h1,h2,h3,h4⟩|k
 ·exact .inl ⟨j,o,h1,h2,h3,h.outs _ _ h4⟩
 ·exact .inr k
theorem apU{g g':DD}(h:g.le g'){l:Z Oper}{e0:Z (Nat×PV)}{i:Nat}{o:Oper}{b:Bool}(k:WD l e0 g.outs i o b):WD l e0 g'.outs i o b:=by
 cases k with
 |n a=>exact .n a
 |y a b c=>exact .y a b (U9 h c)
 |u a b c=>exact .u a b (U9 h c)
theorem YA.mono{N:Nat}{md:Bool}{l:Z Oper}{e0:Z (Nat×PV)}{g g':DD}{i:Nat}{o:Oper}(h:g.le g')(k:YA P n N md l e0 g i o):YA P n N md l e0 g' i o:=by
 cases k with
 |does h1 h2 h3 h4=>
  refine .does (apU h h1) (h.ins _ _ h2) (fun t q ht=>⟨(h3 t q ht).1,U9 h (h3 t q ht).2⟩) ?_
  cases h4 with
  |q a b c=>exact .q (h.ks _ _ a) (h.outs _ _ b) c
  |r a b c d e=>exact .r (h.ks _ _ a) (h.outs _ _ b) (h.rds _ c) d e
  |c a b c d=>exact .c (h.ks _ _ a) (h.outs _ _ b) (h.fs _ _ c) d
  |e a b c d e=>exact .e (h.ks _ _ a) (h.outs _ _ b) (h.fs _ _ c) (h.fs _ _ d) e
  |e0 a b c d e=>exact .e0 (h.ks _ _ a) b (h.fs _ _ c) (h.fs _ _ d) e
  |ea z a b c d e f q=>exact .ea (h.az _ z) (h.ks _ _ a) b (h.fs _ _ c) (h.fs _ _ d) e f q
  |al md z a b c=>exact .al md (h.az _ z) (h.ks _ _ a) (h.outs _ _ b) c
 |skip h1 h2 h3 h4=>exact .skip (apU h h1) (h.ks _ _ h2) (h.outs _ _ h3) h4
structure ap2 (P:Program) (n:Nat) (md:Bool) (l:List Oper) (s0:AS) (g:DD) (s:AS):Prop where
 hs0: ∃f,g.fs[0]?=some f∧f none=s0.st
 hfl:g.fs.length=g.effs.length+1
 hlast: ∃f,g.fs[g.effs.length]?=some f∧f g.cz=s.st∧(md=false→f=fun _=>s.st)∧(md=true→g.az=none→f=fun z=>ab z s.st)
 hk:g.ks.length=g.outs.length
 hi:g.ins.length=g.outs.length
 hz:md=true→ ∀f∈g.fs,f none=OR∨((f none).boxes.length=s0.st.boxes.length∧ ∀z,f (some z)=(f none).addBox z)
 hm:md=false→g.az=none
 hlk: ∀t p,s.lk t=some p→ae6 l s0.env g.outs g.outs.length t p
 hf: ∀(i:Nat) (o:Oper),l[i]?=some o→i<g.outs.length→YA P n s0.st.boxes.length md l s0.env g i o
def DW(P:Program)(C:qT)(n id:Nat)(md:Bool)(l:Z Oper)(Q:Exit→AS→Prop)(s0:AS)(g:DD)(s:AS)(rest:Z Oper):Prop:=
 ap2 P n md l s0 g s→l.drop g.outs.length=rest→dR P C n (.region id l.toArray true) Q s0
variable {id:Nat} {l:Z Oper} {Q:Exit→AS→Prop} {s0 s:AS} {g:DD} {rest:Z Oper} {md:Bool}
theorem dW(h:DW P C n id false l Q s ⟨[],[],[],[],[fun _=>s.st],[],none⟩ s l):dR P C n (.region id l.toArray true) Q s:=
 h ⟨⟨_,rfl,rfl⟩,rfl,⟨_,rfl,rfl,fun _=>rfl,fun h=>(by cases h)⟩,rfl,rfl,fun h=>(by cases h),fun _=>rfl,fun t p ht=> .inr ⟨ht,fun j o hj=>(by cases hj)⟩,fun i o _ hi=>(by cases hi)⟩ rfl
theorem dWa(h:DW P C n id true l Q s ⟨[],[],[],[],[fun z=>ab z s.st],[],none⟩ s l):dR P C n (.region id l.toArray true) Q s:=
 h ⟨⟨_,rfl,rfl⟩,rfl,⟨_,rfl,rfl,fun h=>(by cases h),fun _ _=>rfl⟩,rfl,rfl,fun _ f hf=>(by obtain rfl:=List.mem_singleton.1 hf;exact .inr ⟨rfl,fun z=>rfl⟩),fun h=>(by cases h),fun t p ht=> .inr ⟨ht,fun j o hj=>by cases hj⟩,fun i o _ hi=>by cases hi⟩ rfl
theorem eJ{α:Type}{l:Z α}{y:α}(i:Nat)(x:α)(h:l[i]?=some x):(l++ [y])[i]?=some x:=by
 obtain⟨hi,-⟩:=List.getElem?_eq_some_iff.1 h
 rw [List.getElem?_append_left hi]
 exact h
theorem cG{α:Type}{l:Z α}{y:α}{k:Nat}(h:l.length=k):(l++ [y])[k]?=some y:=by subst h;simp
theorem zE{o:Oper}(h:l.drop g.outs.length=o::rest):l[g.outs.length]?=some o∧l.drop (g.outs.length+1)=rest:=by
 constructor
 ·have:=congrArg (fun x=>x[0]?) h
  simpa using this
 ·rw [← List.drop_drop,h]
  rfl
theorem ap2.next{g':DD}{s':AS}(hv:ap2 P n md l s0 g s)(ho:l[g.outs.length]?=some o)(hle:g.le g')(h0:g'.outs.length=g.outs.length+1)(hk:g'.ks.length=g.ks.length+1)(hi:g'.ins.length=g.ins.length+1)(hfl:g'.fs.length=g'.effs.length+1)
 (hlast: ∃f,g'.fs[g'.effs.length]?=some f∧f g'.cz=s'.st∧(md=false→f=fun _=>s'.st)∧(md=true→g'.az=none→f=fun z=>ab z s'.st)) (hz:md=true→ ∀f∈g'.fs,f none=OR∨((f none).boxes.length=s0.st.boxes.length∧ ∀z,f (some z)=(f none).addBox z)) (hm:md=false→g'.az=none)
 (hlk: ∀t p,s'.lk t=some p→(o.dst=some t∧g'.outs[g.outs.length]?=some (some p))∨(o.dst≠some t∧s.lk t=some p)) (hf:YA P n s0.st.boxes.length md l s0.env g' g.outs.length o):ap2 P n md l s0 g' s' where
 hs0:=by obtain⟨f,h1,h2⟩:=hv.hs0;exact⟨f,hle.fs _ _ h1,h2⟩
 hfl:=hfl
 hlast:=hlast
 hk:=by rw [hk,h0,hv.hk]
 hi:=by rw [hi,h0,hv.hi]
 hz:=hz
 hm:=hm
 hlk:=fun t p ht=>by
  rcases hlk t p ht with⟨h1,h2⟩|⟨h1,h2⟩
  ·exact .inl ⟨_,o,by omega,ho,h1,h2⟩
  ·rcases hv.hlk t p h2 with⟨j,oj,a,b,c,d⟩|⟨a,b⟩
   ·exact .inl ⟨j,oj,by omega,b,c,hle.outs _ _ d⟩
   ·refine .inr ⟨a,fun j oj hj hoj=>?_⟩
    rcases Nat.lt_or_ge j g.outs.length with hlt|hge
    ·exact b j oj hlt hoj
    ·obtain rfl:j=g.outs.length:=by omega
     rw [ho] at hoj
     cases hoj
     exact h1
 hf:=fun i oi hoi hi'=>by
  rcases Nat.lt_or_ge i g.outs.length with hlt|hge
  ·exact(hv.hf i oi hoi hlt).mono hle
  ·obtain rfl:i=g.outs.length:=by omega
   rw [ho] at hoi
   cases hoi
   exact hf
theorem EH{st1:dL}{p:PV}(t:Nat)(q:PV)(outs:Z (J PV))(k:Nat)(hk:outs[k]?=some (some p))(h:((⟨s.env,st1⟩:AS).putO o.dst p).lk t=some q):(o.dst=some t∧outs[k]?=some (some q))∨(o.dst≠some t∧s.lk t=some q):=by
 cases hd:o.dst with
 |none=>rw [hd] at h;exact .inr ⟨by simp,h⟩
 |some d=>
  rw [hd,af5] at h
  by_cases htd:t=d
  ·rw [if_pos htd] at h
   cases h
   exact .inl ⟨by rw [htd],hk⟩
  ·rw [if_neg htd] at h
   exact .inr ⟨fun e=>htd (Option.some.inj e).symm,h⟩
theorem E7(s:AS)(d:J Nat)(p:PV):(s.putO d p).st=s.st:=by cases d<;>rfl
theorem WS.wd{g':DD}{b:Bool}(h:WS l s o b)(hv:ap2 P n md l s0 g s)(hle:g.le g'):WD l s0.env g'.outs g.outs.length o b:=by
 cases h with
 |n a=>exact .n a
 |y a b c=>exact .y a b (U9 hle (hv.hlk _ _ c))
 |u a b c=>exact .u a b (U9 hle (hv.hlk _ _ c))
theorem KU{g':DD}(hv:ap2 P n md l s0 g s)(hle:g.le g')(I:Z Nat): ∀t q,(rs s I).lookup t=some q→t∈I∧ae6 l s0.env g'.outs g.outs.length t q:=fun t q h=>⟨(apN h).1,U9 hle (hv.hlk t q (apN h).2)⟩
theorem dI(I:Z Nat){p:PV}(h: ∀ {C':qT} {st:dL},cX P C' n o ⟨rs s I,st⟩ ((⟨rs s I,st⟩:AS).putO o.dst p))(k:DW P C n id md l Q s0 ⟨g.outs++ [some p],g.ks++ [none],g.ins++ [I],g.effs,g.fs,g.rds,g.az⟩ (s.putO o.dst p) rest)(hg:WS l s o true:=by exact .n rfl):
 DW P C n id md l Q s0 g s (o::rest):=fun hv hr=>by
 obtain⟨ho,hd⟩:=zE hr
 have hle:g.le ⟨g.outs++ [some p],g.ks++ [none],g.ins++ [I],g.effs,g.fs,g.rds,g.az⟩:=⟨eJ,eJ,eJ,fun _ _ h=>h,fun _ h=>h,fun _ h=>h⟩
 refine k (hv.next ho hle (by simp) (by simp) (by simp) hv.hfl (by rw [E7];exact hv.hlast) hv.hz hv.hm (fun t q hq=>EH t q _ _ (cG rfl) hq) ?_) (by simpa using hd)
 exact .does (hg.wd hv hle) (cG hv.hi) (KU hv hle I) (.q (cG hv.hk) (cG rfl) fun _ _=>h)
theorem dD(I:Z Nat){p:PV}(h: ∀ {C':qT},cX P C' n o ⟨rs s I,s.st⟩ ((⟨rs s I,s.st⟩:AS).putO o.dst p))(k:DW P C n id false l Q s0 ⟨g.outs++ [some p],g.ks++ [some (.q g.effs.length g.effs.length)],g.ins++ [I],g.effs,g.fs,g.rds,g.az⟩ (s.putO o.dst p) rest)(hg:WS l s o true:=by exact .n rfl):
 DW P C n id false l Q s0 g s (o::rest):=fun hv hr=>by
 obtain⟨ho,hd⟩:=zE hr
 obtain⟨f,q1,-,q2,-⟩:=hv.hlast
 have q2:=q2 rfl
 subst q2
 have hle:g.le ⟨g.outs++ [some p],g.ks++ [some (.q g.effs.length g.effs.length)],g.ins++ [I],g.effs,g.fs,g.rds,g.az⟩:=⟨eJ,eJ,eJ,fun _ _ h=>h,fun _ h=>h,fun _ h=>h⟩
 refine k (hv.next ho hle (by simp) (by simp) (by simp) hv.hfl (by rw [E7];exact hv.hlast) hv.hz hv.hm (fun t q hq=>EH t q _ _ (cG rfl) hq) ?_) (by simpa using hd)
 exact .does (hg.wd hv hle) (cG hv.hi) (KU hv hle I) (.c (cG hv.hk) (cG rfl) q1 fun _ _=>h)
def aqH(P:Program)(n:Nat)(o:Oper)(s:AS)(I:Z Nat)(kb:Nat)(X:J (J dO))(p:PV):Prop:= ∀C' (st:dL),st.boxes[kb]?=X→cX P C' n o ⟨rs s I,st⟩ ((⟨rs s I,st⟩:AS).putO o.dst p)
theorem dB(I:Z Nat)(lo hi:Nat){kb:Nat}{X:J (J dO)}{p:PV}(h:aqH P n o s I kb X p)(k:DW P C n id false l Q s0 ⟨g.outs++ [some p],g.ks++ [some (.q lo hi)],g.ins++ [I],g.effs,g.fs,g.rds++ [((lo,hi),kb,X)],g.az⟩ (s.putO o.dst p) rest)(hg:WS l s o true:=by exact .n rfl):
 DW P C n id false l Q s0 g s (o::rest):=fun hv hr=>by
 obtain⟨ho,hd⟩:=zE hr
 have hle:g.le ⟨g.outs++ [some p],g.ks++ [some (.q lo hi)],g.ins++ [I],g.effs,g.fs,g.rds++ [((lo,hi),kb,X)],g.az⟩:=⟨eJ,eJ,eJ,fun _ _ h=>h,fun _ h=>List.mem_append_left _ h,fun _ h=>h⟩
 refine k (hv.next ho hle (by simp) (by simp) (by simp) hv.hfl (by rw [E7];exact hv.hlast) hv.hz hv.hm (fun t q hq=>EH t q _ _ (cG rfl) hq) ?_) (by simpa using hd)
 exact .does (hg.wd hv hle) (cG hv.hi) (KU hv hle I) (.r (cG hv.hk) (cG rfl) (by simp) (fun h=>by cases h) h)
theorem dBz(I:Z Nat)(lo hi:Nat){kb:Nat}{X:J (J dO)}{p:PV}(h:aqH P n o s I kb X p)(k:DW P C n id true l Q s0 ⟨g.outs++ [some p],g.ks++ [some (.q lo hi)],g.ins++ [I],g.effs,g.fs,g.rds++ [((lo,hi),kb,X)],g.az⟩ (s.putO o.dst p) rest)(hg:WS l s o true:=by exact .n rfl)(hkN:(decide (kb<s0.st.boxes.length))=true:=by exact rfl):
 DW P C n id true l Q s0 g s (o::rest):=fun hv hr=>by
 obtain⟨ho,hd⟩:=zE hr
 have hle:g.le ⟨g.outs++ [some p],g.ks++ [some (.q lo hi)],g.ins++ [I],g.effs,g.fs,g.rds++ [((lo,hi),kb,X)],g.az⟩:=⟨eJ,eJ,eJ,fun _ _ h=>h,fun _ h=>List.mem_append_left _ h,fun _ h=>h⟩
 refine k (hv.next ho hle (by simp) (by simp) (by simp) hv.hfl (by rw [E7];exact hv.hlast) hv.hz hv.hm (fun t q hq=>EH t q _ _ (cG rfl) hq) ?_) (by simpa using hd)
 exact .does (hg.wd hv hle) (cG hv.hi) (KU hv hle I) (.r (cG hv.hk) (cG rfl) (by simp) (fun _=>of_decide_eq_true hkN) h)
theorem vL1{I:Z Nat}{T:TypeId}{x:Operand}{kb d z:Nat}{bx:dO}{p:PV}(hT:kA P T=some (false,z))
 (ho:o.op= .load T x:=by exact rfl) (hd:bL o.dst n=true:=by exact rfl) (hx:(⟨rs s I,s.st⟩:AS).ev x=some (.ptr kb d):=by exact rfl) (hb:s.st.boxes[kb]?=some (some bx):=by exact rfl) (hc:bx.cells[d]?=some p:=by exact rfl):aqH P n o s I kb (some (some bx)) p:=
 fun C' st hst=>QF ho hd (by cases x<;>exact hx) hst hT hc
theorem vLp{I:Z Nat}{T:TypeId}{x:Operand}{kb d z:Nat}{bx:dO}(cs:Z PV)(hT:kA P T=some (true,z))
 (ho:o.op= .load T x:=by exact rfl) (hd:bL o.dst n=true:=by exact rfl) (hx:(⟨rs s I,s.st⟩:AS).ev x=some (.ptr kb d):=by exact rfl) (hb:s.st.boxes[kb]?=some (some bx):=by exact rfl) (hc:(bx.cells.drop d).take z=cs:=by exact rfl) (hl:cs.length=z:=by exact rfl):aqH P n o s I kb (some (some bx)) (.agg cs):=
 fun C' st hst=>VF ho hd (by cases x<;>exact hx) hst hT hc hl
theorem dE(I:Z Nat){p:PV}{st1:dL}(h: ∀ {C':qT},cX P C' n o ⟨rs s I,s.st⟩ ((⟨rs s I,st1⟩:AS).putO o.dst p))(k:DW P C n id false l Q s0 ⟨g.outs++ [some p],g.ks++ [some (.ef g.effs.length)],g.ins++ [I],g.effs++ [g.outs.length],g.fs++ [fun _=>st1],g.rds,g.az⟩ ((⟨s.env,st1⟩:AS).putO o.dst p) rest)(hg:WS l s o true:=by exact .n rfl):
 DW P C n id false l Q s0 g s (o::rest):=fun hv hr=>by
 obtain⟨ho,hd⟩:=zE hr
 obtain⟨f,q1,-,q2,-⟩:=hv.hlast
 have q2:=q2 rfl
 subst q2
 have hle:g.le ⟨g.outs++ [some p],g.ks++ [some (.ef g.effs.length)],g.ins++ [I],g.effs++ [g.outs.length],g.fs++ [fun _=>st1],g.rds,g.az⟩:=⟨eJ,eJ,eJ,eJ,fun _ h=>h,fun _ h=>h⟩
 refine k (hv.next ho hle (by simp) (by simp) (by simp) (by simp [hv.hfl]) (by rw [E7];exact⟨_,cG (by simp [hv.hfl]),rfl,fun _=>rfl,fun h=>by cases h⟩) (fun h=>by cases h) hv.hm (fun t q hq=>EH t q _ _ (cG rfl) hq) ?_) (by simpa using hd)
 exact .does (hg.wd hv hle) (cG hv.hi) (KU hv hle I) (.e (cG hv.hk) (cG rfl) (hle.fs _ _ q1) (cG hv.hfl) fun _ _=>h)
theorem iW(I:Z Nat){st1:dL}(h: ∀ {C':qT},cX P C' n o ⟨rs s I,s.st⟩ ⟨rs s I,st1⟩)(k:DW P C n id false l Q s0 ⟨g.outs++ [none],g.ks++ [some (.ef g.effs.length)],g.ins++ [I],g.effs++ [g.outs.length],g.fs++ [fun _=>st1],g.rds,g.az⟩ ⟨s.env,st1⟩ rest)(hn:o.dst=none:=by exact rfl)(hg:WS l s o true:=by exact .n rfl):
 DW P C n id false l Q s0 g s (o::rest):=fun hv hr=>by
 obtain⟨ho,hd⟩:=zE hr
 obtain⟨f,q1,-,q2,-⟩:=hv.hlast
 have q2:=q2 rfl
 subst q2
 have hle:g.le ⟨g.outs++ [none],g.ks++ [some (.ef g.effs.length)],g.ins++ [I],g.effs++ [g.outs.length],g.fs++ [fun _=>st1],g.rds,g.az⟩:=⟨eJ,eJ,eJ,eJ,fun _ h=>h,fun _ h=>h⟩
 refine k (hv.next ho hle (by simp) (by simp) (by simp) (by simp [hv.hfl]) ⟨_,cG (by simp [hv.hfl]),rfl,fun _=>rfl,fun h=>by cases h⟩ (fun h=>by cases h) hv.hm (fun t q hq=> .inr ⟨by rw [hn];simp,hq⟩) ?_) (by simpa using hd)
 exact .does (hg.wd hv hle) (cG hv.hi) (KU hv hle I) (.e0 (cG hv.hk) hn (hle.fs _ _ q1) (cG hv.hfl) fun _ _=>h)
theorem dEz(I:Z Nat){p:PV}{st1:dL}(h: ∀C' z,cX P C' n o ⟨rs s I,ab z s.st⟩ ((⟨rs s I,ab z st1⟩:AS).putO o.dst p))(k:DW P C n id true l Q s0 ⟨g.outs++ [some p],g.ks++ [some (.ef g.effs.length)],g.ins++ [I],g.effs++ [g.outs.length],g.fs++ [fun z=>ab z st1],g.rds,g.az⟩ ((⟨s.env,st1⟩:AS).putO o.dst p) rest)(hg:WS l s o true:=by exact .n rfl)(haz:g.az=none:=by exact rfl)(hlen:st1.boxes.length=s0.st.boxes.length:=by exact rfl):
 DW P C n id true l Q s0 g s (o::rest):=fun hv hr=>by
 obtain⟨ho,hd⟩:=zE hr
 obtain⟨f,q1,-,-,q2⟩:=hv.hlast
 have q2:=q2 rfl haz
 subst q2
 have hcz:g.cz=none:=by unfold DD.cz;rw [haz];rfl
 have hle:g.le ⟨g.outs++ [some p],g.ks++ [some (.ef g.effs.length)],g.ins++ [I],g.effs++ [g.outs.length],g.fs++ [fun z=>ab z st1],g.rds,g.az⟩:=⟨eJ,eJ,eJ,eJ,fun _ h=>h,fun _ h=>h⟩
 refine k (hv.next ho hle (by simp) (by simp) (by simp) (by simp [hv.hfl]) (by rw [E7];exact⟨_,cG (by simp [hv.hfl]),(by show ab g.cz st1=st1;rw [hcz];rfl),fun h=>(by cases h),fun _ _=>rfl⟩) (fun hmd f hf=>(List.mem_append.1 hf).elim (hv.hz hmd f) fun h=>by obtain rfl:=List.mem_singleton.1 h;exact .inr ⟨hlen,fun z=>rfl⟩) hv.hm (fun t q hq=>EH t q _ _ (cG rfl) hq) ?_) (by simpa using hd)
 exact .does (hg.wd hv hle) (cG hv.hi) (KU hv hle I) (.e (cG hv.hk) (cG rfl) (hle.fs _ _ q1) (cG hv.hfl) h)
theorem dA{zb:dO}(h: ∀C' st,st.boxes.length=s0.st.boxes.length→cX P C' n o ⟨[],st⟩ ((⟨[],st.addBox zb⟩:AS).putO o.dst (.ptr s0.st.boxes.length 0)))(k:DW P C n id true l Q s0 ⟨g.outs++ [some (.ptr s0.st.boxes.length 0)],g.ks++ [some .al],g.ins++ [[]],g.effs,g.fs,g.rds,some (g.outs.length,zb)⟩ ((⟨s.env,s.st.addBox zb⟩:AS).putO o.dst (.ptr s0.st.boxes.length 0)) rest)(hg:WS l s o true:=by exact .n rfl)(haz:g.az=none:=by exact rfl):
 DW P C n id true l Q s0 g s (o::rest):=fun hv hr=>by
 obtain⟨ho,hd⟩:=zE hr
 obtain⟨f,q1,-,-,q2⟩:=hv.hlast
 have q2:=q2 rfl haz
 subst q2
 have hle:g.le ⟨g.outs++ [some (.ptr s0.st.boxes.length 0)],g.ks++ [some .al],g.ins++ [[]],g.effs,g.fs,g.rds,some (g.outs.length,zb)⟩:=⟨eJ,eJ,eJ,fun _ _ h=>h,fun _ h=>h,fun x h=>by rw [haz] at h;cases h⟩
 refine k (hv.next ho hle (by simp) (by simp) (by simp) hv.hfl ⟨_,q1,by rw [E7];rfl,fun h=>(by cases h),fun _ h=>by cases h⟩ hv.hz (fun h=>by cases h) (fun t q hq=>EH t q _ _ (cG rfl) hq) ?_) (by simpa using hd)
 exact .does (E:= []) (hg.wd hv hle) (cG hv.hi) (fun t q h=>by cases h) (.al rfl rfl (cG hv.hk) (cG rfl) h)
theorem dZ(t:Nat)(I:Z Nat){off a:Nat}{zb:dO}{st1:dL}(h: ∀ {C':qT},cX P C' n o ⟨rs s I,s.st⟩ ⟨rs s I,st1⟩)(k:DW P C n id true l Q s0 ⟨g.outs++ [none],g.ks++ [some (.ef g.effs.length)],g.ins++ [I],g.effs++ [g.outs.length],g.fs++ [tw st1],g.rds,g.az⟩ ⟨s.env,st1⟩ rest)(hn:o.dst=none:=by exact rfl)(hg:WS l s o true:=by exact .n rfl)(haz:g.az=some (a,zb):=by exact rfl)(hp:(rs s I).lookup t=some (.ptr s0.st.boxes.length off):=by exact rfl):
 DW P C n id true l Q s0 g s (o::rest):=fun hv hr=>by
 obtain⟨ho,hd⟩:=zE hr
 obtain⟨f,q1,q2,-,-⟩:=hv.hlast
 have hcz:g.cz=some zb:=by unfold DD.cz;rw [haz];rfl
 rw [hcz] at q2
 have q3:=hv.hz rfl f (List.mem_iff_getElem?.2 ⟨_,q1⟩)
 have hle:g.le ⟨g.outs++ [none],g.ks++ [some (.ef g.effs.length)],g.ins++ [I],g.effs++ [g.outs.length],g.fs++ [tw st1],g.rds,g.az⟩:=⟨eJ,eJ,eJ,eJ,fun _ h=>h,fun _ h=>h⟩
 refine k (hv.next ho hle (by simp) (by simp) (by simp) (by simp [hv.hfl]) ⟨_,cG (by simp [hv.hfl]),(by show tw st1 g.cz=st1;rw [hcz];rfl),fun h=>(by cases h),fun _ h=>(by rw [show g.az=none from h] at haz;cases haz)⟩ (fun hmd f hf=>(List.mem_append.1 hf).elim (hv.hz hmd f) fun h=>by obtain rfl:=List.mem_singleton.1 h;exact .inl rfl) hv.hm (fun t q hq=> .inr ⟨by rw [hn];simp,hq⟩) ?_) (by simpa using hd)
 exact .does (hg.wd hv hle) (cG hv.hi) (KU hv hle I) (.ea haz (cG hv.hk) hn (hle.fs _ _ q1) (cG hv.hfl) hp (q3.imp (fun x=>x) (·.1)) (by rw [q2];exact fun _=>h))
theorem vAl{T:TypeId}{ps:Z PV}{st:dL}{N:Nat}(hN:st.boxes.length=N)(hz:jN P T=some ps)(ho:o.op= .alloc T:=by exact rfl)(hd:bL o.dst n=true:=by exact rfl):cX P C n o ⟨[],st⟩ ((⟨[],st.addBox ⟨T,ps⟩⟩:AS).putO o.dst (.ptr N 0)):=by
 subst hN
 exact cX.alloc (s:=⟨[],st⟩) ho hd hz
theorem dS(k:DW P C n id md l Q s0 ⟨g.outs++ [some (.tup [])],g.ks++ [none],g.ins++ [[]],g.effs,g.fs,g.rds,g.az⟩ (s.putO o.dst (.tup [])) rest)(hg:WS l s o false)(hd':bL o.dst n=true):
 DW P C n id md l Q s0 g s (o::rest):=fun hv hr=>by
 obtain⟨ho,hd⟩:=zE hr
 have hle:g.le ⟨g.outs++ [some (.tup [])],g.ks++ [none],g.ins++ [[]],g.effs,g.fs,g.rds,g.az⟩:=⟨eJ,eJ,eJ,fun _ _ h=>h,fun _ h=>h,fun _ h=>h⟩
 refine k (hv.next ho hle (by simp) (by simp) (by simp) hv.hfl (by rw [E7];exact hv.hlast) hv.hz hv.hm (fun t q hq=>EH t q _ _ (cG rfl) hq) ?_) (by simpa using hd)
 exact .skip (hg.wd hv hle) (cG hv.hk) (cG rfl) hd'
theorem JV{j d:Nat}{b c e:Bool}(hv:b=e)(k:DW P C n id md l Q s0 ⟨g.outs++ [some (.tup [])],g.ks++ [none],g.ins++ [[]],g.effs,g.fs,g.rds,g.az⟩ (s.putO o.dst (.tup [])) rest)(hg:o.guard=some (j,c):=by exact rfl)(hj:(l[j]?).bind (·.dst)=some d:=by exact rfl)(hb:s.lk d=some (.t (.leaf (.bool b))):=by exact rfl)(hne:(e==c)=false:=by exact rfl)(hd':bL o.dst n=true:=by exact rfl):
 DW P C n id md l Q s0 g s (o::rest):=dS k (by subst hv;have:=WS.y hg hj hb;rwa [hne] at this) hd'
theorem dSu{j d:Nat}{c:Bool}(k:DW P C n id md l Q s0 ⟨g.outs++ [some (.tup [])],g.ks++ [none],g.ins++ [[]],g.effs,g.fs,g.rds,g.az⟩ (s.putO o.dst (.tup [])) rest)(hg:o.guard=some (j,c):=by exact rfl)(hj:(l[j]?).bind (·.dst)=some d:=by exact rfl)(hb:s.lk d=some (.tup []):=by exact rfl)(hd':bL o.dst n=true:=by exact rfl):
 DW P C n id md l Q s0 g s (o::rest):=dS k (.u hg hj hb) hd'
theorem bD{j d:Nat}{b c:Bool}(hv:b=c)(hg:o.guard=some (j,c):=by exact rfl)(hj:(l[j]?).bind (·.dst)=some d:=by exact rfl)(hb:s.lk d=some (.t (.leaf (.bool b))):=by exact rfl):WS l s o true:=by
 subst hv
 have:=WS.y hg hj hb
 rwa [BEq.rfl] at this
theorem as4{ops:Array Oper}(h: ∀i o,ops[i]?=some o→ ∀e∈o.after,Region.binds .any e=true→e.on<i): ∀(fuel i j:Nat),VL ops fuel i j=true→i<j
 |0,_,_,h'=>by simp [VL] at h'
 |fuel+1,i,j,h'=>by
  simp only [VL] at h'
  split at h'
  ·rename_i o ho
   rw [List.any_eq_true] at h'
   obtain⟨e,he,h'⟩:=h'
   simp only [Bool.and_eq_true,Bool.or_eq_true,beq_iff_eq] at h'
   have h1:=h j o ho e (by simpa using he) h'.1
   rcases h'.2 with h2|h2
   ·omega
   ·have:=as4 h fuel i e.on h2
    omega
  ·cases h'
def abO(l:Z Oper)(i t:Nat):J Nat:=match sC l.toArray t with
 |some j=>if j<i then some j else none
 |none=>none
def DD.draw(g:DD)(l:Z Oper)(s0:AS):kZ where
 ops:=l.toArray
 env0:=s0.env
 F:=fun j b=>match g.fs[j]? with
  |some f=>f (bif b then g.cz else none)
  |none=>ab (bif b then g.cz else none) s0.st
 out:=fun i=>(g.outs[i]?).getD none
 kind:=fun i=>match g.ks[i]? with
  |some (some k)=>k
  |_=> .q 0 g.effs.length
 effs:=g.effs
 alloc:=g.az.map (·.1)
 ins:=fun i=>((g.ins[i]?).getD []).map fun t=>(t,abO l i t)
def at4(fs:Z (J dO→dL))(z:J dO)(x:(Nat×Nat)×Nat×J (J dO)):Z (J (J (J dO))):=(List.range' x.1.1 (x.1.2+1-x.1.1)).map fun j=>(fs[j]?).map fun f=>(f z).boxes[x.2.1]?
def at3(x:(Nat×Nat)×Nat×J (J dO)):Z (J (J (J dO))):=(List.range' x.1.1 (x.1.2+1-x.1.1)).map fun _=>some x.2.2
theorem VD(hn:DF l.toArray=true){j t:Nat}(ho:l[j]?=some o)(hd:o.dst=some t):sC l.toArray t=some j:=iT hn (by simpa using ho) hd
theorem ay5{fs:Z (J dO→dL)}{z:J dO}{rds:Z ((Nat×Nat)×Nat×J (J dO))}(h:rds.map (at4 fs z)=rds.map at3){lo hi kb j:Nat}{X:J (J dO)}(hm:((lo,hi),kb,X)∈rds)(h1:lo≤j)(h2:j≤hi){f:J dO→dL}(hs:fs[j]?=some f):(f z).boxes[kb]?=X:=by
 have e:=List.map_inj_left.1 h _ hm
 unfold at4 at3 at e
 have:=List.map_inj_left.1 e j (by simp [List.mem_range'];exact⟨j-lo,by omega,by omega⟩)
 simpa [hs] using this
theorem dN(h:Q .normal s)(hm:P.follows .mixedOrders=true:=by exact ayV)(hok:(g.draw l s0).ok=true:=by kernel_rfl)(hrd:g.rds.map (at4 g.fs g.cz)=g.rds.map at3:=by kernel_rfl):DW P C n id md l Q s0 g s []:=fun hv hr=>by
 have hlen:l.length≤g.outs.length:=by
  have:=congrArg List.length hr
  simp at this
  omega
 have hok':=hok
 simp only [kZ.ok,Bool.and_eq_true] at hok'
 have hn:DF l.toArray=true:=hok'.1.1.1.2
 have hpv: ∀i t q,ae6 l s0.env g.outs i t q→(g.draw l s0).pv (t,abO l i t)=some q:=fun i t q hs=>by
  rcases hs with⟨j,oj,h1,h2,h3,h4⟩|⟨h1,h2⟩
  ·have hw:=VD hn h2 h3
   unfold abO
   rw [hw]
   dsimp only
   rw [if_pos h1]
   show(g.outs[j]?).getD none=some q
   rw [h4]
   rfl
  ·have hw:abO l i t=none:=by
    unfold abO
    split
    ·rename_i j hj
     obtain⟨-,oj,h3,h4⟩:=zS hj
     split
     ·rename_i hji
      exact absurd h4 (h2 j oj hji (by simpa using h3))
     ·rfl
    ·rfl
   rw [hw]
   exact h1
 have hF: ∀ {j:Nat} {f:J dO→dL},g.fs[j]?=some f→ ∀b,(g.draw l s0).F j b=f (bif b then g.cz else none):=fun {j f} hj b=>by show(match g.fs[j]? with|some f=>f (bif b then g.cz else none)|none=>ab (bif b then g.cz else none) s0.st)=_;rw [hj]
 have hK: ∀ {i:Nat} {k:DK},g.ks[i]?=some (some k)→(g.draw l s0).kind i=k:=fun {i k} hk=>by show(match g.ks[i]? with|some (some k)=>k|_=> .q 0 g.effs.length)=_;rw [hk]
 have hK0: ∀ {i:Nat},g.ks[i]?=some none→(g.draw l s0).kind i= .q 0 g.effs.length:=fun {i} hk=>by show(match g.ks[i]? with|some (some k)=>k|_=>DK.q 0 g.effs.length)=_;rw [hk]
 have hout: ∀ {i:Nat} {p:PV},g.outs[i]?=some (some p)→(g.draw l s0).out i=some p:=fun hp=>by show(g.outs[_]?).getD none=_;rw [hp];rfl
 have hops:=hok'.1.1.1.1
 rw [List.all_eq_true] at hops
 have hgs: ∀(i:Nat) (o:Oper) (j d:Nat) (c:Bool) (p:PV),l[i]?=some o→o.guard=some (j,c)→(l[j]?).bind (·.dst)=some d→ae6 l s0.env g.outs i d p→(g.draw l s0).out j=some p:=fun i o j d c p ho hg hj hs=>by
  obtain⟨oj,hoj,hdj⟩: ∃oj,l[j]?=some oj∧oj.dst=some d:=by
   cases hx:l[j]? with
   |none=>rw [hx] at hj;cases hj
   |some oj=>rw [hx] at hj;exact⟨oj,rfl,hj⟩
  have hw:=VD hn hoj hdj
  rcases hs with⟨j',oj',h1,h2,h3,h4⟩|⟨h1,h2⟩
  ·have hw':=VD hn h2 h3
   rw [hw] at hw'
   cases hw'
   exact hout h4
  ·have hil:=(List.getElem?_eq_some_iff.1 ho).1
   have h5:=hops i (by simpa [DD.draw] using hil)
   have ho':(g.draw l s0).ops[i]?=some o:=by simpa [DD.draw] using ho
   simp only [kZ.okOp,ho',hg,Bool.and_eq_true] at h5
   have h6:(g.draw l s0).anc j i=true:=h5.2.1
   have:=as4 (fun i' o' ho' e he hb=>by
    have hil':=(Array.getElem?_eq_some_iff.1 ho').1
    have h7:=hops i' (by simpa using hil')
    simp only [kZ.okOp,ho',Bool.and_eq_true,Array.all_eq_true'] at h7
    have h3:=h7.1 e he
    simpa [hb] using h3) _ _ _ h6
   exact absurd hdj (h2 j oj this hoj)
 have hwant: ∀ {i:Nat} {o:Oper} {b:Bool},l[i]?=some o→WD l s0.env g.outs i o b→(g.draw l s0).want o=some b:=fun {i o b} ho hw=>by
  unfold kZ.want
  cases hw with
  |n a=>rw [a]
  |y a b c=>rw [a];dsimp only;rw [hgs _ _ _ _ _ _ ho a b c]
  |u a b c=>rw [a];dsimp only;rw [hgs _ _ _ _ _ _ ho a b c]
 have hstep: ∀i o,(g.draw l s0).ops[i]?=some o→(g.draw l s0).step P C n i o:=fun i o ho=>by
  have ho':l[i]?=some o:=by simpa [DD.draw] using ho
  obtain⟨hil,-⟩:=List.getElem?_eq_some_iff.1 ho'
  cases hv.hf i o ho' (by omega) with
  |does h1 h2 h3 h4=>
   rename_i E I
   refine .inl ⟨hwant ho' h1,?_⟩
   have hl: ∀s':AS,(∀t src p,(t,src)∈(g.draw l s0).ins i→(g.draw l s0).pv (t,src)=some p→s'.lk t=some p)→ ∀t q,E.lookup t=some q→s'.lk t=some q:=fun s' hl t q ht=>by
    obtain⟨h5,h6⟩:=h3 t q ht
    refine hl t (abO l i t) q ?_ (hpv i t q h6)
    show(t,abO l i t)∈((g.ins[i]?).getD []).map _
    rw [h2]
    exact List.mem_map.2 ⟨t,h5,rfl⟩
   unfold kZ.does
   cases h4 with
   |q a b c=>
    rw [hK0 a]
    exact fun s' j bb _ _ hs hin=>⟨_,hout b,cX.frame (st:=s'.st) (fun C'=>c C' s'.st) rfl (hl s' hin)⟩
   |r a b c kN d=>
    rename_i lo hi kb X p
    have hk:=hK a
    rw [hk]
    intro s' j bb q1 q2 hs hin
    have hjl:hi<g.fs.length:=by
     have:=hok'.1.1.2
     rw [List.all_eq_true] at this
     have:=this i (by simpa [DD.draw] using hil)
     simp only [Bool.and_eq_true,kZ.okKind,hk] at this
     have h9:=this.1.1.1.1.1.2
     simp only [decide_eq_true_eq] at h9
     have h10:hi≤g.effs.length:=h9
     rw [hv.hfl]
     omega
    obtain⟨f,hst⟩: ∃f,g.fs[j]?=some f:=⟨_,List.getElem?_eq_getElem (by omega)⟩
    have hX:=ay5 hrd c q1 q2 hst
    rw [hF hst] at hs
    have hcase:s'.st=f g.cz∨(md=true∧s'.st=f none):=by
     cases bb with
     |true=>exact .inl hs
     |false=>
      cases md with
      |true=>exact .inr ⟨rfl,hs⟩
      |false=>
       have:g.cz=none:=by unfold DD.cz;rw [hv.hm rfl];rfl
       rw [this]
       exact .inl hs
    rcases hcase with hs|⟨hmd,hs⟩
    ·exact⟨_,hout b,cX.frame (st:=s'.st) (fun C'=>d C' s'.st (by rw [hs];exact hX)) rfl (hl s' hin)⟩
    ·rcases hv.hz hmd f (List.mem_iff_getElem?.2 ⟨_,hst⟩) with h9|⟨h9,h10⟩
     ·exact⟨_,hout b,ae0 (by rw [hs,h9])⟩
     ·refine⟨_,hout b,cX.frame (st:=s'.st) (fun C'=>d C' s'.st ?_) rfl (hl s' hin)⟩
      rw [hs,← hX]
      cases hz:g.cz with
      |none=>rfl
      |some z=>
       rw [h10 z]
       show _=((f none).boxes++ [some z])[kb]?
       rw [List.getElem?_append_left (by rw [h9];exact kN hmd)]
   |c a b c d=>
    rename_i j f p
    rw [hK a]
    refine fun s' jj bb q1 q2 hs hin=>⟨_,hout b,?_⟩
    obtain rfl:jj=j:=by omega
    exact cX.frame (st:=s'.st) (fun C'=>by rw [hs,hF c];exact d C' _) rfl (hl s' hin)
   |e a b c d e=>
    rename_i j f f1 p
    rw [hK a]
    refine fun s' bb hs hin=> .inl ⟨_,hout b,?_⟩
    rw [hF d]
    exact cX.frame (fun C'=>e C' _) (by rw [hs,hF c]) (hl s' hin)
   |e0 a b c d e=>
    rename_i j f f1
    rw [hK a]
    refine fun s' bb hs hin=> .inr ⟨b,?_⟩
    rw [hF d]
    exact X6 b (fun C'=>e C' _) (by rw [hs,hF c]) (hl s' hin)
   |ea z a b c d e f q=>
    rename_i j a' t off zb f0 f1
    have hcz:g.cz=some zb:=by unfold DD.cz;rw [z];rfl
    rw [hK a]
    refine fun s' bb hs hin=> .inr ⟨b,?_⟩
    rw [hF d]
    rw [hF c] at hs
    cases bb with
    |true=>
     rw [hcz] at hs ⊢
     exact X6 b q hs (hl s' hin)
    |false=>
     rcases f with f|f
     ·exact ae0 (hs.trans f)
     ·refine cX.away (hl s' hin t _ e) ?_
      rw [hs]
      show(f0 none).boxes[_]?=none
      rw [List.getElem?_eq_none (by rw [f];exact Nat.le_refl _)]
   |al hmd z a b c=>
    rename_i zb
    have hcz:g.cz=some zb:=by unfold DD.cz;rw [z];rfl
    rw [hK a]
    refine fun s' j hs=>⟨_,hout b,?_⟩
    have key:s'.st=OR∨(s'.st.boxes.length=s0.st.boxes.length∧(g.draw l s0).F j true=s'.st.addBox zb):=by
     cases hj:g.fs[j]? with
     |none=>
      have h8: ∀b,(g.draw l s0).F j b=ab (bif b then g.cz else none) s0.st:=fun b=>by show(match g.fs[j]? with|some f=>f (bif b then g.cz else none)|none=>ab (bif b then g.cz else none) s0.st)=_;rw [hj]
      rw [h8] at hs ⊢
      refine .inr ⟨by rw [hs];rfl,?_⟩
      rw [hs,hcz]
      rfl
     |some f=>
      rw [hF hj] at hs ⊢
      rcases hv.hz hmd f (List.mem_iff_getElem?.2 ⟨_,hj⟩) with h9|⟨h9,h10⟩
      ·exact .inl (hs.trans h9)
      ·refine .inr ⟨by rw [hs];exact h9,?_⟩
       rw [hs,hcz]
       exact h10 zb
    rcases key with h9|⟨h9,h10⟩
    ·exact ae0 h9
    ·rw [h10]
     exact cX.frame (E:= []) (fun C'=>c C' s'.st h9) rfl (fun t q h=>by cases h)
  |skip h1 h2 h3 h4=>exact .inr ⟨hwant ho' h1,⟨_,_,hK0 h2⟩,.inr ⟨hout h3,h4⟩⟩
 intro m a w hra
 refine wp_mono (dR.drawn (g.draw l s0) (Q:=fun e s'=>e= .normal∧s'=⟨((List.range (g.draw l s0).ops.size).filterMap ((g.draw l s0).gX (Array.replicate (g.draw l s0).ops.size true)))++(g.draw l s0).env0,(g.draw l s0).F (g.draw l s0).effs.length (g.draw l s0).alloc.isSome⟩) hm hok rfl (by obtain⟨f,h1,h2⟩:=hv.hs0;rw [hF h1];exact h2.symm) hstep ⟨rfl,rfl⟩ m a w hra) fun e a' w'=>?_;rintro⟨s',m',⟨rfl,rfl⟩,h2⟩
 obtain⟨f,q1,q2,-,-⟩:=hv.hlast
 refine⟨s,m',h,RA.congr h2 ((hF q1 _).trans (Eq.trans (by cases ha:g.az with|none=>(show f (bif (g.az.map (·.1)).isSome then g.cz else none)=f g.cz;unfold DD.cz;rw [ha];rfl)|some x=>(show f (bif (g.az.map (·.1)).isSome then g.cz else none)=f g.cz;unfold DD.cz;rw [ha];rfl)) q2)) fun t p ht=>?_⟩
 show((g.draw l s0).sX (Array.replicate (g.draw l s0).ops.size true)).lk t=some p
 rcases hv.hlk t p ht with⟨j,oj,h1,h3,h4,h5⟩|⟨h1,h3⟩
 ·have hjl:j<l.length:=(List.getElem?_eq_some_iff.1 h3).1
  exact PB hn (i:=j) (o:=oj) (by have:j<(g.draw l s0).ops.size:=(by simpa [DD.draw] using hjl);simp [Array.getD_eq_getD_getElem?,this]) (by simpa [DD.draw] using h3) h4 (hout h5)
 ·rw [MA hn fun i hi=>?_]
  ·exact h1
  ·obtain⟨hil,oi,h6,h7⟩:=zS hi
   exact absurd h7 (h3 i oi (by have:i<l.length:=(by simpa [DD.draw] using hil);omega) (by simpa [DD.draw] using h6))
end
class RL (es:List (List Tr)) (α:outParam Type) [Inhabited α] [TC α] (l:outParam (List α)):Prop where h:es=TC.trs l
instance(l:List ByteArray):RL (bA l) ByteArray l:=⟨rfl⟩
instance(l:List Int):RL (c7 l) Int l:=⟨rfl⟩
instance(l:List UInt8):RL (l6 l) UInt8 l:=⟨rfl⟩
structure GR (k:Nat) (G G':Prop):Prop where h:G'→G
theorem gr0{G:Prop}:GR 0 G G:=⟨id⟩
theorem grS{k:Nat}{G G1 G':Prop}(f:G1→G)(h:GR k G1 G'):GR (k+1) G G':=⟨fun x=>f (h.h x)⟩
section
variable {P:Program} {C:qT} {n:Nat} {s:AS} {o:Oper} {T:TypeId} {x y:Operand} {k d z e f:Nat} {bx:dO} {p:PV} {I:Z Nat}
theorem bW(ho:o.op= .fieldAddr T x f:=by exact rfl)(hd:bL o.dst n=true:=by exact rfl)(hx:s.ev x=some (.ptr k d):=by exact rfl)(hf:FO P T f e:=by infer_instance):cX P C n o s (s.putO o.dst (.ptr k (d+e))):=rFp hf.h ho hd hx
theorem xE{cs:Z Tr}(ho:o.op= .fieldAddr T x f:=by exact rfl)(hd:bL o.dst n=true:=by exact rfl)(hx:s.ev x=some (.eptr cs):=by exact rfl)(hf:FO P T f e:=by infer_instance):cX P C n o s (s.putO o.dst (.eptr (cs.drop e))):=rFe hf.h ho hd hx
theorem eG(ho:o.op= .load T x:=by exact rfl)(hd:bL o.dst n=true:=by exact rfl)(hx:s.ev x=some (.ptr k d):=by exact rfl)(hb:s.st.boxes[k]?=some (some bx):=by exact rfl)(hc:bx.cells[d]?=some p:=by exact rfl)(hT:SH P T (false,z):=by infer_instance):cX P C n o s (s.putO o.dst p):=rL1 hT.h ho hd hx hb hc
theorem b4(cs:Z PV)(ho:o.op= .load T x:=by exact rfl)(hd:bL o.dst n=true:=by exact rfl)(hx:s.ev x=some (.ptr k d):=by exact rfl)(hb:s.st.boxes[k]?=some (some bx):=by exact rfl)(hT:SH P T (true,z):=by infer_instance)(hc:(bx.cells.drop d).take z=cs:=by exact rfl)(hl:cs.length=z:=by exact rfl):cX P C n o s (s.putO o.dst (.agg cs)):=rLp cs hT.h ho hd hx hb hc hl
theorem wH{w:Tr}{cs:Z Tr}(ho:o.op= .load T x:=by exact rfl)(hd:bL o.dst n=true:=by exact rfl)(hx:s.ev x=some (.eptr cs):=by exact rfl)(hc:cs[0]?=some w:=by exact rfl)(hT:SH P T (false,z):=by infer_instance):cX P C n o s (s.putO o.dst (.t w)):=rK1 hT.h ho hd hx hc
theorem gZ{cs:Z Tr}(ds:Z Tr)(ho:o.op= .load T x:=by exact rfl)(hd:bL o.dst n=true:=by exact rfl)(hx:s.ev x=some (.eptr cs):=by exact rfl)(hT:SH P T (true,z):=by infer_instance)(hc:cs.take z=ds:=by exact rfl)(hl:ds.length=z:=by exact rfl):cX P C n o s (s.putO o.dst (.agg (ds.map PV.t))):=rKe ds hT.h ho hd hx hc hl
theorem tP(ho:o.op= .load T x:=by exact rfl)(hd:bL o.dst n=true:=by exact rfl)(hx:(⟨rs s I,s.st⟩:AS).ev x=some (.ptr k d):=by exact rfl)(hb:s.st.boxes[k]?=some (some bx):=by exact rfl)(hc:bx.cells[d]?=some p:=by exact rfl)(hT:SH P T (false,z):=by infer_instance):aqH P n o s I k (some (some bx)) p:=vL1 hT.h ho hd hx hb hc
theorem BG(cs:Z PV)(ho:o.op= .load T x:=by exact rfl)(hd:bL o.dst n=true:=by exact rfl)(hx:(⟨rs s I,s.st⟩:AS).ev x=some (.ptr k d):=by exact rfl)(hb:s.st.boxes[k]?=some (some bx):=by exact rfl)(hT:SH P T (true,z):=by infer_instance)(hc:(bx.cells.drop d).take z=cs:=by exact rfl)(hl:cs.length=z:=by exact rfl):aqH P n o s I k (some (some bx)) (.agg cs):=vLp cs hT.h ho hd hx hb hc hl
theorem tAl{ps:Z PV}(ho:o.op= .alloc T:=by exact rfl)(hd:bL o.dst n=true:=by exact rfl)(hz:ZR P T ps:=by infer_instance):cX P C n o s ((⟨s.env,s.st.addBox ⟨T,ps⟩⟩:AS).putO o.dst (.ptr s.st.boxes.length 0)):=rAl hz.h ho hd
theorem hY{cs ds:Z PV}(ho:o.op= .store T x y:=by exact rfl)(hx:s.ev x=some (.ptr k d):=by exact rfl)(hb:s.st.boxes[k]?=some (some bx):=by exact rfl)(hy:s.ev y=some p:=by exact rfl)(hc:xR p=cs:=by exact rfl)(ht:IJ p=true:=by exact rfl)(hf:KB cs=true:=by exact rfl)(hT:SZ P T z:=by infer_instance)(hz:z=cs.length:=by exact rfl)
 (hfit:d+cs.length≤bx.cells.length:=by exact Nat.le_of_ble_eq_true rfl) (hds:bx.cells.take d++cs++bx.cells.drop (d+cs.length)=ds:=by exact rfl):cX P C n o s ((⟨s.env,s.st.setBox k ⟨bx.ty,ds⟩⟩:AS).delO o.dst):=rSu (hz ▸ hT.h) ho hx hb hy hc ht hf hfit hds
theorem rQ{parts:Array (Nat×Operand)}{ps:Z (Nat×Z PV)}{zs cs:Z PV}{places:Z (Nat×Nat)}(ho:o.op= .build T parts:=by exact rfl)(hd:bL o.dst n=true:=by exact rfl)(hp:nN s parts.toList=some ps:=by exact rfl)(hz:ZR P T zs:=by infer_instance)(hpl:XK P T places:=by infer_instance)(hc:t8 (fun i=>places.toArray[i]?) zs ps=some cs:=by exact rfl):cX P C n o s (s.putO o.dst (.agg cs)):=rBd hz.h hpl.h ho hd hp hc
theorem tF1{cs:Z PV}(ho:o.op= .field T x f:=by exact rfl)(hd:bL o.dst n=true:=by exact rfl)(hx:s.ev x=some (.agg cs):=by exact rfl)(hf:FQ P T f (e,false,z):=by infer_instance)(hc:cs[e]?=some p:=by exact rfl):cX P C n o s (s.putO o.dst p):=rF1 hf.h ho hd hx hc
theorem tPt{b:Bool}{w:Operand}(ho:o.op= .pick x y w:=by exact rfl)(hd:bL o.dst n=true:=by exact rfl)(hx:s.ev x=some (.t (.leaf (.bool b))):=by exact rfl)(hb:b=true:=by first|with_reducible assumption|with_reducible rfl|assumption|exact rfl)(hy:s.ev y=some p:=by exact rfl):cX P C n o s (s.putO o.dst p):=CJ hb ho hd hx hy
theorem tPf{b:Bool}{w:Operand}(ho:o.op= .pick x y w:=by exact rfl)(hd:bL o.dst n=true:=by exact rfl)(hx:s.ev x=some (.t (.leaf (.bool b))):=by exact rfl)(hb:b=false:=by first|with_reducible assumption|with_reducible rfl|assumption|exact rfl)(hy:s.ev w=some p:=by exact rfl):cX P C n o s (s.putO o.dst p):=D3 hb ho hd hx hy
section
variable {Q:Exit→AS→Prop} {ops:Array Oper} {rest:Z Oper} {s1:AS} {j:Nat} {b c:Bool}
end
section
variable {α:Type} [Inhabited α] [TC α] {l:Z α} {sz:Nat} {es:Z (Z Tr)} {E:Nat×Nat×Nat}
theorem tLn(ho:o.op= .call { callee:= .builtin .len,args:= #[x],argTypes:= #[T] }:=by exact rfl)(hd:bL o.dst n=true:=by exact rfl)(hx:s.ev x=some p:=by exact rfl)(hp:mK p=some (sz,es):=by exact rfl)(hT:EL P T E:=by infer_instance)(hl:RL es α l:=by infer_instance):cX P C n o s (s.putO o.dst (.t (.leaf (.int .i64 (l.length:Int))))):=rLn hT.h (by rw [hl.h];exact TC.len l) ho hd hx hp
theorem mU{E' by_:Nat}(ho:o.op= .indexAddr T x y:=by exact rfl)(hd:bL o.dst n=true:=by exact rfl)(hx:s.ev x=some p:=by exact rfl)(hp:mK p=some (sz,es):=by exact rfl)(hi:s.ev y=some (.t (.leaf (.int .i64 (k:Int)))):=by exact rfl)(hT:EL P T (E',sz,by_):=by infer_instance)(hl:RL es α l:=by infer_instance)(h:k<l.length:=by assumption):cX P C n o s (s.putO o.dst (.eptr (TC.cs (aR l k)))):=rIx h hT.h ho hd hx (by rw [← hl.h];exact hp) hi
theorem AR{E' by_:Nat}{z:α}(hz:z=aR l k)(h:k<l.length)(ho:o.op= .indexAddr T x y:=by exact rfl)(hd:bL o.dst n=true:=by exact rfl)(hx:s.ev x=some p:=by exact rfl)(hp:mK p=some (sz,TC.trs l):=by exact rfl)(hi:s.ev y=some (.t (.leaf (.int .i64 (k:Int)))):=by exact rfl)(hT:EL P T (E',sz,by_):=by infer_instance):cX P C n o s (s.putO o.dst (.eptr (TC.cs z))):=rIn hz h hT.h ho hd hx hp hi
section
variable {E' by_ len:Nat} {parts:Array (Nat×Operand)} {ps:Z (Nat×Z PV)} {zs cs:Z PV}
theorem iL(l:Z α)(ho:o.op= .buildSlice T len parts:=by exact rfl)(hd:bL o.dst n=true:=by exact rfl)(hp:nN s parts.toList=some ps:=by exact rfl)(hT:EL P T E:=by infer_instance)(hE:E=(E',TC.sz α,by_):=by exact rfl)(hz:ZR P E' zs:=by infer_instance)
 (hc:t8 (fun i=>some (i*TC.sz α,TC.sz α)) (List.replicate len zs).flatten ps=some cs:=by exact rfl) (hle:tN cs ((l.map TC.cs).flatten.map PV.t):=by exact mG) (hel:l.length=len:=by exact rfl) (hsz:0<TC.sz α:=by decide) (hzl:zs.length=TC.sz α:=by exact rfl) (hsm:len*TC.sz α≤16777216:=by decide):cX P C n o s (s.putO o.dst (.t (.row (TC.sz α) (TC.trs l)))):=rBs l (hE ▸ hT.h) hz.h ho hd hp hc hle hel hsz hzl hsm
theorem xD(l:Z α)(ho:o.op= .buildSlice T len parts:=by exact rfl)(hd:bL o.dst n=true:=by exact rfl)(hp:nN s parts.toList=some ps:=by exact rfl)(hT:EL P T E:=by infer_instance)(hE:E=(E',TC.sz α,by_):=by exact rfl)(hz:ZR P E' zs:=by infer_instance)
 (hc:t8 (fun i=>some (i*TC.sz α,TC.sz α)) (List.replicate len zs).flatten ps=some cs:=by exact rfl) (hle:tN cs ((l.map TC.cs).flatten.map PV.t):=by exact mG) (hel:l.length=len:=by exact rfl) (hsz:0<TC.sz α:=by decide) (hzl:zs.length=TC.sz α:=by exact rfl) (hsm:len*TC.sz α≤16777216:=by decide):cX P C n o s (s.putO o.dst (.lit (TC.sz α) (TC.trs l))):=rBl l (hE ▸ hT.h) hz.h ho hd hp hc hle hel hsz hzl hsm
theorem sM(l:Z α)(ho:o.op= .buildSlice T len parts:=by exact rfl)(hd:bL o.dst n=true:=by exact rfl)(hp:nN s parts.toList=some ps:=by exact rfl)(hT:EL P T E:=by infer_instance)(hE:E=(E',TC.sz α,by_):=by exact rfl)(hz:ZR P E' zs:=by infer_instance)
 (hc:t8 (fun i=>some (i*TC.sz α,TC.sz α)) (List.replicate len zs).flatten ps=some cs:=by exact rfl) (hle:tN cs ((l.map TC.cs).flatten.map PV.t):=by exact mG) (hel:l.length=len:=by exact rfl) (hsz:0<TC.sz α:=by decide) (hzl:zs.length=TC.sz α:=by exact rfl) (hsm:len*TC.sz α≤16777216:=by decide):cX P C n o s ((⟨s.env,s.st.addRow ⟨E',TC.sz α,TC.trs l,false⟩⟩:AS).putO o.dst (.acc (TC.sz α) (TC.trs l) s.st.rows.length)):=rBa l (hE ▸ hT.h) hz.h ho hd hp hc hle hel hsz hzl hsm
end
theorem lO{E' by_ r m:Nat}{a b:Z α}{row:mV}(h:a.length+b.length≤68719476736)(ho:o.op= .call { callee:= .builtin .append,args:= #[x,y],argTypes:= #[T,T] }:=by exact rfl)(hd:bL o.dst n=true:=by exact rfl)
 (hx:s.ev x=some (.acc (TC.sz α) (TC.trs a) r):=by exact rfl) (hrow:s.st.rows[r]?=some row:=by exact rfl) (hes:row.es=TC.trs a:=by exact rfl) (hT:EL P T E:=by infer_instance) (hE0:E=(E',TC.sz α,by_):=by exact rfl) (hz:ZE P E' m:=by infer_instance) (hm:m=TC.sz α:=by exact rfl) (hE:row.E=E':=by exact rfl) (hw:row.whole=false:=by exact rfl) (hy:s.ev y=some p:=by exact rfl) (hp:mK p=some (TC.sz α,TC.trs b):=by exact rfl)
 (hb:0<by_:=by decide) (hb2:by_≤2048:=by decide):cX P C n o s ((⟨s.env,s.st.setRow r { row with es:=TC.trs (a++b) }⟩:AS).putO o.dst (.acc (TC.sz α) (TC.trs (a++b)) r)):=rAp h (hE0 ▸ hT.h) (hm ▸ hz.h) ho hd hx hrow hes hE hw hy hp hb hb2
end
end
section
variable {P:Program} {C:qT} {n:Nat} {s:AS} {fn:Func} {R:PV→dL→Prop} {e:Exit} {st':dL} {p p1 p2 p3 q:PV}
theorem qf1(hR:R q st':=by exact⟨rfl,rfl⟩)(hr:WP P s fn.results.toList [p]:=by first|exact⟨rfl,trivial⟩|exact⟨⟨_,_,_,rfl,rfl,SH.h,rfl,rfl⟩,trivial⟩)(he:e= .normal∨e= .ret:=by first|exact .inr rfl|exact .inl rfl)
 (hst:xG s.st st':=by exact V9) (hp:kT C.st st':=by exact RS) (hle:PV.Le p q:=by exact mG) (hk:hM st' q=true:=by exact rfl):D1 P C n fn R e s:=D1.mk he hr rfl hst hp hle hk hR
theorem qf2(hR:R q st':=by exact⟨rfl,rfl⟩)(hr:WP P s fn.results.toList [p1,p2]:=by first|exact⟨rfl,rfl,trivial⟩|exact⟨⟨_,_,_,rfl,rfl,SH.h,rfl,rfl⟩,rfl,trivial⟩|exact⟨rfl,⟨_,_,_,rfl,rfl,SH.h,rfl,rfl⟩,trivial⟩)(he:e= .normal∨e= .ret:=by first|exact .inr rfl|exact .inl rfl)
 (hst:xG s.st st':=by exact V9) (hp:kT C.st st':=by exact RS) (hle:PV.Le (.tup [p1,p2]) q:=by exact mG) (hk:hM st' q=true:=by exact rfl):D1 P C n fn R e s:=D1.mk he hr rfl hst hp hle hk hR
theorem qf3(hR:R q st':=by exact⟨rfl,rfl⟩)(hr:WP P s fn.results.toList [p1,p2,p3]:=by first|exact⟨rfl,rfl,rfl,trivial⟩|exact⟨⟨_,_,_,rfl,rfl,SH.h,rfl,rfl⟩,rfl,rfl,trivial⟩)(he:e= .normal∨e= .ret:=by first|exact .inr rfl|exact .inl rfl)
 (hst:xG s.st st':=by exact V9) (hp:kT C.st st':=by exact RS) (hle:PV.Le (.tup [p1,p2,p3]) q:=by exact mG) (hk:hM st' q=true:=by exact rfl):D1 P C n fn R e s:=D1.mk he hr rfl hst hp hle hk hR
end
section
variable {P:Program} {C:qT} {n:Nat} {s:AS} {o:Oper} {x y:Operand} {T yT:TypeId}
theorem tNx{i:Nat}(ho:o.op= .binOp .add T x y yT:=by exact rfl)(hd:bL o.dst n=true:=by exact rfl)(hx:s.ev x=some (pN i):=by exact rfl)(hy:s.ev y=some (pI 1):=by exact rfl)(hb:i<9223372036854775807:=by omega):cX P C n o s (s.putO o.dst (pN (i+1))):=
 zT ho hd hx hy (by omega) (by omega)
theorem rA{s1:AS}(h:cX P C n o s s1:=by first
 |exact bI
 |exact bW
 |exact eG
 |exact xE
 |exact wH
 |exact hY
 |exact tLn
 |exact rQ
 |exact wZ
 |exact rEq
 |exact rLt
 |exact JP
 |exact rEx
 |exact mU
 |exact tNx
 |exact tAl
 |exact tPt
 |exact tPf
 |exact rSe
 |exact rSn
 |exact rNe
 |exact rLe
 |exact rGt
 |exact rGe
 |exact rNf
 |exact rAw
 |exact rSw
 |exact tF1):cX P C n o s s1:=h
section
variable {Q:Exit→AS→Prop} {ops:Array Oper} {rest:Z Oper} {s1:AS} {j d k:Nat} {b c b':Bool} {G':Prop}
theorem qU(hg:o.guard=none:=by exact rfl)(ho:cX P C n o s s1)(h:AL P C n ops rest Q s1):AL P C n ops (o::rest) Q s:=q1 ho h hg
theorem qK(hg:o.guard=some (j,c):=by exact rfl)(hj:(ops[j]?).bind (·.dst)=some d:=by exact rfl)(hb:s.lk d=some (.t (.leaf (.bool b))):=by exact rfl)(hv:b=b':=by first|with_reducible assumption|with_reducible exact @rfl Bool true|with_reducible exact @rfl Bool false|assumption|exact rfl)(hne:(b'==c)=false:=by exact rfl)(hd:bL o.dst n=true:=by exact rfl)(h:AL P C n ops rest Q (s.putO o.dst (.tup []))):AL P C n ops (o::rest) Q s:=qk hv h hg hj hb hne hd
theorem qV(hg:o.guard=some (j,c):=by exact rfl)(hj:(ops[j]?).bind (·.dst)=some d:=by exact rfl)(hb:s.lk d=some (.t (.leaf (.bool b))):=by exact rfl)(hv:b=c:=by first|with_reducible assumption|with_reducible rfl|assumption|exact rfl)(ho:cX P C n o s s1)(h:AL P C n ops rest Q s1):AL P C n ops (o::rest) Q s:=qg hv ho h hg hj hb
theorem qCt{c:Operand}{b:Bool}{cx cy:Code}(hc:s.ev c=some (.t (.leaf (.bool b))):=by exact rfl)(e:b=true:=by first|with_reducible rfl|with_reducible assumption|exact rfl|assumption)(h:dR P C n cx Q s):dR P C n (.cond c cx cy) Q s:=amM e h hc
theorem qCf{c:Operand}{b:Bool}{cx cy:Code}(hc:s.ev c=some (.t (.leaf (.bool b))):=by exact rfl)(e:b=false:=by first|with_reducible rfl|with_reducible assumption|exact rfl|assumption)(h:dR P C n cy Q s):dR P C n (.cond c cx cy) Q s:=YV e h hc
end
end
theorem grR{k:Nat}{G G':Prop}(h:GR k G G':=by
 repeat(first
  |exact gr0
  |apply grS (fun h=>qU (ho:=rA) (h:=h))
  |apply grS (fun h=>qK (h:=h))
  |apply grS (fun h=>qku h)
  |apply grS (fun h=>qV (ho:=rA) (h:=h))
  |apply grS (fun h=>qN h)
  |apply grS (fun h=>qS h)
  |apply grS (fun h=>qR h)
  |apply grS (fun h=>dR.skip h)
  |apply grS (fun h=>dR.block h)
  |apply grS (fun h=>qCt (h:=h))
  |apply grS (fun h=>qCf (h:=h)))):GR k G G':=h
theorem smR{β:Type}{v r:β}(h:Hd (some v) (fun v=>v=r)):v=r:=(tO h:)
theorem skR{β σ:Type}{f:σ→J β}{x r:β}(h:Hd (some (.inl x)) (SK f (fun v=>v=r))):x=r:=(skL (tO h):)
theorem gQ(k:Nat){G G':Prop}(h':G')(h:GR k G G':=by exact grR):G:=h.h h'
theorem gE(k:Nat){G G':Prop}(h:GR k G G':=by exact grR)(h':G':=by
 first
  |(refine dR.ret ?_;(first|obtain rfl:_=_:=smR (by assumption)|obtain rfl:_=_:=skR (by assumption)|(have e:=lkR (tO (by assumption));obtain rfl:_=_:=e)|(have e:=lwR (tO (by assumption));obtain rfl:_=_:=e));(first|exact qf1|exact qf2|exact qf3|exact qe (ps:= [_,_,_,_]) ⟨rfl,rfl⟩ ⟨rfl,rfl,rfl,rfl,trivial⟩|exact qe (ps:= [_,_,_,_,_,_]) ⟨rfl,rfl⟩ ⟨rfl,rfl,rfl,rfl,rfl,rfl,trivial⟩))
  |exact aAO ⟨_,tO (by assumption),FT⟩
  |exact lpN (by assumption) ⟨_,tO (by assumption),FT⟩
  |exact lwN ⟨_,tO (by assumption),FT⟩
  |(refine dR.exit ?_;(first|exact lpX ⟨_,by assumption,FT⟩|exact lpB ⟨_,tO (by assumption),FT⟩|exact lwB ⟨_,tO (by assumption),FT⟩))
  |exact lwB ⟨_,tO (by assumption),FT⟩
  |((first|obtain rfl:_=_:=smR (by assumption)|obtain rfl:_=_:=skR (by assumption));(first|exact qf1|exact qf2|exact qf3))):G:=h.h h'
set_option maxRecDepth 100000
set_option maxHeartbeats 4000000
open Tryz
theorem au4(d:DS):cM prog 130 [.ptr 0 0] (d.box 133) (fun r t=>r=pI d.byte∧t=d.next.box 133):=by
 refine qI func130 (fun C hC=>?_)
 refine dR.fact (cP 0 0 rfl rfl rfl (s6 d.code)) (fun hl0=>?_)
 refine gQ 11 ?_;refine q1 (QG rfl rfl rfl rfl) (q1 (JW rfl rfl rfl rfl) ?_)
 refine gQ 5 ?_;refine dW (dI [0] bI (dI [13] wZ (dI [14] bW (dD [15] eG (dI [16] (ah4 rfl rfl rfl rfl (by decide) (XO (M0 _)).1 (XO (M0 _)).2) (dI [0] bI (dI [18] wZ (dI [19] bW (dD [20] eG (dI [21] (ah4 rfl rfl rfl rfl (by decide) (XO (M0 _)).1 (XO (M0 _)).2) (dI [17,22] (asP rfl rfl rfl rfl) (dI [23] (X1 rfl rfl rfl rfl) (dI [24] bI (dN ?_))))))))))))))
 refine gQ 2 ?_;refine dW (dI [0] bI (dI [25] wZ (dI [26] bW (dD [27] eG (dI [0] bI (dI [29] wZ (dI [30] bW (dD [31] eG (dI [32] tLn (dI [28,33] rLt (dN ?_)))))))))))
 refine dR.cond rfl (fun h1=>?_) (fun h1=>?_)
 ·have h1n:d.p<d.code.length:=by have:=of_decide_eq_true h1;omega
  rw [show d.byte=_ from dif_pos h1n,show d.next=⟨d.code,d.p+1,ajP d.h⟩ by unfold DS.next;rw [if_pos h1n]]
  refine gQ 1 ?_;refine dW (dI [3] bI (dI [0] bI (dI [36] wZ (dI [37] bW (dD [38] eG (dI [0] bI (dI [40] wZ (dI [41] bW (dD [42] eG (dI [39,43] (cX.index (k:=d.p) rfl rfl rfl rfl rfl (C1 h1n) ayO.h) (dI [44] (zC (d:= .leaf (.int .u8 ((d.code[d.p]).toNat:Int))) rfl rfl rfl sh5.h rfl) (dI [45] (LO rfl rfl rfl ⟨_,underlying5⟩ underlying3 (by omega) (by have:=UInt8.toNat_lt (d.code[d.p]);omega)) (dI [35,46] (JW rfl rfl rfl rfl) (dI [47] (X1 rfl rfl rfl rfl) (dI [48] bI (dN ?_))))))))))))))))
  refine gQ 16 ?_;exact dR.ret qf1
 ·have h1n: ¬d.p<d.code.length:=by have:=of_decide_eq_false h1;omega
  rw [show d.byte=_ from dif_neg h1n,show d.next=⟨d.code,d.p,ajP d.h⟩ by unfold DS.next;rw [if_neg h1n]]
  refine gQ 6 ?_;exact dR.ret qf1
theorem KA(d:DS):cM prog 130 [.ptr 0 0] (d.box 133) (fun r t=>r=pN d.byteN∧t=d.next.box 133):=by unfold pN;rw [d.byteN_eq];exact au4 d
theorem fL(d:DS)(n:Nat):cM prog 73 [.ptr 0 0,pN n] (d.box 133) (fun r t=>r=pN (d.below n)∧t=(d.after n).box 133):=by
 refine qI func73 (fun C hC=>?_)
 have hb0:=d.byteN_le
 have hb1:=d.next.byteN_le
 have hb2:=d.next.next.byteN_le
 have hb3:=d.next.next.next.byteN_le
 unfold DS.below DS.after
 refine gQ 10 ?_;refine dR.cond rfl (fun h1=>?_) (fun h1=>?_)
 ·obtain rfl:n=0:=by have:=of_decide_eq_true h1;omega
  refine gQ 4 ?_;exact dR.ret qf1
 have h1n: ¬n=0:=by have:=of_decide_eq_false h1;omega
 rw [if_neg h1n,if_neg h1n]
 refine gQ 7 ?_;refine dR.cond rfl (fun h2=>?_) (fun h2=>?_)
 ·have h2n:n≤256:=by have:=of_decide_eq_true h2;omega
  rw [if_pos h2n,if_pos h2n]
  refine gQ 3 ?_;refine q1 (fO [0] [] func130 (KA d)) ?_;refine gQ 1 ?_;refine q1 (X8 (a:=d.byteN) (b:=n) rfl rfl rfl rfl (by omega) (by omega)) ?_;refine gQ 2 ?_;exact dR.ret qf1
 have h2n: ¬n≤256:=by have:=of_decide_eq_false h2;omega
 rw [if_neg h2n,if_neg h2n]
 refine gQ 4 ?_;refine q1 (fO [0] [] func130 (KA d)) ?_;refine gQ 5 ?_;refine q1 (fO [0] [] func130 (KA d.next)) ?_;refine gQ 5 ?_;refine q1 (fO [0] [] func130 (KA d.next.next)) ?_;refine gQ 5 ?_;refine q1 (fO [0] [] func130 (KA d.next.next.next)) ?_;refine gQ 5 ?_;refine q1 (X7 rfl rfl rfl rfl (c:=((d.byteN*16777216:Nat):Int)) (by omega) (by omega)) (q1 bI (q1 (X7 rfl rfl rfl rfl (c:=((d.next.byteN*65536:Nat):Int)) (by omega) (by omega)) (q1 (zT rfl rfl rfl rfl (c:=((d.byteN*16777216+d.next.byteN*65536:Nat):Int)) (by omega) (by omega)) (q1 bI (q1 (X7 rfl rfl rfl rfl (c:=((d.next.next.byteN*256:Nat):Int)) (by omega) (by omega)) (q1 (zT rfl rfl rfl rfl (c:=((d.byteN*16777216+d.next.byteN*65536+d.next.next.byteN*256:Nat):Int)) (by omega) (by omega)) (q1 bI (q1 (zT rfl rfl rfl rfl (c:=((d.byteN*16777216+d.next.byteN*65536+d.next.next.byteN*256+d.next.next.next.byteN:Nat):Int)) (by omega) (by omega)) (q1 bI (q1 (X8 (b:=n) rfl rfl rfl rfl (by omega) (by omega)) ?_))))))))))
 refine gQ 2 ?_;exact dR.ret qf1
theorem n6(d:DS)(n:Nat):cM prog 45 [.ptr 0 0,pN n] (d.box 133) (fun r t=>r=pB (decide (d.below n=0))∧t=(d.after n).box 133):=by
 refine qI func45 (fun C hC=>?_)
 rw [show decide (d.below n=0)=decide (((d.below n:Nat):Int)=0) from decide_eq_decide.2 (by omega)]
 refine gQ 8 ?_;refine q1 (fO [0] [] func73 (fL d n)) ?_;refine gQ 3 ?_;exact dR.ret qf1
theorem gF(d:DS)(l:LB)(hl:0<l.length):cM prog 48 [.ptr 0 0,rS l] (d.box 133) (fun r t=>r=pS (d.pick l)∧t=(d.after l.length).box 133):=by
 refine qI func48 (fun C hC=>?_)
 have hx:d.below l.length<l.length:=d.below_lt hl
 rw [YB hx]
 refine gQ 10 ?_;refine q1 (fO [0] [] func73 (fL d l.length)) (q1 (cX.index (k:=d.below l.length) rfl rfl rfl rfl rfl (aeS hx) amO.h) (q1 (zC (d:= .leaf (.string (l[d.below l.length]))) rfl rfl rfl sh9.h rfl) ?_))
 refine gQ 2 ?_;exact dR.ret qf1
theorem axF(code:Z UInt8)(hb:code.length≤1048576):asF prog 43 [rU code] 133 (DS.start code).cells:=by
 unfold asF
 refine qI func43 (fun C hC=>?_)
 refine dR.fact (af4 0 rfl rfl (s6 _)) (fun hl1=>?_)
 refine gQ 2 ?_;refine q1 (VG (.inl rfl)) ?_;refine gQ 5 ?_;refine q1 (zT rfl rfl rfl rfl (c:=((28803+code.length:Nat):Int)) (by omega) (by omega)) ?_;refine gQ 8 ?_;refine S0 (ι:=Nat×Int) (fun⟨i,h⟩=>i≤code.length∧i≤4000∧axE code=((code.take 4000).drop i).foldl IH h) (fun⟨i,h⟩=>⟨[(0,rU code),(3,pI h),(4,pN i)],⟨[],[]⟩⟩) (fun⟨i,h⟩=>code.length-i) (0,(28803+(code.length:Int))) ⟨Nat.zero_le _,Nat.zero_le _,rfl⟩ ?_ ?_
 ·exact FT
 rintro⟨i,h⟩ ⟨hi1,hi2,hi3⟩
 have fin:code.length≤i∨4000≤i→axE code=h:=fun k=>atS k hi3
 refine gQ 8 ?_;refine xO 12 rfl (fun g3=>?_) (fun g3=>?_)
 ·have g3n:i<code.length:=by have:=of_decide_eq_true g3;omega
  refine gQ 4 ?_;refine dR.cond rfl (fun h4=>?_) (fun h4=>?_)
  ·have h4n:=of_decide_eq_true h4
   refine gQ 5 ?_;refine q1 (QG rfl rfl rfl rfl) (q1 bI (q1 bI (q1 (cX.index (k:=i) rfl rfl rfl rfl rfl (C1 g3n) ayO.h) (q1 (zC (d:= .leaf (.int .u8 ((code[i]).toNat:Int))) rfl rfl rfl sh5.h rfl) (q1 (LO rfl rfl rfl ⟨_,underlying5⟩ underlying3 (by omega) (by have:=UInt8.toNat_lt (code[i]);omega)) (q1 (JW rfl rfl rfl rfl) (q1 (JW rfl rfl rfl rfl) (q1 (X1 rfl rfl rfl rfl) ?_))))))))
   refine gQ 7 ?_;exact⟨(i+1,IH h code[i]),⟨by omega,by omega,arH (by omega) (by omega) hi3 rfl⟩,FT,by dsimp only;omega⟩
  ·obtain rfl:=fin (.inr (by have:=of_decide_eq_false h4;omega))
   refine dR.exit ?_;refine gQ 4 ?_;refine q1 rQ (q1 (fQ (dC (DS.start code))) ?_)
   refine gQ 2 ?_;exact dR.ret (qf1 (st':=⟨[some ⟨133,dC (DS.start code)⟩],[]⟩) (q:= .ptr 0 0) ⟨0,rfl,rfl,fun i x hx=>(by rcases i with _|i<;>simp at hx<;>simp),rfl⟩)
 ·refine gQ 4 ?_;refine dR.cond rfl (fun h4=>?_) (fun h4=>?_)
  ·exact absurd (h4.symm.trans rfl) (by decide)
  obtain rfl:=fin (.inl (by have:=of_decide_eq_false g3;omega))
  refine dR.exit ?_;refine gQ 4 ?_;refine q1 rQ (q1 (fQ (dC (DS.start code))) ?_)
  refine gQ 2 ?_;exact dR.ret (qf1 (st':=⟨[some ⟨133,dC (DS.start code)⟩],[]⟩) (q:= .ptr 0 0) ⟨0,rfl,rfl,fun i x hx=>(by rcases i with _|i<;>simp at hx<;>simp),rfl⟩)
theorem as9{w:World}{xs:Z Int}{v:Value}(h:M1 w (.row 1 (xs.map fun n=> [Tr.leaf (.int .u8 n)])) v): ∃code:Z UInt8,(xs.map fun n=> [Tr.leaf (.int .u8 n)])=l6 code:=by
 have hr: ∀x∈xs,0≤x∧x≤255:=by
  intro x hx
  obtain⟨i,hi,rfl⟩:=List.mem_iff_getElem.1 hx
  cases h with
  |row c h1 h2 h3 h4=>
   have:=h4 i [Tr.leaf (.int .u8 xs[i])] (by simp [hi]) 0 _ rfl
   have:=(this.leaf_eq).2
   simpa [sN,Lit.wf,IntKind.min,IntKind.max,IntKind.bits,IntKind.signed] using this
 refine⟨xs.map fun n=>UInt8.ofNat n.toNat,?_⟩
 unfold l6
 rw [List.map_map]
 refine List.map_congr_left fun x hx=>?_
 have:=hr x hx
 have h2:(UInt8.ofNat x.toNat).toNat=x.toNat:=by
  rw [UInt8.toNat_ofNat']
  omega
 simp only [Function.comp,h2]
 rw [Int.toNat_of_nonneg this.1]
theorem J4.nil{w:World}:J4 w [] []:=trivial
theorem J4.cons{w:World}{p:PV}{ps:Z PV}{v:Value}{vs:Z Value}(h:RV0 w p v)(k:J4 w ps vs):J4 w (p::ps) (v::vs):=⟨h,k⟩
theorem awK:(Tryz.prog.info? 52).map (·.size)=some 2:=by kernel_rfl
def acE{α:Type}(p:α→Bool):Z α→Nat→Int
 | [],_=> -1
 |a::l,i=>if p a then i else acE p l (i+1)
theorem aq3{α:Type}{p:α→Bool}{l:Z α}{k:Nat}(h:k<l.length):acE p (l.drop k) k=if p l[k] then(k:Int) else acE p (l.drop (k+1)) (k+1):=by
 rw [List.drop_eq_getElem_cons h,acE]
set_option maxRecDepth 100000 in
set_option maxHeartbeats 1000000 in
theorem acI{α:Type}(tr:α→Z Tr)(p:α→Bool)(xs:Z α)(g:FuncId)(caps:Array Value)(hg: ∀(args:Array Value) (w:World),(callFunc g args).run prog w= .ok (.enter g args) w)(hl: ∀x,(tr x).length=2)(s:Value)(w:World)
 (H: ∀x∈xs,∀cs w',wI w w'→iV w' (tr x) cs→Calls prog g (#[.agg ⟨cs⟩]++caps) w' fun e w''=>e= .returned (.bool (p x))∧wI w' w'')
 (hs:M1 w (.row 2 (xs.map tr)) s):
 Calls prog 183 #[s,.func (.func g) #[] caps] w fun e w'=>e= .returned (.int .i64 (acE p xs 0))∧wI w w':=by
 obtain⟨a,cap,rfl,hlc,hm⟩:=hs.shape
 unfold maxLen at hm
 rw [List.length_map] at hlc ⊢
 rw [List.length_map] at hs
 have HS:=Lib.hid hs
 have HH:=Lib.hid H
 have HL:=Lib.hid hl
 clear hs H hl
 go_enter func183,ntmps183
 go_wp2_with fail
 go_loopw [5,8] (fun _ i wr=> ∃k:Nat,k≤xs.length∧i= .int .i64 k∧wI w wr∧Hid (acE p xs 0=acE p (xs.drop k) k)) (fun _ i _=>xs.length-(intOf i).toNat)
 case atStart=>exact⟨0,Nat.zero_le _,rfl,.refl _,rfl⟩
 case round=>
  obtain⟨k,hk,rfl,hw,HE⟩:=hrel
  by_cases hlt:k<xs.length
  ·obtain⟨b,off,cs,rfl,hb,hcs,hc⟩:=(HS.out.ext hw).at2 (k:=k) (e:=tr xs[k]) (by rw [List.getElem?_map,List.getElem?_eq_getElem hlt];rfl)
   have HST:=Lib.hid (aq3 (p:=p) hlt)
   have HM:=Lib.hid (List.getElem_mem hlt)
   have HCS:=Lib.hid hcs
   have HC:=Lib.hid hc
   have HI:Hid ((prog.info? 52).map (·.size)=some cs.length):=by rw [← hcs.length,HL.out];exact awK
   clear hcs hc
   go_wp2_with (refine mF rfl 52 (.tmp 14) rfl b (off+k*2) rfl cs _ underlying52 HI.out HC.out ?_)
   refine(HH.out _ HM.out _ _ hw HCS.out).mono ?_;rintro e w1 ⟨rfl,hw1⟩
   have HW1:=Lib.hid (hw.trans hw1)
   clear hw1
   cases hp:p xs[k]
   ·have HP:=Lib.hid hp
    clear hp
    go_wp2_with fail
    go_roundw
    case rel=>exact⟨k+1,by omega,by go_num,HW1.out,by rw [HE.out,HST.out,HP.out];rfl⟩
    case measure=>simp [intOf];omega
   ·have HP:=Lib.hid hp
    clear hp
    go_wp2_with fail
    go_ret
    exact⟨apM (by rw [HE.out,HST.out,HP.out];rfl),HW1.out⟩
  ·have hkl:k=xs.length:=by omega
   go_wp2_with fail
   go_ret
   exact⟨apM (by rw [HE.out,hkl,List.drop_length];rfl),hw⟩
structure VH (S:Nat→Prop) (w w':World):Prop where
 os:w'.os=w.os
 tape:w'.tape=w.tape
 output:w'.output=w.output
 size:w.heap.size≤w'.heap.size
 block: ∀b,b<w.heap.size→ ¬S b→w'.heap[b]?=w.heap[b]?
theorem VH.refl(S:Nat→Prop)(w:World):VH S w w:=⟨rfl,rfl,rfl,Nat.le_refl _,fun _ _ _=>rfl⟩
theorem VH.trans{S:Nat→Prop}{a b c:World}(h:VH S a b)(k:VH S b c):VH S a c:=
 ⟨k.os.trans h.os,k.tape.trans h.tape,k.output.trans h.output,Nat.le_trans h.size k.size,fun x hx hs=>(k.block x (Nat.lt_of_lt_of_le hx h.size) hs).trans (h.block x hx hs)⟩
theorem VH.mono{S S':Nat→Prop}{a b:World}(h:VH S a b)(hS: ∀x,S x→S' x):VH S' a b:=⟨h.os,h.tape,h.output,h.size,fun x hx hn=>h.block x hx fun hs=>hn (hS x hs)⟩
theorem VH.of_ext{S:Nat→Prop}{a b:World}(h:wI a b):VH S a b:=⟨h.os,h.tape,h.output,h.size,fun x hx _=>h.block x hx⟩
theorem QI{S:Nat→Prop}{B:Nat}{a b:World}(h:a.grownBy b (some B))(hB:S B):VH S a b:=⟨h.os,h.tape,h.output,h.size,fun x hx hs=>h.block x hx (by simp;rintro rfl;exact hs hB)⟩
theorem VH.ext{S:Nat→Prop}{a b c:World}(h:wI a b)(k:VH S b c)(hS: ∀x,S x→a.heap.size≤x):wI a c:=
 ⟨k.os.trans h.os,k.tape.trans h.tape,k.output.trans h.output,Nat.le_trans h.size k.size,fun x hx=>(k.block x (Nat.lt_of_lt_of_le hx h.size) (fun hs=>by have:=hS x hs;omega)).trans (h.block x hx)⟩
theorem D2.focus{w:World}{sz:Nat}{es:Z (Z Tr)}{a:J Addr}{n cap i:Nat}{S:Nat→Prop}{e:Z Tr}(h:D2 w (.row sz es) (.slice a n cap) S)(hi:es[i]?=some e)(hl: ∀x∈es,x.length=sz):
 ∃b off E arr cs T,a=some ⟨b,off,none⟩∧OB w b E arr∧S b∧BT w e cs T∧(∀x,T x→S x∧x≠b)∧cs.length=sz∧(0<sz→off+i*sz+sz≤arr.size)∧(∀j v,cs[j]?=some v→arr[off+i*sz+j]?=some v)∧
  ∀w' cs' e',e'.length=sz→OB w' b E (splice arr (off+i*sz) cs')→BT w' e' cs' T→(∀x,x<w.heap.size→S x→x≠b→ ¬T x→w'.heap[x]?=w.heap[x]?)→off+i*sz+sz≤arr.size→
   D2 w' (.row sz (es.set i e')) (.slice a n cap) S:=by
 cases h with
 |row c T h1 h2 h3 h4 h5 h6=>
  have hne:es≠ []:=by rintro rfl;simp at hi
  obtain⟨b,off,E,arr,rfl,hob,hs,hc⟩:=h3 hne
  have hlt:i<es.length:=(List.getElem?_eq_some_iff.1 hi).1
  have hel:e.length=sz:=hl e (List.mem_of_getElem? hi)
  have hgj: ∀j,j<sz→ ∃d,e[j]?=some d:=fun j hj=>⟨e[j]'(by omega),List.getElem?_eq_getElem _⟩
  refine⟨b,off,E,arr,(List.range sz).map (c i),fun x=> ∃j,j<sz∧T i j x,rfl,hob,hs,?_,?_,by simp,?_,?_,?_⟩
  ·refine⟨by simp [hel],fun j x=>j<sz∧T i j x,?_,?_,?_⟩
   ·intro j d hd
    have hj:j<sz:=by rw [← hel];exact(List.getElem?_eq_some_iff.1 hd).1
    exact⟨c i j,by simp [hj],(h4 i e hi j d hd).mono fun x hx=>⟨hj,hx⟩⟩
   ·intro j d hd x hx
    exact⟨j,hx⟩
   ·intro j d hd j' d' hd' hne x hx hx'
    exact h6 i e hi j d hd i e hi j' d' hd' (fun _=>hne) x hx.2 hx'.2
  ·rintro x ⟨j,hj,hx⟩
   obtain⟨d,hd⟩:=hgj j hj
   exact⟨h5 i e hi j d hd x hx,(hc i e hi j d hd).2 x hx⟩
  ·intro h0
   obtain⟨d,hd⟩:=hgj (sz-1) (by omega)
   have:=(hc i e hi _ d hd).1
   have:=(Array.getElem?_eq_some_iff.1 this).1
   omega
  ·intro j v hv
   rw [List.getElem?_map] at hv
   rcases Nat.lt_or_ge j sz with hj|hj
   ·rw [List.getElem?_range hj] at hv
    simp at hv
    obtain⟨d,hd⟩:=hgj j hj
    rw [← hv]
    exact(hc i e hi j d hd).1
   ·rw [List.getElem?_eq_none (by simpa using hj)] at hv
    simp at hv
  ·intro w' cs' e' hel' hob' how hx hfit
   obtain⟨hcl,U,u1,u2,u3⟩:=how
   have hcl:cs'.length=sz:=by omega
   have hset:(es.set i e').length=es.length:=by simp
   have get: ∀i' e2,(es.set i e')[i']?=some e2→(i'=i∧e2=e')∨(i'≠i∧es[i']?=some e2):=by
    intro i' e2 h
    rw [List.getElem?_set] at h
    split at h
    ·rename_i hii
     subst hii
     simp only [Option.some.injEq] at h
     exact .inl ⟨rfl,h.symm⟩
    ·rename_i hii
     exact .inr ⟨fun e=>hii e.symm,h⟩
   have keep: ∀i' e2,i'≠i→es[i']?=some e2→ ∀j d,e2[j]?=some d→ ∀x,T i' j x→x<w.heap.size→w'.heap[x]?=w.heap[x]?:=by
    intro i' e2 hne' he2 j d hd x hx' hxl
    refine hx x hxl (h5 i' e2 he2 j d hd x hx') ((hc i' e2 he2 j d hd).2 x hx') ?_;rintro⟨j',hj',hT⟩
    obtain⟨d',hd'⟩:=hgj j' hj'
    exact h6 i' e2 he2 j d hd i e hi j' d' hd' (fun h=>absurd h hne') x hx' hT
   rw [← hset]
   refine .row (fun i' j=>if i'=i then(cs'[j]?).getD undef else c i' j) (fun i' j=>if i'=i then U j else T i' j) (by rw [hset];exact h1) h2 ?_ ?_ ?_ ?_
   ·intro _
    refine⟨b,off,E,_,rfl,hob',hs,?_⟩
    intro i' e2 he2 j d hd
    rcases get i' e2 he2 with⟨rfl,rfl⟩|⟨hne',he2⟩
    ·simp only [if_true]
     have hj:j<sz:=by rw [← hel'];exact(List.getElem?_eq_some_iff.1 hd).1
     refine⟨?_,fun x hx'=>?_⟩
     ·have h7:=alJ (arr:=arr) (o:=off+i'*sz) (vs:=cs') (by omega)
      have h8:(((splice arr (off+i'*sz) cs').toList.drop (off+i'*sz)).take cs'.length)[j]?=cs'[j]?:=by rw [h7]
      rw [List.getElem?_take,if_pos (by omega),List.getElem?_drop] at h8
      have h9:cs'[j]?=some (cs'[j]'(by omega)):=List.getElem?_eq_getElem _
      rw [h9] at h8 ⊢
      simpa using h8
     ·obtain⟨j2,hj2,hT⟩:=u2 j d hd x hx'
      obtain⟨d2,hd2⟩:=hgj j2 hj2
      exact(hc i' e hi j2 d2 hd2).2 x hT
    ·simp only [if_neg hne']
     obtain⟨q1,q2⟩:=hc i' e2 he2 j d hd
     have hl2:e2.length=sz:=hl e2 (List.mem_of_getElem? he2)
     have hj:j<sz:=by rw [← hl2];exact(List.getElem?_eq_some_iff.1 hd).1
     refine⟨?_,q2⟩
     rw [← q1]
     unfold splice
     have hsz:0<sz:=by omega
     rcases Nat.lt_or_ge i' i with hlt'|hge
     ·have h10:(i'+1)*sz≤i*sz:=Nat.mul_le_mul_right _ hlt'
      rw [Nat.succ_mul] at h10
      rw [List.getElem?_toArray,List.append_assoc,List.getElem?_append_left (by simp;omega),List.getElem?_take,if_pos (by omega)]
      simp
     ·have h10:(i+1)*sz≤i'*sz:=Nat.mul_le_mul_right _ (by omega)
      rw [Nat.succ_mul] at h10
      rw [List.getElem?_toArray,List.getElem?_append_right (by simp;omega),List.getElem?_drop]
      simp only [List.length_append,List.length_take,Array.length_toList]
      rw [Nat.min_eq_left (by omega),Array.getElem?_toList]
      congr 1
      omega
   ·intro i' e2 he2 j d hd
    rcases get i' e2 he2 with⟨rfl,rfl⟩|⟨hne',he2⟩
    ·simp only [if_true]
     obtain⟨v,hv,ho⟩:=u1 j d hd
     simpa [hv] using ho
    ·simp only [if_neg hne']
     exact(h4 i' e2 he2 j d hd).keep fun x hx' hxl=>keep i' e2 hne' he2 j d hd x hx' hxl
   ·intro i' e2 he2 j d hd x hx'
    rcases get i' e2 he2 with⟨rfl,rfl⟩|⟨hne',he2⟩
    ·simp only [if_true] at hx'
     obtain⟨j2,hj2,hT⟩:=u2 j d hd x hx'
     obtain⟨d2,hd2⟩:=hgj j2 hj2
     exact h5 i' e hi j2 d2 hd2 x hT
    ·simp only [if_neg hne'] at hx'
     exact h5 i' e2 he2 j d hd x hx'
   ·intro i' e2 he2 j d hd i'' e3 he3 j' d' hd' hne x hx1 hx2
    rcases get i' e2 he2 with⟨rfl,rfl⟩|⟨hne',he2⟩
    ·simp only [if_true] at hx1
     rcases get i'' e3 he3 with⟨rfl,rfl⟩|⟨hne'',he3⟩
     ·simp only [if_true] at hx2
      exact u3 j d hd j' d' hd' (hne rfl) x hx1 hx2
     ·simp only [if_neg hne''] at hx2
      obtain⟨j2,hj2,hT⟩:=u2 j d hd x hx1
      obtain⟨d2,hd2⟩:=hgj j2 hj2
      exact h6 i'' e3 he3 j' d' hd' i' e hi j2 d2 hd2 (fun h=>absurd h hne'') x hx2 hT
    ·simp only [if_neg hne'] at hx1
     have he2':=he2
     rcases get i'' e3 he3 with⟨rfl,rfl⟩|⟨hne'',he3⟩
     ·simp only [if_true] at hx2
      obtain⟨j2,hj2,hT⟩:=u2 j' d' hd' x hx2
      obtain⟨d2,hd2⟩:=hgj j2 hj2
      exact h6 i' e2 he2' j d hd i'' e hi j2 d2 hd2 (fun h=>absurd h hne') x hx1 hT
     ·simp only [if_neg hne''] at hx2
      exact h6 i' e2 he2 j d hd i'' e3 he3 j' d' hd' hne x hx1 hx2
theorem BT.setLeaf{w:World}{ts:Z Tr}{cs:Z Value}{T:Nat→Prop}{j:Nat}{u:Tr}{v:Value}(h:BT w ts cs T)(hj:ts[j]?=some u)(hv:sN v):BT w (ts.set j (.leaf v)) (cs.set j v) T:=by
 obtain⟨hl,U,h1,h2,h3⟩:=h
 have hlt:j<ts.length:=(List.getElem?_eq_some_iff.1 hj).1
 have old: ∀i d,(ts.set j (.leaf v))[i]?=some d→(i=j∧d= .leaf v)∨(i≠j∧ts[i]?=some d):=by
  intro i d hd
  rw [List.getElem?_set] at hd
  split at hd
  ·rename_i hij
   subst hij
   simp only [Option.some.injEq] at hd
   exact .inl ⟨rfl,hd.symm⟩
  ·rename_i hij
   exact .inr ⟨fun e=>hij e.symm,hd⟩
 refine⟨by simp [hl],fun i x=>i≠j∧U i x,?_,?_,?_⟩
 ·intro i d hd
  rcases old i d hd with⟨rfl,rfl⟩|⟨hne,hd⟩
  ·exact⟨v,by rw [List.getElem?_set];simp [hl,hlt],.leaf hv⟩
  ·obtain⟨v',hv',ho⟩:=h1 i d hd
   exact⟨v',by rw [List.getElem?_set];rw [if_neg (fun e=>hne e.symm)];exact hv',ho.mono fun x hx=>⟨hne,hx⟩⟩
 ·intro i d hd x hx
  rcases old i d hd with⟨rfl,rfl⟩|⟨hne,hd⟩
  ·exact(hx.1 rfl).elim
  ·exact h2 i d hd x hx.2
 ·intro i d hd i' d' hd' hne x hx hx'
  rcases old i d hd with⟨rfl,rfl⟩|⟨_,hd⟩
  ·exact hx.1 rfl
  ·rcases old i' d' hd' with⟨rfl,rfl⟩|⟨_,hd'⟩
   ·exact hx'.1 rfl
   ·exact h3 i d hd i' d' hd' hne x hx.2 hx'.2
theorem BT.setRow{w:World}{ts:Z Tr}{cs:Z Value}{T:Nat→Prop}{j:Nat}{t:Tr}{v:Value}(h:BT w ts cs T)(hj:ts[j]?=some t)(hv:cs[j]?=some v):
 ∃U:Nat→Prop,D2 w t v U∧(∀x,U x→T x)∧ ∀w' t',D2 w' t' v U→(∀x,x<w.heap.size→T x→ ¬U x→w'.heap[x]?=w.heap[x]?)→BT w' (ts.set j t') cs T:=by
 obtain⟨hl,U,h1,h2,h3⟩:=h
 have hlt:j<ts.length:=(List.getElem?_eq_some_iff.1 hj).1
 obtain⟨v1,hv1,ho1⟩:=h1 j t hj
 rw [hv] at hv1
 injection hv1 with hv1
 subst hv1
 refine⟨U j,ho1,h2 j t hj,fun w' t' ho' hk=>⟨by simp [hl],U,?_,?_,?_⟩⟩
 all_goals
  have old: ∀i d,(ts.set j t')[i]?=some d→(i=j∧d=t')∨(i≠j∧ts[i]?=some d):=by
   intro i d hd
   rw [List.getElem?_set] at hd
   split at hd
   ·rename_i hij
    subst hij
    simp only [Option.some.injEq] at hd
    exact .inl ⟨rfl,hd.symm⟩
   ·rename_i hij
    exact .inr ⟨fun e=>hij e.symm,hd⟩
 ·intro i d hd
  rcases old i d hd with⟨rfl,rfl⟩|⟨hne,hd⟩
  ·exact⟨v,hv,ho'⟩
  ·obtain⟨v',hv',ho⟩:=h1 i d hd
   exact⟨v',hv',ho.keep fun x hx hxl=>hk x hxl (h2 i d hd x hx) (fun hu=>h3 i d hd j t hj hne x hx hu)⟩
 ·intro i d hd x hx
  rcases old i d hd with⟨rfl,rfl⟩|⟨hne,hd⟩
  ·exact h2 i t hj x hx
  ·exact h2 i d hd x hx
 ·intro i d hd i' d' hd' hne x hx hx'
  rcases old i d hd with⟨rfl,rfl⟩|⟨hne1,hd1⟩
  ·rcases old i' d' hd' with⟨rfl,rfl⟩|⟨_,hd2⟩
   ·exact hne rfl
   ·exact h3 i t hj i' d' hd2 hne x hx hx'
  ·rcases old i' d' hd' with⟨rfl,rfl⟩|⟨_,hd2⟩
   ·exact h3 i d hd1 i' t hj hne x hx hx'
   ·exact h3 i d hd1 i' d' hd2 hne x hx hx'
structure Foc (w0 wr:World) (b:Nat) (E:TypeId) (arr0:Array Value) (o sz:Nat) (ts:List Tr) (cs:List Value) (T:Nat→Prop):Prop where
 arr: ∃arr,OB wr b E arr∧arr.size=arr0.size∧(∀q,q<o∨o+sz≤q→arr[q]?=arr0[q]?)∧(∀j v,cs[j]?=some v→arr[o+j]?=some v)
 own:BT wr ts cs T
 chg:VH (fun x=>x=b∨T x) w0 wr
 notin: ¬T b
 len:cs.length=sz
 fit:o+sz≤arr0.size
 tlt: ∀x,T x→x<w0.heap.size
 blt:b<w0.heap.size
theorem JB{arr:Array Value}{o:Nat}{cs:Z Value}(h:o+cs.length≤arr.size)(q:Nat):(splice arr o cs)[q]?=if q<o then arr[q]? else if q<o+cs.length then cs[q-o]? else arr[q]?:=by
 unfold splice
 rw [List.getElem?_toArray,List.append_assoc]
 by_cases h1:q<o
 ·rw [if_pos h1,List.getElem?_append_left (by simp;omega),List.getElem?_take,if_pos h1];simp
 ·rw [if_neg h1,List.getElem?_append_right (by simp;omega)]
  have hl:(List.take o arr.toList).length=o:=by simp;omega
  rw [hl]
  by_cases h2:q<o+cs.length
  ·rw [if_pos h2,List.getElem?_append_left (by omega)]
  ·rw [if_neg h2,List.getElem?_append_right (by omega),List.getElem?_drop,Array.getElem?_toList]
   congr 1;omega
theorem Foc.leaf{w0 wr w':World}{b:Nat}{E:TypeId}{arr0 arr:Array Value}{o sz:Nat}{ts:Z Tr}{cs:Z Value}{T:Nat→Prop}(h:Foc w0 wr b E arr0 o sz ts cs T){j:Nat}{u:Tr}{v:Value}(hj:ts[j]?=some u)(hv:sN v)
 (ha:OB wr b E arr) (hob:OB w' b E (splice arr (o+j) [v])) (hg:wr.grownBy w' (some b)):Foc w0 w' b E arr0 o sz (ts.set j (.leaf v)) (cs.set j v) T:=by
 obtain⟨arr1,h1,h2,h3,h4⟩:=h.arr
 have he:=ha.symm.trans h1
 injection he with he
 injection he with he
 subst he
 have hlt:j<ts.length:=(List.getElem?_eq_some_iff.1 hj).1
 have hsz:j<sz:=by rw [← h.len,h.own.1];exact hlt
 have hfit:=h.fit
 have hw:VH (fun x=>x=b) wr w':=QI hg rfl
 refine⟨⟨_,hob,by rw [alK (by simp;omega)];exact h2,?_,?_⟩,(h.own.setLeaf hj hv).keep fun x hx hxl=>hw.block x hxl (by rintro rfl;exact h.notin hx),h.chg.trans (hw.mono fun x hx=> .inl hx),h.notin,by rw [List.length_set];exact h.len,h.fit,h.tlt,h.blt⟩
 ·intro q hq
  rw [JB (by simp;omega)]
  simp only [List.length_cons,List.length_nil]
  rw [← h3 q hq]
  split
  ·rfl
  ·rw [if_neg (by omega)]
 ·intro i x hx
  rw [JB (by simp;omega)]
  simp only [List.length_cons,List.length_nil]
  rw [List.getElem?_set] at hx
  split at hx
  ·rename_i hji
   subst hji
   split at hx
   ·injection hx with hx
    subst hx
    rw [if_neg (by omega),if_pos (by omega)]
    simp
   ·simp at hx
  ·rename_i hji
   have:=h4 i x hx
   split
   ·exact this
   ·rw [if_neg (by omega)];exact this
theorem Foc.row{w0 wr:World}{b:Nat}{E:TypeId}{arr0:Array Value}{o sz:Nat}{ts:Z Tr}{cs:Z Value}{T:Nat→Prop}(h:Foc w0 wr b E arr0 o sz ts cs T){j:Nat}{t:Tr}{v:Value}(hj:ts[j]?=some t)(hv:cs[j]?=some v):
 ∃U:Nat→Prop,D2 wr t v U∧(∀x,U x→x<wr.heap.size)∧ ∀w' t',D2 w' t' v U→VH U wr w'→Foc w0 w' b E arr0 o sz (ts.set j t') cs T:=by
 obtain⟨U,hu1,hu2,hu3⟩:=h.own.setRow hj hv
 refine⟨U,hu1,fun x hx=>Nat.lt_of_lt_of_le (h.tlt x (hu2 x hx)) h.chg.size,fun w' t' ho hc=>?_⟩
 obtain⟨arr,h1,h2,h3,h4⟩:=h.arr
 have hnb: ¬U b:=fun hx=>h.notin (hu2 b hx)
 exact⟨⟨arr,(hc.block b h1.lt hnb).trans h1,h2,h3,h4⟩,hu3 w' t' ho fun x hxl _ hn=>hc.block x hxl hn,h.chg.trans (hc.mono fun x hx=> .inr (hu2 x hx)),h.notin,h.len,h.fit,h.tlt,h.blt⟩
theorem D2.take{w:World}{sz:Nat}{es:Z (Z Tr)}{a:J Addr}{n cap i:Nat}{S:Nat→Prop}{e:Z Tr}(h:D2 w (.row sz es) (.slice a n cap) S)(hi:es[i]?=some e)(hl: ∀x∈es,x.length=sz)(hsz:0<sz)(hS: ∀x,S x→x<w.heap.size):
 ∃b off E arr cs T,a=some ⟨b,off,none⟩∧Foc w w b E arr (off+i*sz) sz e cs T∧iV w e cs∧
  ∀w' cs' e',e'.length=sz→Foc w w' b E arr (off+i*sz) sz e' cs' T→D2 w' (.row sz (es.set i e')) (.slice a n cap) S∧VH S w w':=by
 obtain⟨b,off,E,arr,cs,T,rfl,hob,hsb,how,hT,hcl,hfit,hc,hback⟩:=h.focus hi hl
 refine⟨b,off,E,arr,cs,T,rfl,⟨⟨arr,hob,rfl,fun _ _=>rfl,fun j v hv=>hc j v hv⟩,how,VH.refl _ _,fun hb=>(hT b hb).2 rfl,hcl,hfit hsz,fun x hx=>hS x (hT x hx).1,hob.lt⟩,how.rep,fun w' cs' e' he' hf=>?_⟩
 obtain⟨arr',h1,h2,h3,h4⟩:=hf.arr
 have hz:=hf.len
 have hfit:=hf.fit
 have harr:arr'=splice arr (off+i*sz) cs':=by
  apply Array.ext_getElem?
  intro q
  rw [JB (by omega)]
  split
  ·rename_i hq
   exact h3 q (.inl hq)
  ·split
   ·rename_i hq1 hq2
    obtain⟨v,hv⟩: ∃v,cs'[q-(off+i*sz)]?=some v:=⟨cs'[q-(off+i*sz)]'(by omega),List.getElem?_eq_getElem _⟩
    rw [hv,← h4 _ v hv]
    congr 1;omega
   ·rename_i hq1 hq2
    exact h3 q (.inr (by omega))
 rw [harr] at h1
 have hch:VH S w w':=hf.chg.mono fun x hx=>by rcases hx with rfl|hx;exact hsb;exact(hT x hx).1
 exact⟨hback w' cs' e' he' h1 hf.own (fun x hxl _ hne hnt=>hf.chg.block x hxl (by rintro(h|h);exact hne h;exact hnt h)) hf.fit,hch⟩
theorem ad3{α:Type}(p:α→Bool): ∀(l:Z α) (i:Nat),(acE p l i= -1∧ ∀x∈l,p x=false)∨ ∃k,∃h:k<l.length,acE p l i=((i+k:Nat):Int)∧p l[k]=true∧ ∀x∈l.take k,p x=false
 | [],i=> .inl ⟨rfl,fun x hx=>by simp at hx⟩
 |a::l,i=>by
  rw [acE]
  cases ha:p a with
  |true=>exact .inr ⟨0,by simp,by simp,by simpa using ha,by simp⟩
  |false=>
   rcases ad3 p l (i+1) with⟨h1,h2⟩|⟨k,hk,h1,h2,h3⟩
   ·exact .inl ⟨by simpa using h1,fun x hx=>by
     rcases List.mem_cons.1 hx with rfl|hx
     ·exact ha
     ·exact h2 x hx⟩
   ·refine .inr ⟨k+1,by simpa using hk,?_,by simpa using h2,fun x hx=>?_⟩
    ·simp only [Bool.false_eq_true,if_false]
     rw [h1]
     congr 1
     omega
    ·rw [List.take_succ_cons] at hx
     rcases List.mem_cons.1 hx with rfl|hx
     ·exact ha
     ·exact h3 x hx
structure NU {α:Type} (p:α→Bool) (l:List α) (i j:Nat) (dk:List α):Prop where
 len:dk.length=l.length
 lt:i<j
 low:dk.take i=(l.take j).filter (fun x=> !p x)
 high: ∀q,j≤q→dk[q]?=l[q]?
theorem NU.start{α:Type}{p:α→Bool}{l:Z α}{k:Nat}(hk:k<l.length)(ht:p l[k]=true)(hf: ∀x∈l.take k,p x=false):NU p l k (k+1) l:=by
 refine⟨rfl,by omega,?_,fun _ _=>rfl⟩
 rw [List.take_succ_eq_append_getElem hk,List.filter_append,List.filter_eq_self.2 (fun x hx=>by simp [hf x hx])]
 simp [ht]
theorem NU.keep{α:Type}{p:α→Bool}{l dk:Z α}{i j:Nat}(h:NU p l i j dk)(hj:j<l.length)(hp:p l[j]=false):NU p l (i+1) (j+1) (dk.set i l[j]):=by
 have hl:=h.len
 have hlt:=h.lt
 refine⟨by simp [hl],by omega,?_,fun q hq=>?_⟩
 ·rw [List.take_succ_eq_append_getElem hj,List.filter_append,← h.low]
  rw [List.take_succ_eq_append_getElem (by simp;omega),List.take_set_of_le (Nat.le_refl _)]
  simp [hp]
 ·rw [List.getElem?_set_ne (by omega)]
  exact h.high q (by omega)
theorem NU.skip{α:Type}{p:α→Bool}{l dk:Z α}{i j:Nat}(h:NU p l i j dk)(hj:j<l.length)(hp:p l[j]=true):NU p l i (j+1) dk:=by
 have hlt:=h.lt
 refine⟨h.len,by omega,?_,fun q hq=>h.high q (by omega)⟩
 rw [List.take_succ_eq_append_getElem hj,List.filter_append,← h.low]
 simp [hp]
theorem D2.head{w:World}{sz:Nat}{es:Z (Z Tr)}{a:J Addr}{n cap i:Nat}{S:Nat→Prop}(h:D2 w (.row sz es) (.slice a n cap) S)(hi:i≤es.length):D2 w (.row sz (es.take i)) (.slice a i cap) S:=by
 cases h with
 |row c T h1 h2 h3 h4 h5 h6=>
  have hg: ∀q e,(es.take i)[q]?=some e→es[q]?=some e:=fun q e he=>by
   rw [List.getElem?_take] at he
   split at he
   ·exact he
   ·cases he
  have hl:(es.take i).length=i:=by simp;omega
  have:=D2.row (w:=w) (sz:=sz) (es:=es.take i) (a:=a) (cap:=cap) (S:=S) c T (by omega) h2 (fun hne=>by
   obtain⟨b,off,E,arr,ha,hob,hs,hc⟩:=h3 (fun h0=>hne (by rw [h0];simp))
   exact⟨b,off,E,arr,ha,hob,hs,fun q e he=>hc q e (hg q e he)⟩) (fun q e he=>h4 q e (hg q e he)) (fun q e he=>h5 q e (hg q e he)) (fun q e he j d hd q' e' he'=>h6 q e (hg q e he) j d hd q' e' (hg q' e' he'))
  rwa [hl] at this
theorem adQ{w0 w:World}{S:Nat→Prop}: ∀ {ts:Z Tr} {cs:Z Value},iV w0 ts cs→(∀d∈ts,∃v,d= .leaf v)→BT w ts cs S
 | [],cs,h,_=>by
  obtain rfl:=aiL h
  exact BT.nil _ _
 |t::ts,cs,h,hf=>by
  obtain⟨v,rfl⟩:=hf t (by simp)
  cases cs with
  |nil=>exact h.elim
  |cons c cs=>
   obtain⟨rfl,hv⟩:=h.1.leaf_eq
   exact YM hv (adQ h.2 fun d hd=>hf d (List.mem_cons_of_mem _ hd))
theorem Z4(x:aF): ∀d∈aF.tr x,∃v,d= .leaf v:=by
 obtain⟨a,b⟩:=x
 intro d hd
 simp only [aF.tr,List.mem_append,List.mem_singleton,List.not_mem_nil,or_false] at hd
 rcases hd with rfl|rfl
 ·exact⟨_,rfl⟩
 ·exact⟨_,rfl⟩
theorem acL{P:Program}(t e ty:TypeId)(z:Value)(ht:P.underlying t=some (.slice e))(hv: ∀w,(zeroValue e).run P w= .ok z w)(B off n c:Nat)(E:TypeId)(arr:Array Value)(w:World)(hob:OB w B E arr)(hn:0<n)(zs:Z Value)(hz:(Builtin.zeroCells z.cells n).toList=zs)
 (hfit:off+zs.length≤arr.size) (h1: ∀v∈zs,v.oneCell'=true):(Builtin.clear_ #[t] ty #[.slice (some ⟨B,off,none⟩) n c]).run P w= .ok (.tuple #[]) (w.setRow B (splice arr off zs)):=by
 have hst:=run_storeCells_at P B off E zs 0 arr w hob (by simpa using hfit) h1
 simp only [Nat.add_zero] at hst
 obtain⟨m,rfl⟩: ∃m,n=m+1:=⟨n-1,by omega⟩
 simp [Builtin.clear_,run_underlying ht,hv,hz,hst,splice]
theorem D2.cellsSame{w w':World}{sz b off n cap:Nat}{es:Z (Z Tr)}{S:Nat→Prop}{E E':TypeId}{arr arr':Array Value}(h:D2 w (.row sz es) (.slice (some ⟨b,off,none⟩) n cap) S)(hob:OB w b E arr)(hob':OB w' b E' arr')
 (hc: ∀q j,q<es.length→j<sz→arr'[off+q*sz+j]?=arr[off+q*sz+j]?) (hl: ∀e∈es,e.length=sz) (hf: ∀e∈es,∀d∈e,∃v,d= .leaf v):D2 w' (.row sz es) (.slice (some ⟨b,off,none⟩) n cap) S:=by
 cases h with
 |row c T h1 h2 h3 h4 h5 h6=>
  refine .row c (fun _ _ _=>False) h1 h2 (fun hne=>?_) (fun i e he j d hd=>?_) (fun _ _ _ _ _ _ x hx=>hx.elim) (fun _ _ _ _ _ _ _ _ _ _ _ _ _ x hx=>hx.elim)
  ·obtain⟨b1,off1,E1,arr1,ha,ho,hs,hcc⟩:=h3 hne
   obtain⟨rfl,rfl⟩:b=b1∧off=off1:=by simpa using ha
   have he:arr1=arr∧E1=E:=by
    have:=ho.symm.trans hob
    simpa using this
   obtain⟨rfl,rfl⟩:=he
   refine⟨b,off,E',arr',rfl,hob',hs,fun i e he j d hd=>⟨?_,fun x hx=>hx.elim⟩⟩
   have hle:=hl e (List.mem_of_getElem? he)
   rw [hc i j (List.getElem?_eq_some_iff.1 he).1 (by rw [← hle];exact(List.getElem?_eq_some_iff.1 hd).1)]
   exact(hcc i e he j d hd).1
  ·obtain⟨v,rfl⟩:=hf e (List.mem_of_getElem? he) d (List.mem_of_getElem? hd)
   obtain⟨hv,hl⟩:=(h4 i e he j _ hd).rep.leaf_eq
   rw [hv]
   exact .leaf hl
theorem aoZ(a b:Value)(n:Nat):(Builtin.zeroCells #[a,b] n).toList.length=n*2∧ ∀v∈(Builtin.zeroCells #[a,b] n).toList,v=a∨v=b:=by
 refine⟨by simp [Builtin.zeroCells],fun v hv=>?_⟩
 simp only [Builtin.zeroCells,Array.toList_map,List.mem_map] at hv
 obtain⟨i,_,rfl⟩:=hv
 have:i%2=0∨i%2=1:=by omega
 rcases this with h|h<;>simp [h]
set_option maxRecDepth 100000 in
set_option maxHeartbeats 2000000 in
theorem YX(l:Z aF)(p:aF→Bool)(g:FuncId)(caps:Array Value)(hg: ∀(args:Array Value) (w:World),(callFunc g args).run prog w= .ok (.enter g args) w)(s:Value)(w:World)(S:Nat→Prop)(hS: ∀x,S x→x<w.heap.size)
 (H: ∀x∈l,∀cs W,VH S w W→iV W (aF.tr x) cs→Calls prog g (#[.agg ⟨cs⟩]++caps) W fun e W'=>e= .returned (.bool (p x))∧wI W W')
 (hs:D2 w (.row 2 (l.map aF.tr)) s S):
 Calls prog 179 #[s,.func (.func g) #[] caps] w fun e w'=> ∃v,e= .returned v∧VH S w w'∧D2 w' (.row 2 ((l.filter (fun x=> !p x)).map aF.tr)) v S:=by
 obtain⟨a,cap,rfl,hlc,hm⟩:=hs.rep.shape
 unfold maxLen at hm
 rw [List.length_map] at hlc
 rw [List.length_map] at hs ⊢
 have HS:=Lib.hid hs
 have HH:=Lib.hid H
 have HSS:=Lib.hid hS
 clear hs H hS
 go_enter func179,ntmps179
 go_wp2_with fail
 refine(acI aF.tr p l g caps hg aF.tr_len _ _ (fun x hx cs w' hw hr=>HH.out x hx cs w' (.of_ext hw) hr) HS.out.rep).mono ?_;rintro e w1 ⟨rfl,hw1⟩
 have HW1:=Lib.hid hw1
 clear hw1
 rcases ad3 p l 0 with⟨e1,hall⟩|⟨k0,hk0,e1,ht,hall⟩
 ·have HA:=Lib.hid hall
  rw [e1]
  clear hall e1
  go_wp2_with fail
  go_ret
  refine⟨_,rfl,.of_ext HW1.out,?_⟩
  rw [List.filter_eq_self.2 (fun x hx=>by simp [HA.out x hx])]
  exact HS.out.ext HW1.out
 ·have HD:=Lib.hid (NU.start hk0 ht hall)
  rw [e1,Nat.zero_add]
  clear ht hall e1
  have hne: ¬((k0:Int)= -1):=by omega
  go_wp2_with fail
  go_loopw [5,6] (fun iv jv wr=> ∃(i j:Nat) (dk:Z aF),iv= .int .i64 i∧jv= .int .i64 j∧i<j∧j≤l.length∧Hid (NU p l i j dk)∧Hid (VH S w wr)∧Hid (D2 wr (.row 2 (dk.map aF.tr)) (.slice a l.length cap) S)) (fun _ jv _=>l.length-(intOf jv).toNat)
  case atStart=>exact⟨k0,k0+1,l,rfl,by go_num,by omega,by omega,HD.out,VH.of_ext HW1.out,HS.out.ext HW1.out⟩
  case round=>
   obtain⟨i,j,dk,rfl,rfl,hij,hjl,HD1,HC1,HO1⟩:=hrel
   by_cases hlt:j<l.length
   ·have hdl:=HD1.out.len
    have hjd:dk[j]?=some l[j]:=by rw [HD1.out.high j (Nat.le_refl _)];exact List.getElem?_eq_getElem hlt
    obtain⟨b,off,cs,rfl,hb,hcs,hc⟩:=(HO1.out.rep).at2 (k:=j) (e:=aF.tr l[j]) (by rw [List.getElem?_map,hjd];rfl)
    have HM:=Lib.hid (List.getElem_mem hlt)
    have HCS:=Lib.hid hcs
    have HC:=Lib.hid hc
    have HCL:Hid (cs.length=2):=by rw [← hcs.length];exact aF.tr_len _
    have HI:Hid ((prog.info? 52).map (·.size)=some cs.length):=by rw [HCL.out];exact awK
    have HDL:=Lib.hid hdl
    clear hcs hc hdl hjd
    go_wp2_with (first
     |(refine mF rfl 52 (.tmp 24) rfl b (off+j*2) rfl cs _ underlying52 HI.out HC.out ?_)
     |(refine t7 rfl 52 (.tmp 7) (.tmp 25) rfl wr.heap.size 0 rfl cs rfl 52 _ (OB.new wr _ _) HI.out (by rw [HCL.out];exact Nat.le_refl _) HCS.out.one ?_;intro w2 hob hgb hzb;rw [JC (by rw [HCL.out];rfl)] at hob;have HOB:=Lib.hid hob;have HXB:=Lib.hid (TK (.alloc (.refl wr) _) hgb (Nat.le_refl _));clear hob hgb hzb)
     |(refine mF rfl 52 (.tmp 7) rfl wr.heap.size 0 rfl cs _ underlying52 HI.out HOB.out.cells0 ?_))
    refine(HH.out _ HM.out cs w2 (HC1.out.trans (.of_ext HXB.out)) (HCS.out.ext HXB.out)).mono ?_;rintro e w3 ⟨rfl,hw3⟩
    have HW3:=Lib.hid (HXB.out.trans hw3)
    have HOB3:=Lib.hid (HOB.out.ext hw3)
    have HC3:=Lib.hid (HC1.out.trans (.of_ext HW3.out))
    have HO3:=Lib.hid (HO1.out.ext HW3.out)
    clear hw3
    cases hp:p l[j] with
    |true=>
     have HP:=Lib.hid hp
     clear hp
     go_wp2_with fail
     refine⟨⟨_,_,_,_,_,_,_,_,_,_,_,_,_,_,_,_,_,_,_,_,_,_,_,?rel,rfl⟩,?measure⟩
     case rel=>exact⟨i,j+1,dk,rfl,by go_num,by omega,by omega,HD1.out.skip hlt HP.out,HC3.out,HO3.out⟩
     case measure=>simp [intOf];omega
    |false=>
     have HP:=Lib.hid hp
     clear hp
     have hid:i<dk.length:=by have:=HDL.out;omega
     obtain⟨b2,off2,E0,arr0,cs0,T,hab,hob,hsb,how,hT,hcl,hfit,hcc,hback⟩:=HO3.out.focus (i:=i) (e:=aF.tr dk[i]) (by rw [List.getElem?_map,List.getElem?_eq_getElem hid];rfl) (by intro x hx;obtain⟨y,_,rfl⟩:=List.mem_map.1 hx;exact aF.tr_len _)
     obtain⟨rfl,rfl⟩:b=b2∧off=off2:=by simpa using hab
     have HOBb:=Lib.hid hob
     have HSB:=Lib.hid hsb
     have HBK:=Lib.hid hback
     have HFIT:=Lib.hid (hfit (by omega))
     clear hob hsb how hT hcl hfit hcc hback hab
     go_wp2_with (first
      |(refine mF rfl 52 (.tmp 7) rfl wr.heap.size 0 rfl cs _ underlying52 HI.out HOB3.out.cells0 ?_)
      |(refine t7 rfl 52 (.tmp 33) (.tmp 32) rfl b (off+i*2) rfl cs rfl E0 arr0 HOBb.out HI.out (by rw [HCL.out];exact HFIT.out) HCS.out.one ?_;intro w4 hob4 hg4 hz4;have HOB4:=Lib.hid hob4;have HG4:=Lib.hid hg4;clear hob4 hg4 hz4))
     refine⟨⟨_,_,_,_,_,_,_,_,_,_,_,_,_,_,_,_,_,_,_,_,_,_,_,?rel,rfl⟩,?measure⟩
     case rel=>
      refine⟨i+1,j+1,dk.set i l[j],by go_num,by go_num,by omega,by omega,HD1.out.keep hlt HP.out,HC3.out.trans (QI HG4.out HSB.out),?_⟩
      show D2 _ _ _ _
      rw [List.map_set]
      exact HBK.out w4 cs _ (aF.tr_len _) HOB4.out (adQ HCS.out (Z4 _)) (fun x hx _ hne _=>HG4.out.block x hx (by simpa using hne)) HFIT.out
     case measure=>simp [intOf];omega
   ·obtain rfl:j=l.length:=by omega
    have hdl:=HD1.out.len
    have hil:l.length-1<dk.length:=by omega
    obtain⟨b,off,E0,arr0,cs0,T,rfl,hob,hsb,how,hT,hcl,hfit,hcc,hback⟩:=HO1.out.focus (i:=l.length-1) (e:=aF.tr dk[l.length-1]) (by rw [List.getElem?_map,List.getElem?_eq_getElem hil];rfl) (by intro x hx;obtain⟨y,_,rfl⟩:=List.mem_map.1 hx;exact aF.tr_len _)
    have HOBb:=Lib.hid hob
    have HSB:=Lib.hid hsb
    have hfit2:=hfit (by omega)
    have hfz:off+i*2+(l.length-i)*2≤arr0.size:=by omega
    have HDL:=Lib.hid hdl
    clear hob hsb how hT hcl hfit hcc hback hil hfit2 hdl
    obtain⟨hzl,hzm⟩:=aoZ (.int .i64 0) (.int .i64 0) (l.length-i)
    have hz33: ∀w,(zeroValue 52).run prog w= .ok (.agg #[.int .i64 0,.int .i64 0]) w:=fun w=>rfl
    have hcl: ∀ty,(Builtin.clear_ #[198] ty #[.slice (some ⟨b,off+i*2,none⟩) (l.length-i) (cap-i)]).run prog wr= .ok (.tuple #[]) (wr.setRow b (splice arr0 (off+i*2) (Builtin.zeroCells #[.int .i64 0,.int .i64 0] (l.length-i)).toList)):=fun ty=>
     acL 198 52 ty (.agg #[.int .i64 0,.int .i64 0]) underlying198 hz33 b (off+i*2) (l.length-i) (cap-i) E0 arr0 wr HOBb.out (by omega) _ rfl (by rw [hzl];exact hfz) (fun v hv=>by rcases hzm v hv with rfl|rfl<;>rfl)
    have HFZ:=Lib.hid hfz
    have HZL:=Lib.hid hzl
    clear hzm hz33 hfz hzl
    generalize(Builtin.zeroCells #[.int .i64 0,.int .i64 0] (l.length-i)).toList=zs at*
    go_wp2_with fail
    go_ret
    have hob5:OB (wr.setRow b (splice arr0 (off+i*2) zs)) b E0 (splice arr0 (off+i*2) zs):=setRow_heap wr b arr0 _ E0 _ HOBb.out
    refine⟨_,rfl,HC1.out.trans ?_,?_⟩
    ·exact⟨rfl,rfl,rfl,by simp,fun k _ hk=>setRow_other wr b k _ (fun e=>hk (by rw [e];exact HSB.out))⟩
    ·have hd:=HD1.out.low
     rw [List.take_length] at hd
     rw [← hd,List.map_take]
     have hh:=HO1.out.head (i:=i) (by have:=HDL.out;simp;omega)
     have:=HDL.out
     refine hh.cellsSame HOBb.out hob5 (fun q j hq hj=>?_) (fun e he=>?_) (fun e he=>?_)
     ·have hq2:q<i:=by rw [List.length_take] at hq;omega
      rw [JB (by rw [HZL.out];exact HFZ.out),if_pos (by omega)]
     ·obtain⟨y,_,rfl⟩:=List.mem_map.1 (List.mem_of_mem_take he)
      exact aF.tr_len _
     ·obtain⟨y,_,rfl⟩:=List.mem_map.1 (List.mem_of_mem_take he)
      exact Z4 _
instance:TC aF:=⟨aF.cs,aF.trs,2,aF.ta,aF.tl,fun l=>by rw [aF.tm];exact List.map_congr_left fun x _=>aF.tc x,fun _=>rfl⟩
instance(l:List aF):RL (aF.trs l) aF l:=⟨rfl⟩
abbrev dM(l:List aF):PV:= .t (.row 2 (aF.trs l))
abbrev gS(l:List aF)(r:Nat):PV:= .acc 2 (aF.trs l) r
instance:TC aA:=⟨aA.cs,aA.trs,3,aA.ta,aA.tl,fun l=>by rw [aA.tm];exact List.map_congr_left fun x _=>aA.tc x,fun _=>rfl⟩
instance(l:List aA):RL (aA.trs l) aA l:=⟨rfl⟩
abbrev aV(l:List aA):PV:= .t (.row 3 (aA.trs l))
abbrev jO(l:List aA)(r:Nat):PV:= .acc 3 (aA.trs l) r
instance:TC aM:=⟨aM.cs,aM.trs,9,aM.ta,aM.tl,fun l=>by rw [aM.tm];exact List.map_congr_left fun x _=>aM.tc x,fun _=>rfl⟩
instance(l:List aM):RL (aM.trs l) aM l:=⟨rfl⟩
abbrev jV(l:List aM):PV:= .t (.row 9 (aM.trs l))
abbrev awB(l:List aM)(r:Nat):PV:= .acc 9 (aM.trs l) r
instance:TC cC:=⟨cC.cs,cC.trs,11,cC.ta,cC.tl,fun l=>by rw [cC.tm];exact List.map_congr_left fun x _=>cC.tc x,fun _=>rfl⟩
instance(l:List cC):RL (cC.trs l) cC l:=⟨rfl⟩
abbrev tX(l:List cC):PV:= .t (.row 11 (cC.trs l))
abbrev awY(l:List cC)(r:Nat):PV:= .acc 11 (cC.trs l) r
instance:TC aD:=⟨aD.cs,aD.trs,4,aD.ta,aD.tl,fun l=>by rw [aD.tm];exact List.map_congr_left fun x _=>aD.tc x,fun _=>rfl⟩
instance(l:List aD):RL (aD.trs l) aD l:=⟨rfl⟩
abbrev b0(l:List aD):PV:= .t (.row 4 (aD.trs l))
abbrev fZ(l:List aD)(r:Nat):PV:= .acc 4 (aD.trs l) r
instance:TC aY:=⟨aY.cs,aY.trs,4,aY.ta,aY.tl,fun l=>by rw [aY.tm];exact List.map_congr_left fun x _=>aY.tc x,fun _=>rfl⟩
instance(l:List aY):RL (aY.trs l) aY l:=⟨rfl⟩
abbrev Z3(l:List aY):PV:= .t (.row 4 (aY.trs l))
abbrev afH(l:List aY)(r:Nat):PV:= .acc 4 (aY.trs l) r
instance:TC aT:=⟨aT.cs,aT.trs,11,aT.ta,aT.tl,fun l=>by rw [aT.tm];exact List.map_congr_left fun x _=>aT.tc x,fun _=>rfl⟩
instance(l:List aT):RL (aT.trs l) aT l:=⟨rfl⟩
abbrev n7(l:List aT):PV:= .t (.row 11 (aT.trs l))
abbrev XL(l:List aT)(r:Nat):PV:= .acc 11 (aT.trs l) r
instance:TC aE:=⟨aE.cs,aE.trs,2,aE.ta,aE.tl,fun l=>by rw [aE.tm];exact List.map_congr_left fun x _=>aE.tc x,fun _=>rfl⟩
instance(l:List aE):RL (aE.trs l) aE l:=⟨rfl⟩
abbrev eB(l:List aE):PV:= .t (.row 2 (aE.trs l))
abbrev BU(l:List aE)(r:Nat):PV:= .acc 2 (aE.trs l) r
instance:TC aG:=⟨aG.cs,aG.trs,16,aG.ta,aG.tl,fun l=>by rw [aG.tm];exact List.map_congr_left fun x _=>aG.tc x,fun _=>rfl⟩
instance(l:List aG):RL (aG.trs l) aG l:=⟨rfl⟩
abbrev iF(l:List aG):PV:= .t (.row 16 (aG.trs l))
abbrev m9(l:List aG)(r:Nat):PV:= .acc 16 (aG.trs l) r
instance:TC aZ:=⟨aZ.cs,aZ.trs,5,aZ.ta,aZ.tl,fun l=>by rw [aZ.tm];exact List.map_congr_left fun x _=>aZ.tc x,fun _=>rfl⟩
instance(l:List aZ):RL (aZ.trs l) aZ l:=⟨rfl⟩
abbrev UA(l:List aZ):PV:= .t (.row 5 (aZ.trs l))
abbrev CZ(l:List aZ)(r:Nat):PV:= .acc 5 (aZ.trs l) r
instance:TC aO:=⟨aO.cs,aO.trs,3,aO.ta,aO.tl,fun l=>by rw [aO.tm];exact List.map_congr_left fun x _=>aO.tc x,fun _=>rfl⟩
instance(l:List aO):RL (aO.trs l) aO l:=⟨rfl⟩
abbrev sD(l:List aO):PV:= .t (.row 3 (aO.trs l))
abbrev pV(l:List aO)(r:Nat):PV:= .acc 3 (aO.trs l) r
instance:TC aL:=⟨aL.cs,aL.trs,12,aL.ta,aL.tl,fun l=>by rw [aL.tm];exact List.map_congr_left fun x _=>aL.tc x,fun _=>rfl⟩
instance(l:List aL):RL (aL.trs l) aL l:=⟨rfl⟩
abbrev qG(l:List aL):PV:= .t (.row 12 (aL.trs l))
abbrev pX(l:List aL)(r:Nat):PV:= .acc 12 (aL.trs l) r
instance:TC aQ:=⟨aQ.cs,aQ.trs,16,aQ.ta,aQ.tl,fun l=>by rw [aQ.tm];exact List.map_congr_left fun x _=>aQ.tc x,fun _=>rfl⟩
instance(l:List aQ):RL (aQ.trs l) aQ l:=⟨rfl⟩
abbrev ME(l:List aQ):PV:= .t (.row 16 (aQ.trs l))
abbrev pW(l:List aQ)(r:Nat):PV:= .acc 16 (aQ.trs l) r
instance:TC aN:=⟨aN.cs,aN.trs,6,aN.ta,aN.tl,fun l=>by rw [aN.tm];exact List.map_congr_left fun x _=>aN.tc x,fun _=>rfl⟩
instance(l:List aN):RL (aN.trs l) aN l:=⟨rfl⟩
abbrev aP(l:List aN):PV:= .t (.row 6 (aN.trs l))
abbrev uE(l:List aN)(r:Nat):PV:= .acc 6 (aN.trs l) r
instance:TC aH:=⟨aH.cs,aH.trs,1,aH.ta,aH.tl,fun l=>by rw [aH.tm];exact List.map_congr_left fun x _=>aH.tc x,fun _=>rfl⟩
instance(l:List aH):RL (aH.trs l) aH l:=⟨rfl⟩
instance:TC aB:=⟨aB.cs,aB.trs,2,aB.ta,aB.tl,fun l=>by rw [aB.tm];exact List.map_congr_left fun x _=>aB.tc x,fun _=>rfl⟩
instance(l:List aB):RL (aB.trs l) aB l:=⟨rfl⟩
abbrev bM(l:List aB):PV:= .t (.row 2 (aB.trs l))
abbrev eW(l:List aB)(r:Nat):PV:= .acc 2 (aB.trs l) r
instance:TC aJ:=⟨aJ.cs,aJ.trs,6,aJ.ta,aJ.tl,fun l=>by rw [aJ.tm];exact List.map_congr_left fun x _=>aJ.tc x,fun _=>rfl⟩
instance(l:List aJ):RL (aJ.trs l) aJ l:=⟨rfl⟩
abbrev b5(l:List aJ):PV:= .t (.row 6 (aJ.trs l))
abbrev gJ(l:List aJ)(r:Nat):PV:= .acc 6 (aJ.trs l) r
instance:TC aK:=⟨aK.cs,aK.trs,4,aK.ta,aK.tl,fun l=>by rw [aK.tm];exact List.map_congr_left fun x _=>aK.tc x,fun _=>rfl⟩
instance(l:List aK):RL (aK.trs l) aK l:=⟨rfl⟩
abbrev iE(l:List aK):PV:= .t (.row 4 (aK.trs l))
abbrev m8(l:List aK)(r:Nat):PV:= .acc 4 (aK.trs l) r
instance:TC aC:=⟨aC.cs,aC.trs,5,aC.ta,aC.tl,fun l=>by rw [aC.tm];exact List.map_congr_left fun x _=>aC.tc x,fun _=>rfl⟩
instance(l:List aC):RL (aC.trs l) aC l:=⟨rfl⟩
abbrev bK(l:List aC):PV:= .t (.row 5 (aC.trs l))
abbrev cS(l:List aC)(r:Nat):PV:= .acc 5 (aC.trs l) r
instance:TC aU:=⟨aU.cs,aU.trs,3,aU.ta,aU.tl,fun l=>by rw [aU.tm];exact List.map_congr_left fun x _=>aU.tc x,fun _=>rfl⟩
instance(l:List aU):RL (aU.trs l) aU l:=⟨rfl⟩
instance:TC bR:=⟨bR.cs,bR.trs,2,bR.ta,bR.tl,fun l=>by rw [bR.tm];exact List.map_congr_left fun x _=>bR.tc x,fun _=>rfl⟩
instance(l:List bR):RL (bR.trs l) bR l:=⟨rfl⟩
abbrev cF(x:aA):List PV:= [pI x.aFw,pS x.aFs,aV x.aFt]
abbrev kH(x:aM):List PV:= [pI x.aFw,pS x.aFz,pS x.aFs,pI x.aGa,pI x.aFu.aFw,pS x.aFu.aFs,aV x.aFu.aFt,jV x.aFt,tX x.aFP]
abbrev b8(x:aD):List PV:= [pS x.aFz,pI x.aFu.aFw,pS x.aFu.aFs,aV x.aFu.aFt]
abbrev amJ(x:aG):List PV:= [pS x.aFs,aV x.aFO,pI x.aFM.aFw,pS x.aFM.aFs,aV x.aFM.aFt,pB x.aF3,rS x.aFH,pI x.aFE.aFw,pS x.aFE.aFz,pS x.aFE.aFs,pI x.aFE.aGa,pI x.aFE.aFu.aFw,pS x.aFE.aFu.aFs,aV x.aFE.aFu.aFt,jV x.aFE.aFt,tX x.aFE.aFP]
abbrev t9(x:aZ):List PV:= [pS x.aFs,rS x.aFD,pB x.aF1,pB x.aFR,iF x.aFQ]
abbrev kO(x:aO):List PV:= [pS x.aFs,rS x.aFH,eB x.aFx]
abbrev eO(x:aL):List PV:= [pS x.aFz,rS x.aFH,pI x.aFJ.aFw,pS x.aFJ.aFs,aV x.aFJ.aFt,b0 x.aFL,pB x.aFX,pB x.aF4,pI x.aFR.aFw,pS x.aFR.aFs,aV x.aFR.aFt,n7 x.aFW]
abbrev CF(x:aQ):List PV:= [pS x.aFs,rS x.aFH,b0 x.aFL,Z3 x.aFO,pI x.aFM.aFw,pS x.aFM.aFs,aV x.aFM.aFt,pI x.aFE.aFw,pS x.aFE.aFz,pS x.aFE.aFs,pI x.aFE.aGa,pI x.aFE.aFu.aFw,pS x.aFE.aFu.aFs,aV x.aFE.aFu.aFt,jV x.aFE.aFt,tX x.aFE.aFP]
abbrev fS(x:aN):List PV:= [pS x.aFs,rS x.aF6,UA x.aFK,sD x.aFB,qG x.aFG,ME x.aFT]
abbrev cR(x:aC):List PV:= [pI x.aFw,pI x.aGa,pI x.aFS.aFF,pI x.aFS.aFS,bK x.aFt]
abbrev eM(x:aU):List PV:= [b0 x.aFA,rI x.aFI,bK x.aFC]
abbrev F6:ByteArray:=⟨#[40,99,97,108,108,32,98,111,116,104,32,40,99,97,108,108,32,105,100,32,40,99,97,108,108,32,105,100,32,40,110,101,119,32,116,97,103,32,50,41,41,41,41]⟩
abbrev dT:ByteArray:=⟨(List.append [32,40,105,110,115,116,32,115,104,111,119,32,40,41,32,105,110,116,32,40,41,32,40,41,32,40,41,32,40,109,32,40,120,41,32,120,41,41,32,40,105,110,115] [116,32,115,104,111,119,32,40,41,32,98,111,111,108,32,40,41,32,40,41,32,40,41,32,40,109,32,40,120,41,32,40,105,102,32,120,32,49,32,48,41,41,41]).toArray⟩
abbrev F7:ByteArray:=⟨(List.append [40,108,101,116,32,122,32,40,109,101,116,104,111,100,32,97,100,100,32,112,108,117,115,32,40,110,101,119,32,98,111,120,32,49] [41,32,40,110,101,119,32,98,111,120,32,50,41,41,32,40,99,97,115,101,32,122,32,40,98,111,120,32,110,32,110,41,41,41]).toArray⟩
abbrev gU:ByteArray:=⟨(List.append [32,40,105,110,115,116,32,101,113,32,40,97,41,32,40,98,111,120,32,39,97,41,32,40,40,101,113,32,39,97,41,41,32,40,41,32,40,41,32,40,115,97,109,101,32,40,120,32,121,41,32,40,99] [97,115,101,32,120,32,40,98,111,120,32,112,32,40,99,97,115,101,32,121,32,40,98,111,120,32,113,32,40,109,101,116,104,111,100,32,101,113,32,115,97,109,101,32,112,32,113,41,41,41,41,41,41,41]).toArray⟩
abbrev F8:ByteArray:=⟨#[40,99,97,108,108,32,98,111,116,104,32,40,110,101,119,32,112,97,105,114,32,51,32,116,114,117,101,41,41]⟩
abbrev rX:ByteArray:=⟨#[32,40,102,110,32,109,97,105,110,32,40,41,32,40,41,32,40,41,32,105,110,116,32]⟩
abbrev QW:ByteArray:=⟨(List.append [32,40,105,110,115,116,32,115,104,111,119,32,40,41,32,40,108,105,115,116,32,116,97,103,41,32,40,41,32,40,41,32,40,41,32,40,109,32,40,120,41] [32,52,41,41,32,40,105,110,115,116,32,115,104,111,119,32,40,41,32,116,97,103,32,40,41,32,40,41,32,40,41,32,40,109,32,40,120,41,32,53,41,41]).toArray⟩
abbrev F9:ByteArray:=⟨(List.append [32,40,102,110,32,103,114,111,119,32,40,97,41,32,40,40,115,104,111,119,32,39,97,41,41,32,40,40,110,32,105,110,116,41,32,40,120,32,39,97,41,41,32,105,110,116,32,40,105,102,32,40,60,32,110,32] [49,41,32,40,109,101,116,104,111,100,32,115,104,111,119,32,109,32,120,41,32,40,99,97,108,108,32,103,114,111,119,32,40,45,32,110,32,49,41,32,40,110,101,119,32,112,97,105,114,32,120,32,120,41,41,41,41]).toArray⟩
abbrev QX:ByteArray:=⟨(List.append [32,40,105,110,115,116,32,101,113,32,40,41,32,116,97,103,32,40,41,32,40,41,32,40,41,32,40,115,97,109,101,32,40,120,32,121,41,32,116,114,117,101,41,41,32] [40,105,110,115,116,32,111,114,100,32,40,41,32,116,97,103,32,40,41,32,40,41,32,40,41,32,40,108,101,115,115,32,40,120,32,121,41,32,102,97,108,115,101,41,41]).toArray⟩
abbrev GA:ByteArray:=⟨(List.append [40,109,101,116,104,111,100,32,115,104,111,119,32,109,32,40,110,101,119,32,99,111,110,115,32,49,32,40,110,101,119,32,99,111] [110,115,32,50,32,40,116,104,101,32,40,108,105,115,116,32,105,110,116,41,32,40,110,101,119,32,110,105,108,41,41,41,41,41]).toArray⟩
abbrev GB:ByteArray:=⟨#[40,99,97,108,108,32,98,111,116,104,32,53,41]⟩
abbrev GC:ByteArray:=⟨#[40,43,32,40,99,97,108,108,32,105,100,32,52,41,32,40,109,101,116,104,111,100,32,115,104,111,119,32,109,32,40,110,101,119,32,116,97,103,32,55,41,41,41]⟩
abbrev GD:ByteArray:=⟨#[40,105,102,32,40,109,101,116,104,111,100,32,111,114,100,32,108,101,115,115,32,49,32,50,41,32,40,99,97,108,108,32,98,111,116,104,32,116,114,117,101,41,32,48,41]⟩
abbrev GE:ByteArray:=⟨(List.append [40,109,101,116,104,111,100,32,115,104,111,119,32,109,32,40,110,101,119,32,99,111,110,115,32,40,110,101,119,32,116,97] [103,32,49,41,32,40,116,104,101,32,40,108,105,115,116,32,116,97,103,41,32,40,110,101,119,32,110,105,108,41,41,41,41]).toArray⟩
abbrev QY:ByteArray:=⟨#[32,40,105,110,115,116,32,111,114,100,32,40,41,32,116,97,103,32,40,41,32,40,41,32,40,41,32,40,108,101,115,115,32,40,120,32,121,41,32,116,114,117,101,41,41]⟩
abbrev GF:ByteArray:=⟨#[40,109,101,116,104,111,100,32,115,104,111,119,32,109,32,40,110,101,119,32,110,105,108,41,41]⟩
abbrev c5:ByteArray:=⟨(List.append [40,112,97,99,107,97,103,101,32,99,111,114,101,32,40,41,32,40,116,114,97,105,116,32,115,104,111,119,32,40,41,32,40,41,32,40,109,32,40,41,32,105,110,116,41,32,40,116,119,111,32,40,39,115,101] [108,102,41,32,105,110,116,32,40,120,32,121,41,32,40,43,32,40,109,101,116,104,111,100,32,115,104,111,119,32,109,32,120,41,32,40,109,101,116,104,111,100,32,115,104,111,119,32,109,32,121,41,41,41,41]).toArray⟩
abbrev mH:ByteArray:=⟨(List.append (List.append [32,40,105,110,115,116,32,97,100,100,32,40,97,41,32,40,98,111,120,32,39,97,41,32,40,40,97,100,100,32,39,97,41,41,32] [40,41,32,40,40,98,111,120,32,40,97,115,115,111,99,32,97,100,100,32,39,97,41,41,41,32,40,112,108,117,115,32,40,120,32]) (List.append [121,41,32,40,99,97,115,101,32,120,32,40,98,111,120,32,112,32,40,99,97,115,101,32,121,32,40,98,111,120,32,113,32,40,110] [101,119,32,98,111,120,32,40,109,101,116,104,111,100,32,97,100,100,32,112,108,117,115,32,112,32,113,41,41,41,41,41,41,41,41])).toArray⟩
abbrev eQ:ByteArray:=⟨(List.append [32,40,105,110,115,116,32,115,104,111,119,32,40,97,32,98,41,32,40,112,97,105,114,32,39,97,32,39,98,41,32,40,40,115,104,111,119,32,39,97,41,32,40,115,104,111,119,32,39,98,41,41,32,40,41,32,40,41,32,40,109,32,40] [120,41,32,40,99,97,115,101,32,120,32,40,112,97,105,114,32,121,32,122,32,40,45,32,40,109,101,116,104,111,100,32,115,104,111,119,32,109,32,121,41,32,40,109,101,116,104,111,100,32,115,104,111,119,32,109,32,122,41,41,41,41,41,41]).toArray⟩
abbrev GG:ByteArray:=⟨#[40,109,101,116,104,111,100,32,115,104,111,119,32,109,32,40,112,97,99,107,32,115,104,111,119,32,51,41,41]⟩
abbrev k7:ByteArray:=⟨(List.append [32,40,105,110,115,116,32,115,104,111,119,32,40,97,41,32,40,108,105,115,116,32,39,97,41,32,40,40,115,104,111,119,32,39,97,41,41,32,40,41,32,40,41,32,40,109,32,40,120,41,32,40,99,97,115,101,32,120,32,40] [110,105,108,32,48,41,32,40,99,111,110,115,32,104,32,116,32,40,43,32,40,109,101,116,104,111,100,32,115,104,111,119,32,109,32,104,41,32,40,109,101,116,104,111,100,32,115,104,111,119,32,109,32,116,41,41,41,41,41,41]).toArray⟩
abbrev rY:ByteArray:=⟨(List.append [32,40,102,110,32,105,100,32,40,97,41,32,40,41,32,40,40,120,32,39,97,41,41,32,39,97,32,120,41,32,40,102,110,32,98,111,116,104,32,40,97,41,32,40,40] [115,104,111,119,32,39,97,41,41,32,40,40,120,32,39,97,41,41,32,105,110,116,32,40,109,101,116,104,111,100,32,115,104,111,119,32,116,119,111,32,120,32,120,41,41]).toArray⟩
abbrev QZ:ByteArray:=⟨#[32,40,105,110,115,116,32,115,104,111,119,32,40,41,32,116,97,103,32,40,41,32,40,41,32,40,41,32,40,109,32,40,120,41,32,40,99,97,115,101,32,120,32,40,116,97,103,32,110,32,110,41,32,40,110,111,110,101,32,48,41,41,41,41]⟩
abbrev dG:ByteArray:=⟨(List.append [32,40,100,97,116,97,32,108,105,115,116,32,40,97,41,32,40,110,105,108,41,32,40,99,111,110,115,32,39,97,32,40,108,105,115,116,32,39,97,41,41,41,32,40,100,97,116,97,32,112,97,105,114,32,40,97,32,98,41] [32,40,112,97,105,114,32,39,97,32,39,98,41,41,32,40,100,97,116,97,32,98,111,120,32,40,97,41,32,40,98,111,120,32,39,97,41,41,32,40,100,97,116,97,32,117,110,105,116,32,40,41,32,40,117,110,105,116,41,41]).toArray⟩
abbrev Q0:ByteArray:=⟨(List.append [32,40,102,110,32,108,101,110,32,40,97,41,32,40,41,32,40,40,120,32,40,108,105,115,116,32,39,97,41,41,41,32,105,110,116,32,40,99,97,115,101] [32,120,32,40,110,105,108,32,48,41,32,40,99,111,110,115,32,104,32,116,32,40,43,32,49,32,40,99,97,108,108,32,108,101,110,32,116,41,41,41,41,41]).toArray⟩
abbrev Q3:ByteArray:=⟨#[32,40,105,110,115,116,32,115,104,111,119,32,40,97,41,32,39,97,32,40,40,101,113,32,39,97,41,41,32,40,41,32,40,41,32,40,109,32,40,120,41,32,49,41,41]⟩
abbrev Q4:ByteArray:=⟨#[32,40,105,110,115,116,32,115,104,111,119,32,40,41,32,116,97,103,32,40,41,32,40,41,32,40,41,32,40,109,32,40,120,41,32,40,99,97,115,101,32,120,32,40,110,111,110,101,32,48,41,32,40,116,97,103,32,110,32,110,41,41,41,41]⟩
abbrev jU:ByteArray:=⟨#[32,40,105,110,115,116,32,97,100,100,32,40,41,32,105,110,116,32,40,41,32,40,41,32,40,105,110,116,41,32,40,112,108,117,115,32,40,120,32,121,41,32,40,43,32,120,32,121,41,41,41]⟩
abbrev c6:ByteArray:=⟨(List.append (List.append [32,40,116,114,97,105,116,32,101,113,32,40,41,32,40,41,32,40,115,97,109,101,32,40,39,115,101,108,102,41,32,98,111,111,108,41,41,32,40] [116,114,97,105,116,32,111,114,100,32,40,101,113,41,32,40,41,32,40,108,101,115,115,32,40,39,115,101,108,102,41,32,98,111,111,108,41,41,32]) (List.append [40,116,114,97,105,116,32,97,100,100,32,40,41,32,40,97,115,115,111,99,41,32,40,112,108,117,115,32,40,39,115,101,108,102,41,32,40,97,115] [115,111,99,32,97,100,100,32,39,115,101,108,102,41,41,41,32,40,116,114,97,105,116,32,115,101,110,100,32,40,41,32,40,97,117,116,111,41,41])).toArray⟩
abbrev Q5:ByteArray:=⟨(List.append [32,40,102,110,32,115,117,109,32,40,97,41,32,40,40,97,100,100,32,39,97,41,41,32,40,40,120,32,39,97,41,32,40,121,32,39,97,41] [41,32,40,97,115,115,111,99,32,97,100,100,32,39,97,41,32,40,109,101,116,104,111,100,32,97,100,100,32,112,108,117,115,32,120,32,121,41,41]).toArray⟩
abbrev fM:ByteArray:=⟨#[40,112,97,99,107,97,103,101,32,97,112,112,32,40,99,111,114,101,41,32,40,100,97,116,97,32,116,97,103,32,40,41,32,40,116,97,103,32,105,110,116,41,32,40,110,111,110,101,41,41]⟩
abbrev fN:ByteArray:=⟨(List.append [32,40,105,110,115,116,32,101,113,32,40,41,32,105,110,116,32,40,41,32,40,41,32,40,41,32,40,115,97,109,101,32,40,120,32,121,41,32,40,61,32,120,32,121,41,41,41] [32,40,105,110,115,116,32,111,114,100,32,40,41,32,105,110,116,32,40,41,32,40,41,32,40,41,32,40,108,101,115,115,32,40,120,32,121,41,32,40,60,32,120,32,121,41,41,41]).toArray⟩
abbrev k8:ByteArray:=⟨(List.append (List.append [32,40,105,110,115,116,32,115,104,111,119,32,40,97,41,32,40,108,105,115,116,32,39,97,41,32,40,41,32,40,100,101,102,97,117,108] [116,41,32,40,41,32,40,109,32,40,120,41,32,55,41,41,32,40,105,110,115,116,32,115,104,111,119,32,40,41,32,40,108,105,115,116,32]) (List.append [105,110,116,41,32,40,41,32,40,41,32,40,41,32,40,109,32,40,120,41,32,40,99,97,115,101,32,120,32,40,110,105,108,32,48,41,32] [40,99,111,110,115,32,104,32,116,32,40,43,32,104,32,40,109,101,116,104,111,100,32,115,104,111,119,32,109,32,116,41,41,41,41,41,41])).toArray⟩
abbrev Q6:ByteArray:=⟨#[32,40,105,110,115,116,32,115,104,111,119,32,40,41,32,105,110,116,32,40,41,32,40,41,32,40,41,32,40,109,32,40,120,41,32,57,41,41]⟩
abbrev s_:ByteArray:=⟨#[]⟩
abbrev s_0:ByteArray:=⟨#[48]⟩
abbrev s_A:ByteArray:=⟨#[65]⟩
abbrev hH:ByteArray:=⟨#[97]⟩
abbrev eV:ByteArray:=⟨#[97,100,100]⟩
abbrev kK:ByteArray:=⟨#[97,115,115,111,99]⟩
abbrev DP:ByteArray:=⟨#[97,117,116,111]⟩
abbrev ES:ByteArray:=⟨#[98]⟩
abbrev eU:ByteArray:=⟨#[98,111,111,108]⟩
abbrev AG:ByteArray:=⟨#[98,111,120]⟩
abbrev s_c:ByteArray:=⟨#[99]⟩
abbrev UU:ByteArray:=⟨#[99,97,108,108]⟩
abbrev BC:ByteArray:=⟨#[99,97,115,101]⟩
abbrev cU:ByteArray:=⟨#[99,111,110,115]⟩
abbrev iH:ByteArray:=⟨#[99,111,114,101]⟩
abbrev UV:ByteArray:=⟨#[100,97,116,97]⟩
abbrev yO:ByteArray:=⟨#[100,101,102,97,117,108,116]⟩
abbrev BP:ByteArray:=⟨#[100,121,110]⟩
abbrev lU:ByteArray:=⟨#[101,113]⟩
abbrev s_f:ByteArray:=⟨#[102]⟩
abbrev nL:ByteArray:=⟨#[102,97,108,115,101]⟩
abbrev arQ:ByteArray:=⟨#[102,110]⟩
abbrev s_g:ByteArray:=⟨#[103]⟩
abbrev s_h:ByteArray:=⟨#[104]⟩
abbrev IQ:ByteArray:=⟨#[105,102]⟩
abbrev UW:ByteArray:=⟨#[105,110,115,116]⟩
abbrev fE:ByteArray:=⟨#[105,110,116]⟩
abbrev JL:ByteArray:=⟨#[108,101,116]⟩
abbrev cV:ByteArray:=⟨#[108,105,115,116]⟩
abbrev fP:ByteArray:=⟨#[109]⟩
abbrev sA:ByteArray:=⟨#[109,101,116,104,111,100]⟩
abbrev JM:ByteArray:=⟨#[110,101,119]⟩
abbrev gW:ByteArray:=⟨#[110,105,108]⟩
abbrev aaV:ByteArray:=⟨#[111,110,101]⟩
abbrev fD:ByteArray:=⟨#[111,114,100]⟩
abbrev s_p:ByteArray:=⟨#[112]⟩
abbrev BD:ByteArray:=⟨#[112,97,99,107]⟩
abbrev aeK:ByteArray:=⟨#[112,97,99,107,97,103,101]⟩
abbrev vJ:ByteArray:=⟨#[112,97,105,114]⟩
abbrev s_q:ByteArray:=⟨#[113]⟩
abbrev lI:ByteArray:=⟨#[115,101,108,102]⟩
abbrev kX:ByteArray:=⟨#[115,101,110,100]⟩
abbrev bH:ByteArray:=⟨#[115,104,111,119]⟩
abbrev s_t:ByteArray:=⟨#[116]⟩
abbrev K2:ByteArray:=⟨#[116,97,103]⟩
abbrev aeL:ByteArray:=⟨#[116,104,101]⟩
abbrev MI:ByteArray:=⟨#[116,114,97,105,116]⟩
abbrev sQ:ByteArray:=⟨#[116,114,117,101]⟩
abbrev gG:ByteArray:=⟨#[116,119,105,99,101]⟩
abbrev kY:ByteArray:=⟨#[117,110,105,116]⟩
abbrev fJ:ByteArray:=⟨#[120]⟩
abbrev t2:ByteArray:=⟨#[121]⟩
abbrev xL:ByteArray:=⟨#[122,122]⟩
abbrev asA:ByteArray:=⟨#[10]⟩
abbrev asB:ByteArray:=⟨#[39]⟩
abbrev D4:ByteArray:=⟨#[41]⟩
abbrev SS:ByteArray:=⟨#[42]⟩
abbrev D5:ByteArray:=⟨#[43]⟩
abbrev JU:ByteArray:=⟨#[45]⟩
abbrev ST:ByteArray:=⟨#[60]⟩
abbrev SU:ByteArray:=⟨#[61]⟩
def LJ(a:Int):UInt8:=UInt8.ofNat (a%256).toNat
theorem ahW(a:Int):IntKind.wrap .u8 a=((LJ a).toNat:Int):=by
 unfold LJ IntKind.wrap
 simp [IntKind.bits,IntKind.signed]
 omega
def bytesStr(l:Z UInt8):Y:=⟨l.toArray⟩
theorem ab7(l:Z UInt8):(bytesStr l).size=l.length:=by simp [bytesStr,ByteArray.size]
theorem ab6(l:Z UInt8):strOfNums (l.map fun b=>(b.toNat:Int))=bytesStr l:=by
 unfold strOfNums bytesStr
 congr 2
 rw [List.map_map]
 conv=>rhs;rw [← List.map_id l]
 apply List.map_congr_left
 intro b _
 simp
section
variable {P:Program} {C:qT} {n:Nat} {s:AS} {o:Oper}
theorem ah2{T yT:TypeId}{x y:Operand}{a b:Int}(ho:o.op= .binOp .quo T x y yT)(hd:bL o.dst n=true)(hx:s.ev x=some (.t (.leaf (.int .i64 a))))(hy:s.ev y=some (.t (.leaf (.int .i64 b))))(hb:b≠0):
 cX P C n o s (s.putO o.dst (.t (.leaf (.int .i64 (bB (a.tdiv b)))))):=l5 ho hd hx hy (fun w=>by simp [eqGuard,binOp,Op.intDiv,hb,bB]) (wf_wrap .i64 _)
theorem asO{T yT:TypeId}{x y:Operand}{a b:Int}(ho:o.op= .binOp .rem T x y yT)(hd:bL o.dst n=true)(hx:s.ev x=some (.t (.leaf (.int .i64 a))))(hy:s.ev y=some (.t (.leaf (.int .i64 b))))(hb:b≠0):
 cX P C n o s (s.putO o.dst (.t (.leaf (.int .i64 (a.tmod b))))):=
 dV (c4 hd) fun m ac w h=>by
  obtain⟨h1,h3⟩:=cH.leaf_eq (h.eval hx)
  have h2:=(cH.leaf_eq (h.eval hy)).1
  have h4: -9223372036854775808≤a∧a≤9223372036854775807:=by
   have h5:(Lit.int .i64 a).wf=true:=h3
   simpa [Lit.wf,IntKind.min,IntKind.max,IntKind.bits,IntKind.signed] using h5
  have h6:(a.tmod b).natAbs≤a.natAbs:=by rw [Int.natAbs_tmod];exact Nat.mod_le _ _
  have h7:0≤a→0≤a.tmod b:=fun h=>Int.tmod_nonneg b h
  have h8:a≤0→a.tmod b≤0:=fun h=>by have:=Int.tmod_nonneg b (show 0≤ -a by omega);rw [Int.neg_tmod] at this;omega
  refine⟨.int .i64 (a.tmod b),?_,cH.leaf (wf_i64 (by omega))⟩
  unfold execOp
  simp [ho,h1,h2,eqGuard,binOp,Op.intDiv,hb]
theorem X4{S T:TypeId}{x:Operand}{k:IntKind}{a:Int}(ho:o.op= .convert S T x)(hd:bL o.dst n=true)(hx:s.ev x=some (.t (.leaf (.int k a))))(hS: ∃k',P.underlying S=some (.int k'))(hT:P.underlying T=some (.int .u8)):
 cX P C n o s (s.putO o.dst (.t (.leaf (.int .u8 ((LJ a).toNat:Int))))):=
 dV (c4 hd) fun m ac w h=>⟨.int .u8 ((LJ a).toNat:Int),by
  have h3:=(cH.leaf_eq (h.eval hx)).1
  obtain⟨k',hS⟩:=hS
  unfold execOp
  simp [ho,h3,convert,run_underlying hS,run_underlying hT,Conv.intToInt,ahW],cH.leaf (by rw [← ahW];exact wf_wrap .u8 a)⟩
theorem adI{T yT:TypeId}{x y:Operand}{a b:Int}(ho:o.op= .binOp .sub T x y yT)(hd:bL o.dst n=true)(hx:s.ev x=some (.t (.leaf (.int .u8 a))))(hy:s.ev y=some (.t (.leaf (.int .u8 b)))):
 cX P C n o s (s.putO o.dst (.t (.leaf (.int .u8 ((LJ (a-b)).toNat:Int))))):=by
 rw [← ahW]
 exact ah5 ho hd hx hy
theorem cX.bytesStr{S T e:TypeId}{x:Operand}{p:PV}{l:Z UInt8}(ho:o.op= .convert S T x)(hd:bL o.dst n=true)(hx:s.ev x=some p)(hp:mK p=some (1,l6 l))(hS:P.underlying S=some (.slice e))(he:P.underlying e=some (.int .u8))(hT:P.underlying T=some .string):
 cX P C n o s (s.putO o.dst (.t (.leaf (.string (bytesStr l))))):=
 dV (c4 hd) fun m ac w h=>by
  have h1:=uL hp (h.eval hx)
  obtain⟨a0,cap0,hv0,hl0,hm0⟩:=h1.shape
  rw [s6] at hl0
  have hsz:sN (.string (Go.Proofs.YtfcoaagbccmahaaGreat.bytesStr l)):=by show(Go.Proofs.YtfcoaagbccmahaaGreat.bytesStr l).size≤maxLen;rw [ab7];omega
  refine⟨.string (Go.Proofs.YtfcoaagbccmahaaGreat.bytesStr l),?_,cH.leaf hsz⟩
  generalize hv:ac.eval x=v at*
  cases h1 with
  |row c q1 q2 q3 q4=>
   have keyAll: ∀(a:J Addr) (cap:Nat) (q3:l6 l≠ []→ ∃b off,a=some ⟨b,off,none⟩∧b<w.heap.size∧ ∀(i:Nat) (e:Z Tr),(l6 l)[i]?=some e→ ∀(j:Nat) (d:Tr),e[j]?=some d→kV C.av s.st m b (off+i*1+j)∧w.cell? ⟨b,off+i*1+j,none⟩=some (c i j)),(convert S T (.slice a (l6 l).length cap)).run P w= .ok (.string (Go.Proofs.YtfcoaagbccmahaaGreat.bytesStr l)) w:=fun a cap q3=>by
    by_cases hne:l= []
    ·subst hne
     have hlen:(l6 []).length=0:=rfl
     rw [hlen]
     cases a with
     |none=>exact run_convert_bytes_nil (P:=P) w S e hS he 0 cap T hT
     |some a=>
      obtain⟨b,off,sp⟩:=a
      have hld:(loadCells ⟨b,off,sp⟩ 0).run P w= .ok (([]:Z Int).map (Value.int .u8)).toArray w:=by simp [loadCells,loadCellsFrom]
      rw [run_convert_bytes_string w S T e _ 0 cap hS he hT,run_bytesToString w _ 0 cap [] hld]
      rfl
    ·obtain⟨b,off,ha,hb,hc⟩:=q3 (by intro h0;apply hne;have:=congrArg List.length h0;rw [s6] at this;exact List.eq_nil_of_length_eq_zero this)
     subst ha
     have:=run_convert_bytes_arg (P:=P) w S e hS he b off (l6 l).length cap (l.map fun b=>(b.toNat:Int)) (by simp [s6]) (fun i hi=>by
      rw [s6] at hi
      have h4:=(hc i _ (C1 hi) 0 (.leaf (.int .u8 ((l[i]).toNat:Int))) rfl).2
      have h5:=(q4 i _ (C1 hi) 0 (.leaf (.int .u8 ((l[i]).toNat:Int))) rfl).rep.leaf_eq.1
      rw [Nat.mul_one,Nat.add_zero] at h4
      rw [h4,h5]
      simp [hi]) T hT
     rw [ab6] at this
     exact this
   unfold execOp
   simp only [ho,hv]
   rw [Sem.run_bind,keyAll _ _ q3]
   rfl
end
end Go.Proofs.YtfcoaagbccmahaaGreat

namespace Go.Proofs.YtfcoaagbccmahaaGreat.W
set_option maxRecDepth 100000
set_option maxHeartbeats 40000000
noncomputable section
open Tryz Go.RowKit Go.Proofs
attribute [local irreducible] lt
def acU(fu:Nat)(ps:Y)(pE:UInt8):((LB)×Int×Int)→J (LR ((LB)×Int×Int) ((LB))):=fun(v4,v2,v3)=>sw (decide (v3≤(ps.size:Int))) (sw (decide (v3=(ps.size:Int))) (gd ((0:Int)≤v2∧(v2:Int)≤v3∧(v3:Int)≤(ps.size:Int)) (gd ((v4).length+(([(ps.extract (v2:Int).toNat (v3:Int).toNat)]:LB)).length≤68719476736) (some (.next ((v4++([(ps.extract (v2:Int).toNat (v3:Int).toNat)]:LB)),(bB (v3+1)),(bB (v3+1))))))) (gd (0≤v3∧(v3).toNat<(ps).size) (sw (decide ((((HX ps ((v3).toNat)).toNat:Int):Int)=(pE.toNat:Int))) (gd ((0:Int)≤v2∧(v2:Int)≤v3∧(v3:Int)≤(ps.size:Int)) (gd ((v4).length+(([(ps.extract (v2:Int).toNat (v3:Int).toNat)]:LB)).length≤68719476736) (some (.next ((v4++([(ps.extract (v2:Int).toNat (v3:Int).toNat)]:LB)),(bB (v3+1)),(bB (v3+1))))))) (some (.next (v4,v2,(bB (v3+1)))))))) (some (.brk (v4,v2,v3)))
def IN(fu:Nat)(ps:Y)(pE:UInt8):J ((LB)):=so (loopW (acU fu ps pE) fu (([]),0,0)) fun(v4,v2,v3)=>some v4
theorem acV(fu:Nat)(ps:Y)(pE:UInt8)(r:(LB))(H:IN fu ps pE=some r):bU prog 96 [pS ps,pU pE] (rS r):=by
 refine qJ func96 H (fun C hC H=>?_)
 refine gQ 6 ?_;refine q1 (sM ([]:LB)) ?_;refine gQ 11 ?_;refine gV 5 (b6 _) (fun hl6=>?_)
 refine VQ (σ:=(LB)×Int×Int) (fun(v4,v2,v3)=>⟨[(0,pS ps),(1,pU pE),(4,.nil),(5,aS v4 0),(6,pI v2),(7,pI v3)],⟨[],[⟨9,1,bA (v4),false⟩]⟩⟩) (fun(v4,v2,v3)=>⟨[(4,.nil),(5,aS v4 0)],⟨[],[⟨9,1,bA (v4),false⟩]⟩⟩) (fA H) ?_ ?_
 ·rintro k5 ⟨v4,v2,v3⟩ H
  refine gQ 5 ?_;refine q1 (gP rfl rfl rfl underlying9) ?_;refine gQ 2 ?_;refine bG H (fun h7 H=>?_) (fun h7 H=>?_)
  ·refine gQ 7 ?_;refine q1 (gP rfl rfl rfl underlying9) ?_;refine gQ 2 ?_;refine dY 19 H (fun g8 H=>?_) fun g8 H=>?_
   ·refine gQ 14 ?_;refine cB H fun z9 H=>(q1 (CV (l:=v2) (k:=v3) rfl rfl rfl rfl rfl z9 underlying9) (q1 (iL ([(ps.extract (v2:Int).toNat (v3:Int).toNat)]:LB)) (cB H fun z10 H=>(q1 (lO z10) ?_))))
    exact gE 12
   refine gQ 2 ?_;refine cB H fun z11 H=>(qg g8 (qQ (y:=v3) rfl rfl rfl rfl z11.1 z11.2 underlying9) ?_)
   refine gQ 4 ?_;refine bG H (fun h12 H=>?_) (fun h12 H=>?_)
   ·refine gQ 6 ?_;refine cB H fun z13 H=>(q1 (CV (l:=v2) (k:=v3) rfl rfl rfl rfl rfl z13 underlying9) (q1 (iL ([(ps.extract (v2:Int).toNat (v3:Int).toNat)]:LB)) (cB H fun z14 H=>(q1 (lO z14) ?_))))
    exact gE 12
   exact gE 6
  exact gE 0
 rintro⟨v4,v2,v3⟩ H
 exact gE 5
def abD(fu:Nat)(pr:eC):Int→J (LR Int eC):=fun v1=>sw (decide (v1<(pr.aGb.size:Int))) (gd (0≤v1∧(v1).toNat<(pr.aGb).size) (sw (decide ((((HX pr.aGb ((v1).toNat)).toNat:Int):Int)=32)) (some (.next (bB (v1+1)))) (sw (decide ((((HX pr.aGb ((v1).toNat)).toNat:Int):Int)=10)) (some (.next (bB (v1+1)))) (some (.brk v1))))) (some (.brk v1))
def CO(fu:Nat)(pr:eC):J eC:=so (loopW (abD fu pr) fu pr.aF2) fun v1=>some (eC.mk pr.aGb v1 pr.aFY pr.aF0 pr.aF5)
theorem P5(fu:Nat)(pr:eC)(r:eC)(H:CO fu pr=some r):cM prog 172 [.ptr 0 0] ⟨[some ⟨220,[pS pr.aGb,pI pr.aF2,pI pr.aFY,pI pr.aF0,pB pr.aF5]⟩],[]⟩ (fun q t=>q=(.tup [])∧t=⟨[some ⟨220,[pS r.aGb,pI r.aF2,pI r.aFY,pI r.aF0,pB r.aF5]⟩],[]⟩):=by
 refine qJ func172 H (fun C hC H=>?_)
 refine VQ (σ:=Int) (fun v1=>⟨[(0,.ptr 0 0)],⟨[some ⟨220,[pS pr.aGb,pI v1,pI pr.aFY,pI pr.aF0,pB pr.aF5]⟩],[]⟩⟩) (fun v1=>⟨[],⟨[some ⟨220,[pS pr.aGb,pI v1,pI pr.aFY,pI pr.aF0,pB pr.aF5]⟩],[]⟩⟩) (fA H) ?_ ?_
 ·rintro k2 v1 H
  refine gQ 2 ?_
  rcases nA (decide (v1<(pr.aGb.size:Int))) with g3|g3
  ·have H:=sS H g3
   refine cB H fun z4 H=>?_
   rcases nA (decide ((((HX pr.aGb ((v1).toNat)).toNat:Int):Int)=32)) with g5|g5
   ·have H:=sS H g5
    refine dW (dI [0] bI (dI [2] wZ (dI [3] bW (dD [4] eG (dI [0] bI (dI [6] wZ (dI [7] bW (dD [8] eG (dI [9] (gP rfl rfl rfl underlying9) (dI [5,10] rLt (dI [11] bI (dI (hg:=bD g3) [0] bI (dI (hg:=bD g3) [13] wZ ?_)))))))))))))
    refine dI (hg:=bD g3) [14] bW (dD (hg:=bD g3) [15] eG (dI (hg:=bD g3) [0] bI (dI (hg:=bD g3) [17] wZ (dI (hg:=bD g3) [18] bW (dD (hg:=bD g3) [19] eG (dI (hg:=bD g3) [16,20] (qQ (y:=v1) rfl rfl rfl rfl z4.1 z4.2 underlying9) (dI (hg:=bD g3) [21] rEq (dI (hg:=bD g3) [22] bI ?_))))))))
    iterate 10 refine JV g5 ?_
    refine dI (hg:=bD g3) [23] (CJ g5) (dI [12,34] (CJ g3) (dN ?_))
    exact gE 14
   have H:=sR H g5
   refine dW (dI [0] bI (dI [2] wZ (dI [3] bW (dD [4] eG (dI [0] bI (dI [6] wZ (dI [7] bW (dD [8] eG (dI [9] (gP rfl rfl rfl underlying9) (dI [5,10] rLt (dI [11] bI (dI (hg:=bD g3) [0] bI (dI (hg:=bD g3) [13] wZ ?_)))))))))))))
   refine dI (hg:=bD g3) [14] bW (dD (hg:=bD g3) [15] eG (dI (hg:=bD g3) [0] bI (dI (hg:=bD g3) [17] wZ (dI (hg:=bD g3) [18] bW (dD (hg:=bD g3) [19] eG (dI (hg:=bD g3) [16,20] (qQ (y:=v1) rfl rfl rfl rfl z4.1 z4.2 underlying9) (dI (hg:=bD g3) [21] rEq (dI (hg:=bD g3) [22] bI (dI (hg:=bD g5) [0] bI (dI (hg:=bD g5) [24] wZ (dI (hg:=bD g5) [25] bW (dD (hg:=bD g5) [26] eG (dI (hg:=bD g5) [0] bI ?_)))))))))))))
   refine dI (hg:=bD g5) [28] wZ (dI (hg:=bD g5) [29] bW (dD (hg:=bD g5) [30] eG (dI (hg:=bD g5) [27,31] (qQ (y:=v1) rfl rfl rfl rfl z4.1 z4.2 underlying9) (dI (hg:=bD g5) [32] rEq (dI (hg:=bD g3) [23,33] (D3 g5) (dI [12,34] (CJ g3) (dN ?_)))))))
   refine bG H (fun h6 H=>gE 13) fun h6 H=>?_;exact gE 0
  have H:=sR H g3
  refine dW (dI [0] bI (dI [2] wZ (dI [3] bW (dD [4] eG (dI [0] bI (dI [6] wZ (dI [7] bW (dD [8] eG (dI [9] (gP rfl rfl rfl underlying9) (dI [5,10] rLt (dI [11] bI ?_)))))))))))
  iterate 11 refine JV g3 ?_
  iterate 10 refine dSu ?_
  refine JV g3 (dI [12] (D3 g3) (dN ?_))
  exact gE 1
 rintro v1 H
 cases tO H
 exact qe (ps:= []) ⟨rfl,rfl⟩ trivial
def MM(fu:Nat)(px:UInt8):J Bool:=sw (decide ((px.toNat:Int)≥97)) (sw (decide ((px.toNat:Int)≤122)) (some true) (sw (decide ((px.toNat:Int)≥48)) (sw (decide ((px.toNat:Int)≤57)) (some true) (sw (decide ((px.toNat:Int)=39)) (some true) (sw (decide ((px.toNat:Int)=45)) (some true) (sw (decide ((px.toNat:Int)=43)) (some true) (sw (decide ((px.toNat:Int)=42)) (some true) (sw (decide ((px.toNat:Int)=60)) (some true) (sw (decide ((px.toNat:Int)=61)) (some true) (some (decide ((px.toNat:Int)=46)))))))))) (sw (decide ((px.toNat:Int)=39)) (some true) (sw (decide ((px.toNat:Int)=45)) (some true) (sw (decide ((px.toNat:Int)=43)) (some true) (sw (decide ((px.toNat:Int)=42)) (some true) (sw (decide ((px.toNat:Int)=60)) (some true) (sw (decide ((px.toNat:Int)=61)) (some true) (some (decide ((px.toNat:Int)=46))))))))))) (sw (decide ((px.toNat:Int)≥48)) (sw (decide ((px.toNat:Int)≤57)) (some true) (sw (decide ((px.toNat:Int)=39)) (some true) (sw (decide ((px.toNat:Int)=45)) (some true) (sw (decide ((px.toNat:Int)=43)) (some true) (sw (decide ((px.toNat:Int)=42)) (some true) (sw (decide ((px.toNat:Int)=60)) (some true) (sw (decide ((px.toNat:Int)=61)) (some true) (some (decide ((px.toNat:Int)=46)))))))))) (sw (decide ((px.toNat:Int)=39)) (some true) (sw (decide ((px.toNat:Int)=45)) (some true) (sw (decide ((px.toNat:Int)=43)) (some true) (sw (decide ((px.toNat:Int)=42)) (some true) (sw (decide ((px.toNat:Int)=60)) (some true) (sw (decide ((px.toNat:Int)=61)) (some true) (some (decide ((px.toNat:Int)=46))))))))))
theorem abA(fu:Nat)(px:UInt8)(r:Bool)(H:MM fu px=some r):bU prog 196 [pU px] (pB r):=by
 refine qJ func196 H (fun C hC H=>?_)
 refine gQ 9 ?_;refine dY 5 H (fun g1 H=>?_) fun g1 H=>?_
 ·refine gQ 4 ?_;refine dY 9 H (fun g2 H=>gE 37) fun g2 H=>?_;refine gQ 3 ?_;refine dY 12 H (fun g3 H=>?_) fun g3 H=>?_
  ·refine gQ 5 ?_;refine dY 17 H (fun g4 H=>gE 29) fun g4 H=>?_;refine gQ 4 ?_;refine dY 21 H (fun g5 H=>gE 25) fun g5 H=>?_;refine gQ 4 ?_;refine dY 25 H (fun g6 H=>gE 21) fun g6 H=>?_;refine gQ 4 ?_;refine dY 29 H (fun g7 H=>gE 17) fun g7 H=>?_;refine gQ 4 ?_;refine dY 33 H (fun g8 H=>gE 13) fun g8 H=>?_;refine gQ 4 ?_;refine dY 37 H (fun g9 H=>gE 9) fun g9 H=>?_;refine gQ 4 ?_;refine dY 41 H (fun g10 H=>gE 5) fun g10 H=>?_;exact gE 5
  refine gQ 9 ?_;refine dY 21 H (fun g11 H=>gE 25) fun g11 H=>?_;refine gQ 4 ?_;refine dY 25 H (fun g12 H=>gE 21) fun g12 H=>?_;refine gQ 4 ?_;refine dY 29 H (fun g13 H=>gE 17) fun g13 H=>?_;refine gQ 4 ?_;refine dY 33 H (fun g14 H=>gE 13) fun g14 H=>?_;refine gQ 4 ?_;refine dY 37 H (fun g15 H=>gE 9) fun g15 H=>?_;refine gQ 4 ?_;refine dY 41 H (fun g16 H=>gE 5) fun g16 H=>?_;exact gE 5
 refine gQ 7 ?_;refine dY 12 H (fun g17 H=>?_) fun g17 H=>?_
 ·refine gQ 5 ?_;refine dY 17 H (fun g18 H=>gE 29) fun g18 H=>?_;refine gQ 4 ?_;refine dY 21 H (fun g19 H=>gE 25) fun g19 H=>?_;refine gQ 4 ?_;refine dY 25 H (fun g20 H=>gE 21) fun g20 H=>?_;refine gQ 4 ?_;refine dY 29 H (fun g21 H=>gE 17) fun g21 H=>?_;refine gQ 4 ?_;refine dY 33 H (fun g22 H=>gE 13) fun g22 H=>?_;refine gQ 4 ?_;refine dY 37 H (fun g23 H=>gE 9) fun g23 H=>?_;refine gQ 4 ?_;refine dY 41 H (fun g24 H=>gE 5) fun g24 H=>?_;exact gE 5
 refine gQ 9 ?_;refine dY 21 H (fun g25 H=>gE 25) fun g25 H=>?_;refine gQ 4 ?_;refine dY 25 H (fun g26 H=>gE 21) fun g26 H=>?_;refine gQ 4 ?_;refine dY 29 H (fun g27 H=>gE 17) fun g27 H=>?_;refine gQ 4 ?_;refine dY 33 H (fun g28 H=>gE 13) fun g28 H=>?_;refine gQ 4 ?_;refine dY 37 H (fun g29 H=>gE 9) fun g29 H=>?_;refine gQ 4 ?_;refine dY 41 H (fun g30 H=>gE 5) fun g30 H=>?_;exact gE 5
abbrev CN:=eC→Option (aB×eC)
def MQ(m:CN):Prop:= ∀(pA:eC) (r:aB×eC),m pA=some r→cM prog 171 [.ptr 0 0] ⟨[some ⟨220,[pS pA.aGb,pI pA.aF2,pI pA.aFY,pI pA.aF0,pB pA.aF5]⟩],[]⟩ (fun q t=>q=((aB.pv r.1):PV)∧t=⟨[some ⟨220,[pS r.2.aGb,pI r.2.aF2,pI r.2.aFY,pI r.2.aF0,pB r.2.aF5]⟩],[]⟩)
def abB(fu:Nat)(p3:CN)(pA x2:eC):Int→J (LR Int (aB×eC)):=fun v5=>sw (decide (v5<(x2.aGb.size:Int))) (gd (0≤v5∧(v5).toNat<(x2.aGb).size) (bd (MM fu (HX x2.aGb ((v5).toNat))) fun x10=>sw x10 (some (.next (bB (v5+1)))) (some (.brk v5)))) (some (.brk v5))
def abC(fu:Nat)(p3:CN)(pA x2:eC)(v5:Int):(Y×Int×Int×Int×Bool×(Z aB))→J (LR (Y×Int×Int×Int×Bool×(Z aB)) (aB×eC)):=fun(v17,v18,v19,v20,v21,v23)=>sw (!(v21)) (bd (CO fu (eC.mk v17 v18 v19 v20 v21)) fun x27=>sw (decide (x27.aF2<(x27.aGb.size:Int))) (gd (0≤x27.aF2∧(x27.aF2).toNat<(x27.aGb).size) (sw (decide ((((HX x27.aGb ((x27.aF2).toNat)).toNat:Int):Int)=41)) (some (.ret ((aB.mk s_ v23),(eC.mk x27.aGb (bB (x27.aF2+1)) (bB (x27.aFY-1)) x27.aF0 x27.aF5)))) (bd (p3 x27) fun(x32,x33)=>gd ((v23).length+(([x32]:Z aB)).length≤68719476736) (some (.next (x33.aGb,x33.aF2,x33.aFY,x33.aF0,x33.aF5,(v23++([x32]:Z aB)))))))) (bd (p3 x27) fun(x36,x37)=>gd ((v23).length+(([x36]:Z aB)).length≤68719476736) (some (.next (x37.aGb,x37.aF2,x37.aFY,x37.aF0,x37.aF5,(v23++([x36]:Z aB))))))) (some (.brk (v17,v18,v19,v20,v21,v23)))
def MP(fu:Nat)(p3:CN)(pA:eC):J (aB×eC):=bd (CO fu pA) fun x2=>sw (decide (x2.aF2≥(x2.aGb.size:Int))) (some ((aB.mk s_ []),(eC.mk x2.aGb x2.aF2 x2.aFY (bB (x2.aF0+1)) true))) (sw (decide ((bB (x2.aF0+1):Int)>900)) (some ((aB.mk s_ []),(eC.mk x2.aGb x2.aF2 x2.aFY (bB (x2.aF0+1)) true))) (so (loopW (abB fu p3 pA x2) fu x2.aF2) fun v5=>sw (decide (v5>x2.aF2)) (gd ((0:Int)≤x2.aF2∧(x2.aF2:Int)≤v5∧(v5:Int)≤(x2.aGb.size:Int)) (some ((aB.mk (x2.aGb.extract (x2.aF2:Int).toNat (v5:Int).toNat) []),(eC.mk x2.aGb v5 x2.aFY (bB (x2.aF0+1)) x2.aF5)))) (gd (0≤v5∧(v5).toNat<(x2.aGb).size) (sw (!decide ((((HX x2.aGb ((v5).toNat)).toNat:Int):Int)=40)) (some ((aB.mk s_ []),(eC.mk x2.aGb v5 x2.aFY (bB (x2.aF0+1)) true))) (sw (decide (x2.aFY=14)) (some ((aB.mk s_ []),(eC.mk x2.aGb v5 x2.aFY (bB (x2.aF0+1)) true))) (so (loopW (abC fu p3 pA x2 v5) fu (x2.aGb,(bB (v5+1)),(bB (x2.aFY+1)),(bB (x2.aF0+1)),x2.aF5,([]))) fun(v17,v18,v19,v20,v21,v23)=>some ((aB.mk s_ v23),(eC.mk v17 v18 v19 v20 v21))))))))
theorem ahG(fu:Nat)(p3:CN)(p9:MQ p3):MQ (MP fu p3):=by
 intro pA r H
 refine qJ func171 H (fun C hC H=>?_)
 refine gQ 7 ?_;refine bN H fun x2 z1 H=>(q1 (fO [0] [] func172 (P5 fu pA _ z1)) ?_)
 refine gQ 15 ?_
 rcases nA (decide (x2.aF2≥(x2.aGb.size:Int))) with g3|g3
 ·have H:=sS H g3
  refine dW (dI [0] bI (dI [15] wZ (dI [16] bW (dD [17] eG (dI [0] bI (dI [19] wZ (dI [20] bW (dD [21] eG (dI [22] (gP rfl rfl rfl underlying9) (dI [18,23] rGe (dI [24] bI ?_)))))))))))
  iterate 5 refine JV g3 ?_
  refine dI [25] (CJ g3) (dN ?_)
  exact gE 13
 have H:=sR H g3
 refine dW (dI [0] bI (dI [15] wZ (dI [16] bW (dD [17] eG (dI [0] bI (dI [19] wZ (dI [20] bW (dD [21] eG (dI [22] (gP rfl rfl rfl underlying9) (dI [18,23] rGe (dI [24] bI (dI (hg:=bD g3) [0] bI (dI (hg:=bD g3) [26] wZ ?_)))))))))))))
 refine dI (hg:=bD g3) [27] bW (dD (hg:=bD g3) [28] eG (dI (hg:=bD g3) [29] rGt (dI [25,30] (D3 g3) (dN ?_))))
 refine bG H (fun h4 H=>gE 12) fun h4 H=>?_;refine gQ 10 ?_;refine VQ (σ:=Int) (fun v5=>⟨[(0,.ptr 0 0),(2,.ptr 1 0),(3,pI x2.aF2)],⟨[some ⟨220,[pS x2.aGb,pI v5,pI x2.aFY,pI (bB (x2.aF0+1)),pB x2.aF5]⟩,some ⟨189,[pS s_,.nil]⟩],[]⟩⟩) (fun v5=>⟨[(0,.ptr 0 0),(2,.ptr 1 0),(3,pI x2.aF2)],⟨[some ⟨220,[pS x2.aGb,pI v5,pI x2.aFY,pI (bB (x2.aF0+1)),pB x2.aF5]⟩,some ⟨189,[pS s_,.nil]⟩],[]⟩⟩) (fA H) ?_ ?_
 ·rintro k6 v5 H
  refine gQ 2 ?_
  rcases nA (decide (v5<(x2.aGb.size:Int))) with g7|g7
  ·have H:=sS H g7
   refine cB H fun z8 H=>(bN H fun x10 z9 H=>(dW (dI [0] bI (dI [40] wZ (dI [41] bW (dD [42] eG (dI [0] bI (dI [44] wZ (dI [45] bW (dD [46] eG (dI [47] (gP rfl rfl rfl underlying9) (dI [43,48] rLt (dI [49] bI ?_)))))))))))))
   refine dI (hg:=bD g7) [0] bI (dI (hg:=bD g7) [51] wZ (dI (hg:=bD g7) [52] bW (dD (hg:=bD g7) [53] eG (dI (hg:=bD g7) [0] bI (dI (hg:=bD g7) [55] wZ (dI (hg:=bD g7) [56] bW (dD (hg:=bD g7) [57] eG (dI (hg:=bD g7) [54,58] (qQ (y:=v5) rfl rfl rfl rfl z8.1 z8.2 underlying9) (dI (hg:=bD g7) [59] (bJ func196 (abA fu (HX x2.aGb ((v5).toNat)) _ z9)) (dI [50,60] (CJ g7) (dN ?_)))))))))))
   refine bG H (fun h11 H=>gE 13) fun h11 H=>?_;exact gE 0
  have H:=sR H g7
  refine dW (dI [0] bI (dI [40] wZ (dI [41] bW (dD [42] eG (dI [0] bI (dI [44] wZ (dI [45] bW (dD [46] eG (dI [47] (gP rfl rfl rfl underlying9) (dI [43,48] rLt (dI [49] bI ?_)))))))))))
  iterate 10 refine JV g7 ?_
  refine dI [50] (D3 g7) (dN ?_)
  exact gE 1
 rintro v5 H
 refine gQ 10 ?_;refine bG H (fun h12 H=>?_) (fun h12 H=>?_)
 ·refine qS (cB H fun z13 H=>(dW (dI [0] bI (dI [76] wZ (dI [77] bW (dD [78] eG (dI [3] bI (dI [0] bI (dI [81] wZ (dI [82] bW (dD [83] eG (dI [79,80,84] (CV (l:=x2.aF2) (k:=v5) rfl rfl rfl rfl rfl z13 underlying9) (dI [85] rQ ?_)))))))))))))
  refine iW [2,86] hY (dN ?_)
  exact gE 0
 refine gQ 3 ?_;refine cB H fun z14 H=>?_
 rcases nA (!decide ((((HX x2.aGb ((v5).toNat)).toNat:Int):Int)=40)) with g15|g15
 ·have H:=sS H g15
  refine dW (dI [0] bI (dI [87] wZ (dI [88] bW (dD [89] eG (dI [0] bI (dI [91] wZ (dI [92] bW (dD [93] eG (dI [90,94] (qQ (y:=v5) rfl rfl rfl rfl z14.1 z14.2 underlying9) (dI [95] rNe (dI [96] bI ?_)))))))))))
  iterate 5 refine JV g15 ?_
  refine dI [97] (CJ g15) (dN ?_)
  exact gE 13
 have H:=sR H g15
 refine dW (dI [0] bI (dI [87] wZ (dI [88] bW (dD [89] eG (dI [0] bI (dI [91] wZ (dI [92] bW (dD [93] eG (dI [90,94] (qQ (y:=v5) rfl rfl rfl rfl z14.1 z14.2 underlying9) (dI [95] rNe (dI [96] bI (dI (hg:=bD g15) [0] bI (dI (hg:=bD g15) [98] wZ ?_)))))))))))))
 refine dI (hg:=bD g15) [99] bW (dD (hg:=bD g15) [100] eG (dI (hg:=bD g15) [101] rEq (dI [97,102] (D3 g15) (dN ?_))))
 refine bG H (fun h16 H=>gE 12) fun h16 H=>?_;refine gQ 32 ?_;refine kC (eY (k:=2) (j:=1) 189 2 (by decide) rfl rfl) ?_;refine VQ (σ:=Y×Int×Int×Int×Bool×(Z aB)) (fun(v17,v18,v19,v20,v21,v23)=>⟨[(0,.ptr 0 0),(2,.ptr 1 0),(4,.ptr 2 0)],⟨[some ⟨220,[pS v17,pI v18,pI v19,pI v20,pB v21]⟩,some ⟨189,[pS s_,.nil]⟩,some ⟨189,[pS s_,eW v23 0]⟩],[⟨189,2,aB.trs (v23),false⟩]⟩⟩) (fun(v17,v18,v19,v20,v21,v23)=>⟨[(2,.ptr 1 0),(4,.ptr 2 0)],⟨[some ⟨220,[pS v17,pI v18,pI v19,pI v20,pB v21]⟩,some ⟨189,[pS s_,.nil]⟩,some ⟨189,[pS s_,eW v23 0]⟩],[⟨189,2,aB.trs (v23),false⟩]⟩⟩) (fA H) ?_ ?_
 ·rintro k24 ⟨v17,v18,v19,v20,v21,v23⟩ H
  refine gQ 9 ?_;refine bG H (fun h25 H=>?_) (fun h25 H=>?_)
  ·refine gQ 5 ?_;refine bN H fun x27 z26 H=>(q1 (fO [0] [] func172 (P5 fu (eC.mk v17 v18 v19 v20 v21) _ z26)) ?_)
   refine gQ 3 ?_
   rcases nA (decide (x27.aF2<(x27.aGb.size:Int))) with g28|g28
   ·have H:=sS H g28
    refine cB H fun z29 H=>(dW (dI [0] bI (dI [132] wZ (dI [133] bW (dD [134] eG (dI [0] bI (dI [136] wZ (dI [137] bW (dD [138] eG (dI [139] (gP rfl rfl rfl underlying9) (dI [135,140] rLt (dI [141] bI (dI (hg:=bD g28) [0] bI ?_)))))))))))))
    refine dI (hg:=bD g28) [143] wZ (dI (hg:=bD g28) [144] bW (dD (hg:=bD g28) [145] eG (dI (hg:=bD g28) [0] bI (dI (hg:=bD g28) [147] wZ (dI (hg:=bD g28) [148] bW (dD (hg:=bD g28) [149] eG (dI (hg:=bD g28) [146,150] (qQ (y:=x27.aF2) rfl rfl rfl rfl z29.1 z29.2 underlying9) (dI (hg:=bD g28) [151] rEq (dI [142,152] (CJ g28) (dN ?_))))))))))
    refine bG H (fun h30 H=>?_) (fun h30 H=>?_)
    ·refine gQ 26 ?_;refine q1 (b4 [pS s_,eW v23 0]) ?_;exact gE 2
    refine dR.skip (eX H fun x32 x33 z31 H=>(cB H fun z34 H=>(dW (dI [4] bW (dB [171] 0 1 tP (dI [0] bI (dE [173] (fO [0] [] func171 (p9 x27 _ z31)) (dI [174] (iL ([x32]:Z aB)) (dE [172,175] (lO z34) (dI [4] bW (iW [177,176] hY (dN ?_))))))))))))
    exact gE 0
   have H:=sR H g28
   refine dW (dI [0] bI (dI [132] wZ (dI [133] bW (dD [134] eG (dI [0] bI (dI [136] wZ (dI [137] bW (dD [138] eG (dI [139] (gP rfl rfl rfl underlying9) (dI [135,140] rLt (dI [141] bI ?_)))))))))))
   iterate 10 refine JV g28 ?_
   refine dI [142] (D3 g28) (dN ?_)
   refine gQ 2 ?_;refine eX H fun x36 x37 z35 H=>(cB H fun z38 H=>(dW (dI [4] bW (dB [171] 0 1 tP (dI [0] bI (dE [173] (fO [0] [] func171 (p9 x27 _ z35)) (dI [174] (iL ([x36]:Z aB)) (dE [172,175] (lO z38) (dI [4] bW (iW [177,176] hY (dN ?_)))))))))))
   exact gE 0
  exact gE 0
 rintro⟨v17,v18,v19,v20,v21,v23⟩ H
 refine gQ 2 ?_;refine q1 (b4 [pS s_,eW v23 0]) ?_;exact gE 2
def t5:Nat→eC→J (aB×eC)
 |0,_=>none
 |fu+1,pA=>MP fu (t5 fu) pA
theorem ak7(fu:Nat):MQ (t5 fu):=by
 induction fu with
 |zero=>exact(fun pA r H=>by simp only [t5] at H;cases H)
 |succ fu ih=>exact(fun pA r H=>by simp only [t5] at H;exact ahG fu (t5 fu) ih pA r H)
theorem aoE(fu:Nat):MQ (t5 fu):=(ak7 fu)
abbrev CM:=aB→Int→Option Int
def MO(m:CM):Prop:= ∀(px:aB) (p6:Int) (r:Int),m px p6=some r→bU prog 197 [(aB.pv px),pI p6] (pI r:PV)
def aoA(fu:Nat)(p4:CM)(px:aB)(p6:Int):Nat→Int→J (LR Int Int):=fun i1 v2=>sw (decide (v2≥0)) (bd (p4 (aR px.aFv i1) v2) fun x7=>some (.next x7)) (some (.brk v2))
def U6(fu:Nat)(p4:CM)(px:aB)(p6:Int):J Int:=so (loopN (aoA fu p4 px p6) (px.aFv.length-0) 0 (bB (p6-1))) fun v2=>some v2
theorem ahF(fu:Nat)(p4:CM)(pC:MO p4):MO (U6 fu p4):=by
 intro px p6 r H
 refine qJ func197 H (fun C hC H=>?_)
 refine gQ 2 ?_;refine q1 (fQ ([pS px.aFy,bM px.aFv])) ?_;refine gQ 13 ?_;refine dR.fact (cP 0 1 rfl rfl rfl (aB.tl _)) (fun hl3=>?_)
 refine bV (σ:=Int) (fun i1 v2=>⟨[(1,pI v2),(2,.ptr 0 0),(4,pI 0),(5,pN i1)],⟨[some ⟨189,[pS px.aFy,bM px.aFv]⟩],[]⟩⟩) (fun v2=>⟨[(1,pI v2),(4,pI 0)],⟨[some ⟨189,[pS px.aFy,bM px.aFv]⟩],[]⟩⟩) (fA H) ?_ ?_
 ·rintro i1 v2 H
  refine gQ 9 ?_;refine xO 13 rfl (fun g4=>?_) (fun g4=>?_)
  ·have g4l:=yJ g4
   have H:=lnT g4l H
   have g4n:=yI g4
   refine gQ 4 ?_;refine bG H (fun h5 H=>?_) (fun h5 H=>?_)
   ·refine gQ 8 ?_;refine q1 (gZ (aB.cs (aR px.aFv i1))) (q1 bI (bN H fun x7 z6 H=>(q1 (bJ func197 (pC (aR px.aFv i1) v2 _ z6)) ?_)))
    exact gE 7
   exact gE 0
  have H:=lnE (yH g4) H
  exact gE 5
 rintro v2 H
 exact gE 5
def sI:Nat→aB→Int→J Int
 |0,_,_=>none
 |fu+1,px,p6=>U6 fu (sI fu) px p6
theorem ak6(fu:Nat):MO (sI fu):=by
 induction fu with
 |zero=>exact(fun px p6 r H=>by simp only [sI] at H;cases H)
 |succ fu ih=>exact(fun px p6 r H=>by simp only [sI] at H;exact ahF fu (sI fu) ih px p6 r H)
theorem aoC(fu:Nat):MO (sI fu):=(ak6 fu)
def IZ(fu:Nat)(px pF pG:Int):J Bool:=sw (decide (px≥pF)) (some (decide (px≤pG))) (some false)
theorem LC(fu:Nat)(px:Int)(pF:Int)(pG:Int)(r:Bool)(H:IZ fu px pF pG=some r):bU prog 64 [pI px,pI pF,pI pG] (pB r):=by
 refine qJ func64 H (fun C hC H=>?_)
 refine gQ 10 ?_;refine dY 10 H (fun g1 H=>gE 6) fun g1 H=>?_;exact gE 6
def W6(fu:Nat)(ps:Y):Nat→Unit→J (LR Unit Bool):=fun i1 _=>gd (i1<(ps).size) (bd (MM fu (HX ps i1)) fun x6=>sw (!(x6)) (some (.ret false)) (some (.next ())))
def DH(fu:Nat)(ps:Y):J Bool:=so (loopN (W6 fu ps) (ps.size-0) 0 ()) fun _=>bd (IZ fu (ps.size:Int) 1 12) fun x9=>some x9
theorem W7(fu:Nat)(ps:Y)(r:Bool)(H:DH fu ps=some r):bU prog 214 [pS ps] (pB r):=by
 refine qJ func214 H (fun C hC H=>?_)
 refine gQ 9 ?_;refine szF 0 (fun hl2=>?_)
 refine bV (σ:=Unit) (fun i1 _=>⟨[(0,pS ps),(2,pB false),(3,pN i1)],⟨[],[]⟩⟩) (fun _=>⟨[(0,pS ps),(2,pB false)],⟨[],[]⟩⟩) (fA H) ?_ ?_
 ·rintro i1 ⟨⟩ H
  refine gQ 5 ?_;refine q1 (gP rfl rfl rfl underlying9) ?_;refine gQ 2 ?_;refine cZ H (fun h3 h3l H=>?_) (fun h3 H=>?_)
  ·have h3n:i1<ps.size:=by have:=of_decide_eq_true h3;omega
   refine gQ 7 ?_;refine cB H fun z4 H=>(q1 (hZ (k:=i1) rfl rfl rfl rfl z4 underlying9) (bN H fun x6 z5 H=>(q1 (bJ func196 (abA fu (HX ps i1) _ z5)) ?_)))
   refine gQ 2 ?_;refine bG H (fun h7 H=>gE 4) fun h7 H=>?_;exact gE 6
  exact gE 0
 rintro⟨⟩ H
 refine gQ 3 ?_;refine q1 (gP rfl rfl rfl underlying9) (bN H fun x9 z8 H=>(q1 (bJ func64 (LC fu (ps.size:Int) 1 12 _ z8)) ?_))
 exact gE 2
abbrev CL:=aB→Option Bool
def MN(m:CL):Prop:= ∀(px:aB) (r:Bool),m px=some r→bU prog 198 [(aB.pv px)] (pB r:PV)
def an7(fu:Nat)(p5:CL)(px:aB):Nat→Unit→J (LR Unit Bool):=fun i5 _=>bd (p5 (aR px.aFv i5)) fun x9=>sw (!(x9)) (some (.ret false)) (some (.next ()))
def U5(fu:Nat)(p5:CL)(px:aB):J Bool:=sw (!decide (px.aFy=s_)) (bd (DH fu px.aFy) fun x3=>sw x3 (some (decide ((px.aFv.length:Int)=0))) (some false)) (so (loopN (an7 fu p5 px) (px.aFv.length-0) 0 ()) fun _=>some true)
theorem ahE(fu:Nat)(p5:CL)(pD:MN p5):MN (U5 fu p5):=by
 intro px r H
 refine qJ func198 H (fun C hC H=>?_)
 refine gQ 2 ?_;refine q1 (fQ ([pS px.aFy,bM px.aFv])) ?_;refine gQ 9 ?_;refine bG H (fun h1 H=>?_) (fun h1 H=>?_)
 ·refine gQ 4 ?_;refine bN H fun x3 z2 H=>(q1 (bJ func214 (W7 fu px.aFy _ z2)) (q1 bI ?_))
  refine dY 10 H (fun g4 H=>gE 7) fun g4 H=>?_;exact gE 7
 refine gQ 6 ?_;refine dR.fact (cP 0 1 rfl rfl rfl (aB.tl _)) (fun hl6=>?_)
 refine bV (σ:=Unit) (fun i5 _=>⟨[(1,.ptr 0 0),(2,pB false),(3,pN i5)],⟨[some ⟨189,[pS px.aFy,bM px.aFv]⟩],[]⟩⟩) (fun _=>⟨[(2,pB false)],⟨[some ⟨189,[pS px.aFy,bM px.aFv]⟩],[]⟩⟩) (fA H) ?_ ?_
 ·rintro i5 ⟨⟩ H
  refine gQ 9 ?_;refine cZ H (fun h7 h7l H=>?_) (fun h7 H=>?_)
  ·refine gQ 9 ?_;refine q1 (gZ (aB.cs (aR px.aFv i5))) (bN H fun x9 z8 H=>(q1 (bJ func198 (pD (aR px.aFv i5) _ z8)) ?_))
   refine gQ 2 ?_;refine bG H (fun h10 H=>gE 4) fun h10 H=>?_;exact gE 6
  exact gE 0
 rintro⟨⟩ H
 exact gE 4
def sH:Nat→aB→J Bool
 |0,_=>none
 |fu+1,px=>U5 fu (sH fu) px
theorem ak5(fu:Nat):MN (sH fu):=by
 induction fu with
 |zero=>exact(fun px r H=>by simp only [sH] at H;cases H)
 |succ fu ih=>exact(fun px r H=>by simp only [sH] at H;exact ahE fu (sH fu) ih px r H)
theorem an9(fu:Nat):MN (sH fu):=(ak5 fu)
def SI(fu:Nat)(pa pb:Int):J Int:=sw (decide (pa>pb)) (some pa) (some pb)
theorem aeN(fu:Nat)(pa:Int)(pb:Int)(r:Int)(H:SI fu pa pb=some r):bU prog 215 [pI pa,pI pb] (pI r):=by
 refine qJ func215 H (fun C hC H=>?_)
 refine gQ 11 ?_;refine bG H (fun h1 H=>gE 5) fun h1 H=>?_;exact gE 6
abbrev sF:=aB→Option Int
def zO(m:sF):Prop:= ∀(px:aB) (r:Int),m px=some r→bU prog 199 [(aB.pv px)] (pI r:PV)
def aaP(fu:Nat)(p1:sF)(px:aB):Nat→Int→J (LR Int Int):=fun i2 v3=>bd (p1 (aR px.aFv i2)) fun x7=>bd (SI fu v3 x7) fun x9=>some (.next x9)
def FP(fu:Nat)(p1:sF)(px:aB):J Int:=sw (!decide (px.aFy=s_)) (some 0) (so (loopN (aaP fu p1 px) (px.aFv.length-0) 0 0) fun v3=>some (bB (v3+1)))
theorem UN(fu:Nat)(p1:sF)(p7:zO p1):zO (FP fu p1):=by
 intro px r H
 refine qJ func199 H (fun C hC H=>?_)
 refine gQ 2 ?_;refine q1 (fQ ([pS px.aFy,bM px.aFv])) ?_;refine gQ 9 ?_;refine bG H (fun h1 H=>gE 4) fun h1 H=>?_;refine gQ 10 ?_;refine dR.fact (cP 0 1 rfl rfl rfl (aB.tl _)) (fun hl4=>?_)
 refine bV (σ:=Int) (fun i2 v3=>⟨[(1,.ptr 0 0),(2,pI 0),(3,pI v3),(4,pN i2)],⟨[some ⟨189,[pS px.aFy,bM px.aFv]⟩],[]⟩⟩) (fun v3=>⟨[(2,pI 0),(3,pI v3)],⟨[some ⟨189,[pS px.aFy,bM px.aFv]⟩],[]⟩⟩) (fA H) ?_ ?_
 ·rintro i2 v3 H
  refine gQ 9 ?_;refine cZ H (fun h5 h5l H=>?_) (fun h5 H=>?_)
  ·refine gQ 9 ?_;refine q1 (gZ (aB.cs (aR px.aFv i2))) (bN H fun x7 z6 H=>(q1 (bJ func199 (p7 (aR px.aFv i2) _ z6)) (bN H fun x9 z8 H=>(q1 (bJ func215 (aeN fu v3 x7 _ z8)) ?_))))
   exact gE 7
  exact gE 0
 rintro v3 H
 exact gE 6
def kF:Nat→aB→J Int
 |0,_=>none
 |fu+1,px=>FP fu (kF fu) px
theorem XB(fu:Nat):zO (kF fu):=by
 induction fu with
 |zero=>exact(fun px r H=>by simp only [kF] at H;cases H)
 |succ fu ih=>exact(fun px r H=>by simp only [kF] at H;exact UN fu (kF fu) ih px r H)
theorem aaR(fu:Nat):zO (kF fu):=(XB fu)
def jM(fu:Nat)(px:aB):J Bool:=bd (sI fu px 900) fun x2=>sw (decide (x2≥0)) (bd (sH fu px) fun x5=>sw x5 (bd (kF fu px) fun x8=>some (decide (x8≤14))) (some false)) (some false)
theorem eA(fu:Nat)(px:aB)(r:Bool)(H:jM fu px=some r):bU prog 173 [(aB.pv px)] (pB r):=by
 refine qJ func173 H (fun C hC H=>?_)
 refine gQ 2 ?_;refine q1 (fQ ([pS px.aFy,bM px.aFv])) ?_;refine gQ 4 ?_;refine q1 (b4 [pS px.aFy,bM px.aFv]) (bN H fun x2 z1 H=>(q1 (bJ func197 (aoC fu px 900 _ z1)) ?_))
 refine gQ 2 ?_;refine dY 6 H (fun g3 H=>?_) fun g3 H=>?_
 ·refine qg g3 (b4 [pS px.aFy,bM px.aFv]) (bN H fun x5 z4 H=>(qg g3 (bJ func198 (an9 fu px _ z4)) ?_))
  refine gQ 2 ?_;refine dY 10 H (fun g6 H=>?_) fun g6 H=>?_
  ·refine qg g6 (b4 [pS px.aFy,bM px.aFv]) (bN H fun x8 z7 H=>(qg g6 (bJ func199 (aaR fu px _ z7)) ?_))
   exact gE 4
  exact gE 6
 exact gE 10
def zN(fu:Nat)(ps:Y):J (aB×Bool):=bd (t5 fu (eC.mk ps 0 0 0 false)) fun(x2,x3)=>bd (CO fu x3) fun x5=>sw (x5.aF5) (some ((aB.mk s_ []),false)) (sw (!decide (x5.aF2=(ps.size:Int))) (some ((aB.mk s_ []),false)) (bd (jM fu x2) fun x9=>sw (!(x9)) (some ((aB.mk s_ []),false)) (some (x2,true))))
theorem aaO(fu:Nat)(ps:Y)(r:aB×Bool)(H:zN fu ps=some r):bU prog 145 [pS ps] (.tup [(aB.pv r.1),pB r.2]):=by
 refine qJ func145 H (fun C hC H=>?_)
 refine gQ 9 ?_;refine q1 (fQ ([pS ps,pI 0,pI 0,pI 0,pB false])) ?_;refine gQ 5 ?_;refine eX H fun x2 x3 z1 H=>(q1 (fO [1] [] func171 (aoE fu (eC.mk ps 0 0 0 false) _ z1)) ?_)
 refine gQ 6 ?_;refine bN H fun x5 z4 H=>(q1 (fO [1] [] func172 (P5 fu x3 _ z4)) ?_)
 refine gQ 9 ?_;refine dY 17 H (fun g6 H=>gE 21) fun g6 H=>?_;refine qg g6 bI (qg g6 wZ ?_)
 refine gQ 3 ?_;refine qg g6 (gP rfl rfl rfl underlying9) ?_;refine gQ 3 ?_;refine dY 26 H (fun g7 H=>gE 12) fun g7 H=>?_;refine qg g7 (b4 [pS x2.aFy,bM x2.aFv]) (bN H fun x9 z8 H=>(qg g7 (bJ func173 (eA fu x2 _ z8)) ?_))
 refine gQ 3 ?_;refine bG H (fun h10 H=>gE 6) fun h10 H=>?_;refine gQ 3 ?_;refine q1 (b4 [pS x2.aFy,bM x2.aFv]) ?_;exact gE 3
def ak4(fu:Nat)(p0:Z aB):Nat→((LB))→J (LR ((LB)) ((LB)×Bool)):=fun i1 v3=>sw (decide ((aR p0 i1).aFy=s_)) (some (.ret (([]),false))) (gd ((v3).length+(([((aR p0 i1).aFy)]:LB)).length≤68719476736) (some (.next (v3++([((aR p0 i1).aFy)]:LB)))))
def D0(fu:Nat)(p0:Z aB):J ((LB)×Bool):=so (loopN (ak4 fu p0) (p0.length-0) 0 ([])) fun v3=>some (v3,true)
theorem LG(fu:Nat)(p0:Z aB)(r:(LB)×Bool)(H:D0 fu p0=some r):bU prog 174 [bM p0] (.tup [rS r.1,pB r.2]):=by
 refine qJ func174 H (fun C hC H=>?_)
 refine gQ 7 ?_;refine q1 (sM ([]:LB)) ?_;refine gQ 7 ?_;refine gV 0 (aB.tl _) (fun hl4=>?_)
 refine bV (σ:=(LB)) (fun i1 v3=>⟨[(0,bM p0),(2,.nil),(3,pB false),(4,aS v3 0),(5,pN i1)],⟨[],[⟨9,1,bA (v3),false⟩]⟩⟩) (fun v3=>⟨[(2,.nil),(3,pB false),(4,aS v3 0)],⟨[],[⟨9,1,bA (v3),false⟩]⟩⟩) (fA H) ?_ ?_
 ·rintro i1 v3 H
  refine gQ 8 ?_;refine cZ H (fun h5 h5l H=>?_) (fun h5 H=>?_)
  ·refine gQ 13 ?_;refine bG H (fun h6 H=>?_) (fun h6 H=>?_)
   ·refine gQ 2 ?_;refine q1 (sM ([]:LB)) ?_;exact gE 3
   refine gQ 8 ?_;refine q1 (iL ([((aR p0 i1).aFy)]:LB)) (cB H fun z7 H=>(q1 (lO z7) ?_))
   exact gE 7
  exact gE 0
 rintro v3 H
 exact gE 6
def cN(fu:Nat)(ps:Y):J aB:=some (aB.mk ps [])
theorem cD(fu:Nat)(ps:Y)(r:aB)(H:cN fu ps=some r):bU prog 239 [pS ps] ((aB.pv r)):=by
 refine qJ func239 H (fun C hC H=>?_)
 exact gE 10
def ak8(fu:Nat)(p0:LB):Nat→((Z aB))→J (LR ((Z aB)) ((Z aB))):=fun i1 v3=>bd (cN fu (aR p0 i1)) fun x7=>gd ((v3).length+(([x7]:Z aB)).length≤68719476736) (some (.next (v3++([x7]:Z aB))))
def I7(fu:Nat)(p0:LB):J ((Z aB)):=so (loopN (ak8 fu p0) (p0.length-0) 0 ([])) fun v3=>some v3
theorem V7(fu:Nat)(p0:LB)(r:(Z aB))(H:I7 fu p0=some r):bU prog 254 [rS p0] (bM r):=by
 refine qJ func254 H (fun C hC H=>?_)
 refine gQ 6 ?_;refine q1 (sM ([]:Z aB)) ?_;refine gQ 7 ?_;refine gV 0 (b6 _) (fun hl4=>?_)
 refine bV (σ:=(Z aB)) (fun i1 v3=>⟨[(0,rS p0),(2,.nil),(3,eW v3 0),(4,pN i1)],⟨[],[⟨189,2,aB.trs (v3),false⟩]⟩⟩) (fun v3=>⟨[(2,.nil),(3,eW v3 0)],⟨[],[⟨189,2,aB.trs (v3),false⟩]⟩⟩) (fA H) ?_ ?_
 ·rintro i1 v3 H
  refine gQ 8 ?_;refine cZ H (fun h5 h5l H=>?_) (fun h5 H=>?_)
  ·refine gQ 9 ?_;refine bN H fun x7 z6 H=>(q1 (bJ func239 (cD fu (aR p0 i1) _ z6)) (q1 (iL ([x7]:Z aB)) (cB H fun z8 H=>(q1 (lO z8) ?_))))
   exact gE 7
  exact gE 0
 rintro v3 H
 exact gE 5
def aeO(m:(Z aB)→J aB):Prop:= ∀(p0:Z aB) (r:aB),m p0=some r→xF prog 238 [bM p0] ⟨[],[]⟩ [] 189 2 (aB.trs (r.aFv)) (fun k=> .agg [pS r.aFy,eW r.aFv k])
theorem I6{m:(Z aB)→J aB}(h:aeO m)(p0:Z aB)(r:aB)(H:m p0=some r):bU prog 238 [bM p0] ((aB.pv r):PV):=(h p0 r H).plain (fun _=>mG) (hp:=af1)
def nU(fu:Nat)(p0:Z aB):J aB:=gd (([]:Z aB).length+(p0).length≤68719476736) (some (aB.mk s_ (([])++p0)))
theorem o9(fu:Nat):aeO (nU fu):=by
 intro p0 r H
 unfold xF
 refine qJ func238 H (fun C hC H=>?_)
 refine gQ 6 ?_;refine q1 (sM ([]:Z aB)) (q1 bI (cB H fun z1 H=>(q1 (lO z1) ?_)))
 refine gQ 3 ?_;refine dR.ret ?_
 obtain rfl:_=r:=(tO H:)
 exact SX (st':=⟨[],[⟨189,2,aB.trs (([])++p0),false⟩]⟩) ⟨0,rfl,rfl,rfl⟩ (hr:=⟨⟨_,_,_,rfl,rfl,ay6.h,rfl,rfl⟩,trivial⟩)
abbrev sE:=aB→aB→Option Bool
def zL(m:sE):Prop:= ∀(pa:aB) (pb:aB) (r:Bool),m pa pb=some r→bU prog 221 [(aB.pv pa),(aB.pv pb)] (pB r:PV)
def aaF(fu:Nat)(p2:sE)(pa pb:aB):Nat→Unit→J (LR Unit Bool):=fun i3 _=>gd (i3<(pb.aFv).length) (bd (p2 (aR pa.aFv i3) (aR pb.aFv i3)) fun x8=>sw (!(x8)) (some (.ret false)) (some (.next ())))
def FL(fu:Nat)(p2:sE)(pa pb:aB):J Bool:=sw (!decide (pa.aFy=pb.aFy)) (some false) (sw (!decide ((pa.aFv.length:Int)=(pb.aFv.length:Int))) (some false) (so (loopN (aaF fu p2 pa pb) (pa.aFv.length-0) 0 ()) fun _=>some true))
theorem UD(fu:Nat)(p2:sE)(p8:zL p2):zL (FL fu p2):=by
 intro pa pb r H
 refine qJ func221 H (fun C hC H=>?_)
 refine gQ 2 ?_;refine q1 (fQ ([pS pa.aFy,bM pa.aFv])) (q1 (fQ ([pS pb.aFy,bM pb.aFv])) ?_)
 refine gQ 11 ?_;refine dY 11 H (fun g1 H=>gE 14) fun g1 H=>?_;refine gQ 9 ?_;refine bG H (fun h2 H=>gE 4) fun h2 H=>?_;refine gQ 6 ?_;refine gV 13 (aB.tl _) (fun hl4=>?_)
 refine bV (σ:=Unit) (fun i3 _=>⟨[(2,.ptr 0 0),(3,.ptr 1 0),(4,pB false),(5,pN i3)],⟨[some ⟨189,[pS pa.aFy,bM pa.aFv]⟩,some ⟨189,[pS pb.aFy,bM pb.aFv]⟩],[]⟩⟩) (fun _=>⟨[(4,pB false)],⟨[some ⟨189,[pS pa.aFy,bM pa.aFv]⟩,some ⟨189,[pS pb.aFy,bM pb.aFv]⟩],[]⟩⟩) (fA H) ?_ ?_
 ·rintro i3 ⟨⟩ H
  refine gQ 9 ?_;refine cZ H (fun h5 h5l H=>?_) (fun h5 H=>?_)
  ·refine gQ 4 ?_;refine cB H fun z6 H=>(bN H fun x8 z7 H=>(dW (dI [2] bW (dD [27] eG (dI [5] bI (dI [28,29] mU (dI [30] (gZ (aB.cs (aR pa.aFv i3))) (dI [3] bW (dD [32] eG (dI [5] bI (dI [33,34] mU (dI [35] (gZ (aB.cs (aR pb.aFv i3))) (dI [31,36] (bJ func221 (p8 (aR pa.aFv i3) (aR pb.aFv i3) _ z7)) ?_)))))))))))))
   refine dI [37] JP (dN ?_)
   refine bG H (fun h9 H=>gE 4) fun h9 H=>?_;exact gE 6
  exact gE 0
 rintro⟨⟩ H
 exact gE 4
def gI:Nat→aB→aB→J Bool
 |0,_,_=>none
 |fu+1,pa,pb=>FL fu (gI fu) pa pb
theorem W4(fu:Nat):zL (gI fu):=by
 induction fu with
 |zero=>exact(fun pa pb r H=>by simp only [gI] at H;cases H)
 |succ fu ih=>exact(fun pa pb r H=>by simp only [gI] at H;exact UD fu (gI fu) ih pa pb r H)
theorem w7(fu:Nat):zL (gI fu):=(W4 fu)
end
end Go.Proofs.YtfcoaagbccmahaaGreat.W
