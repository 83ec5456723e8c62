/- Words, rules and walks of several kinds, laid together. No conditions but those that each theorem states. -/
import Derived.Test.YtfcoaagbccmahaaGreatQh9a423deb
import Derived.Test.YtfcoaagbccmahaaGreatProg
import Derived.Laws.MakeOwn
import Derived.Laws.BytesArg
set_option linter.unusedSimpArgs false
set_option linter.unusedVariables false
namespace Go.Proofs.YtfcoaagbccmahaaGreat
open Go.RowKit Go.Proofs
class FO (P:Program) (T:TypeId) (f:Nat) (e:outParam Nat):Prop where h:s6 P T f=some e
class FQ (P:Program) (T:TypeId) (f:Nat) (e:outParam (Nat×Bool×Nat)):Prop where h:vS P T f=some e
class SH (P:Program) (T:TypeId) (b:outParam (Bool×Nat)):Prop where h:iX P T=some b
class EL (P:Program) (T:TypeId) (E:outParam (Nat×Nat×Nat)):Prop where h:elemOf? P T=some E
class ZR (P:Program) (T:TypeId) (ps:outParam (List PV)):Prop where h:iK P T=some ps
class UA (P:Program) (T:TypeId) (ps:outParam (List (Nat×Nat))):Prop where h:OV P T=some ps
class SZ (P:Program) (T:TypeId) (n:outParam Nat):Prop where h:(P.info? T).map (·.size)=some n
class ZE (P:Program) (T:TypeId) (n:outParam Nat):Prop where h:(P.info? T).bind (fun i=>i.zero.map (fun z=>z.cells.size))=some n
end Go.Proofs.YtfcoaagbccmahaaGreat

namespace Go.Proofs.YtfcoaagbccmahaaGreat
open Go.RowKit Go.Proofs
instance sh3:SH Tryz.prog 3 (false,1):=⟨by kernel_rfl⟩
instance sz3:SZ Tryz.prog 3 1:=⟨by kernel_rfl⟩
instance zr3:ZR Tryz.prog 3 [.t (.leaf (.int .i64 0))]:=⟨by kernel_rfl⟩
instance sh4:SH Tryz.prog 4 (false,1):=⟨by kernel_rfl⟩
instance sz4:SZ Tryz.prog 4 1:=⟨by kernel_rfl⟩
instance zr4:ZR Tryz.prog 4 [.t (.leaf (.bool false))]:=⟨by kernel_rfl⟩
instance sh5:SH Tryz.prog 5 (false,1):=⟨by kernel_rfl⟩
instance sz5:SZ Tryz.prog 5 1:=⟨by kernel_rfl⟩
instance zr5:ZR Tryz.prog 5 [.t (.leaf (.int .u8 0))]:=⟨by kernel_rfl⟩
instance sh9:SH Tryz.prog 9 (false,1):=⟨by kernel_rfl⟩
instance sz9:SZ Tryz.prog 9 1:=⟨by kernel_rfl⟩
instance zr9:ZR Tryz.prog 9 [.t (.leaf (.string ⟨#[]⟩))]:=⟨by kernel_rfl⟩
instance aAC:SH Tryz.prog 22 (false,1):=⟨by kernel_rfl⟩
instance aA1:SZ Tryz.prog 22 1:=⟨by kernel_rfl⟩
instance asL:EL Tryz.prog 22 (5,1,1):=⟨by kernel_rfl⟩
instance aBu:ZE Tryz.prog 5 1:=⟨by kernel_rfl⟩
instance aBA:ZR Tryz.prog 22 [.nil]:=⟨by kernel_rfl⟩
instance aAD:SH Tryz.prog 24 (false,1):=⟨by kernel_rfl⟩
instance aA2:SZ Tryz.prog 24 1:=⟨by kernel_rfl⟩
instance aeW:EL Tryz.prog 24 (141,6,136):=⟨by kernel_rfl⟩
instance aBv:ZE Tryz.prog 141 6:=⟨by kernel_rfl⟩
instance aBB:ZR Tryz.prog 24 [.nil]:=⟨by kernel_rfl⟩
instance ai5:SH Tryz.prog 26 (true,1):=⟨by kernel_rfl⟩
instance aA3:SZ Tryz.prog 26 1:=⟨by kernel_rfl⟩
instance aBC:ZR Tryz.prog 26 [.nil]:=⟨by kernel_rfl⟩
instance az3:UA Tryz.prog 26 [(0,1)]:=⟨by kernel_rfl⟩
instance aAE:SH Tryz.prog 27 (false,1):=⟨by kernel_rfl⟩
instance aA4:SZ Tryz.prog 27 1:=⟨by kernel_rfl⟩
instance aq7:EL Tryz.prog 27 (32,4,64):=⟨by kernel_rfl⟩
instance awC:ZE Tryz.prog 32 4:=⟨by kernel_rfl⟩
instance aBD:ZR Tryz.prog 27 [.nil]:=⟨by kernel_rfl⟩
instance aAF:SH Tryz.prog 28 (false,1):=⟨by kernel_rfl⟩
instance aA5:SZ Tryz.prog 28 1:=⟨by kernel_rfl⟩
instance anO:EL Tryz.prog 28 (30,3,48):=⟨by kernel_rfl⟩
instance atF:ZE Tryz.prog 30 3:=⟨by kernel_rfl⟩
instance aBE:ZR Tryz.prog 28 [.nil]:=⟨by kernel_rfl⟩
instance CC:SH Tryz.prog 30 (true,3):=⟨by kernel_rfl⟩
instance as9:SZ Tryz.prog 30 3:=⟨by kernel_rfl⟩
instance aBF:ZR Tryz.prog 30 [.t (.leaf (.int .i64 0)),.t (.leaf (.string ⟨#[]⟩)),.nil]:=⟨by kernel_rfl⟩
instance az4:UA Tryz.prog 30 [(0,1),(1,1),(2,1)]:=⟨by kernel_rfl⟩
instance aAG:SH Tryz.prog 32 (true,4):=⟨by kernel_rfl⟩
instance aA6:SZ Tryz.prog 32 4:=⟨by kernel_rfl⟩
instance awE:ZR Tryz.prog 32 [.t (.leaf (.string ⟨#[]⟩)),.t (.leaf (.int .i64 0)),.t (.leaf (.string ⟨#[]⟩)),.nil]:=⟨by kernel_rfl⟩
instance az5:UA Tryz.prog 32 [(0,1),(1,3)]:=⟨by kernel_rfl⟩
instance aAH:SH Tryz.prog 36 (false,1):=⟨by kernel_rfl⟩
instance aA7:SZ Tryz.prog 36 1:=⟨by kernel_rfl⟩
instance aiD:EL Tryz.prog 36 (9,1,16):=⟨by kernel_rfl⟩
instance ap9:ZE Tryz.prog 9 1:=⟨by kernel_rfl⟩
instance aBG:ZR Tryz.prog 36 [.nil]:=⟨by kernel_rfl⟩
instance aAI:SH Tryz.prog 37 (false,1):=⟨by kernel_rfl⟩
instance aA8:SZ Tryz.prog 37 1:=⟨by kernel_rfl⟩
instance apC:EL Tryz.prog 37 (46,2,40):=⟨by kernel_rfl⟩
instance aBw:ZE Tryz.prog 46 2:=⟨by kernel_rfl⟩
instance aBH:ZR Tryz.prog 37 [.nil]:=⟨by kernel_rfl⟩
instance aAJ:SH Tryz.prog 39 (true,3):=⟨by kernel_rfl⟩
instance aA9:SZ Tryz.prog 39 3:=⟨by kernel_rfl⟩
instance aBI:ZR Tryz.prog 39 [.t (.leaf (.string ⟨#[]⟩)),.nil,.nil]:=⟨by kernel_rfl⟩
instance az6:UA Tryz.prog 39 [(0,1),(1,1),(2,1)]:=⟨by kernel_rfl⟩
instance aAK:SH Tryz.prog 42 (false,1):=⟨by kernel_rfl⟩
instance aBa:SZ Tryz.prog 42 1:=⟨by kernel_rfl⟩
instance azT:EL Tryz.prog 42 (44,4,64):=⟨by kernel_rfl⟩
instance aBx:ZE Tryz.prog 44 4:=⟨by kernel_rfl⟩
instance aBJ:ZR Tryz.prog 42 [.nil]:=⟨by kernel_rfl⟩
instance aAL:SH Tryz.prog 44 (true,4):=⟨by kernel_rfl⟩
instance aBb:SZ Tryz.prog 44 4:=⟨by kernel_rfl⟩
instance aBK:ZR Tryz.prog 44 [.t (.leaf (.string ⟨#[]⟩)),.t (.leaf (.int .i64 0)),.t (.leaf (.string ⟨#[]⟩)),.nil]:=⟨by kernel_rfl⟩
instance az7:UA Tryz.prog 44 [(0,1),(1,3)]:=⟨by kernel_rfl⟩
instance aAM:SH Tryz.prog 46 (true,2):=⟨by kernel_rfl⟩
instance aBc:SZ Tryz.prog 46 2:=⟨by kernel_rfl⟩
instance awF:ZR Tryz.prog 46 [.t (.leaf (.string ⟨#[]⟩)),.nil]:=⟨by kernel_rfl⟩
instance az8:UA Tryz.prog 46 [(0,1),(1,1)]:=⟨by kernel_rfl⟩
instance aAN:SH Tryz.prog 48 (false,1):=⟨by kernel_rfl⟩
instance aBd:SZ Tryz.prog 48 1:=⟨by kernel_rfl⟩
instance aq8:EL Tryz.prog 48 (99,6,96):=⟨by kernel_rfl⟩
instance aBy:ZE Tryz.prog 99 6:=⟨by kernel_rfl⟩
instance aBL:ZR Tryz.prog 48 [.nil]:=⟨by kernel_rfl⟩
instance aAO:SH Tryz.prog 52 (true,2):=⟨by kernel_rfl⟩
instance aBe:SZ Tryz.prog 52 2:=⟨by kernel_rfl⟩
instance aBM:ZR Tryz.prog 52 [.t (.leaf (.int .i64 0)),.t (.leaf (.int .i64 0))]:=⟨by kernel_rfl⟩
instance az9:UA Tryz.prog 52 [(0,1),(1,1)]:=⟨by kernel_rfl⟩
instance aAP:SH Tryz.prog 53 (false,1):=⟨by kernel_rfl⟩
instance aBf:SZ Tryz.prog 53 1:=⟨by kernel_rfl⟩
instance asM:EL Tryz.prog 53 (55,5,56):=⟨by kernel_rfl⟩
instance awD:ZE Tryz.prog 55 5:=⟨by kernel_rfl⟩
instance aBN:ZR Tryz.prog 53 [.nil]:=⟨by kernel_rfl⟩
instance aAQ:SH Tryz.prog 55 (true,5):=⟨by kernel_rfl⟩
instance awB:SZ Tryz.prog 55 5:=⟨by kernel_rfl⟩
instance atH:ZR Tryz.prog 55 [.t (.leaf (.int .i64 0)),.t (.leaf (.int .i64 0)),.t (.leaf (.int .i64 0)),.t (.leaf (.int .i64 0)),.nil]:=⟨by kernel_rfl⟩
instance aAa:UA Tryz.prog 55 [(0,1),(1,1),(2,2),(4,1)]:=⟨by kernel_rfl⟩
instance aAR:SH Tryz.prog 58 (false,1):=⟨by kernel_rfl⟩
instance aBg:SZ Tryz.prog 58 1:=⟨by kernel_rfl⟩
instance aAS:SH Tryz.prog 60 (false,1):=⟨by kernel_rfl⟩
instance aBh:SZ Tryz.prog 60 1:=⟨by kernel_rfl⟩
instance aAT:SH Tryz.prog 64 (false,1):=⟨by kernel_rfl⟩
instance aBi:SZ Tryz.prog 64 1:=⟨by kernel_rfl⟩
instance azU:EL Tryz.prog 64 (3,1,8):=⟨by kernel_rfl⟩
instance aBz:ZE Tryz.prog 3 1:=⟨by kernel_rfl⟩
instance aBO:ZR Tryz.prog 64 [.nil]:=⟨by kernel_rfl⟩
instance aAU:SH Tryz.prog 68 (true,3):=⟨by kernel_rfl⟩
instance aBj:SZ Tryz.prog 68 3:=⟨by kernel_rfl⟩
instance aBP:ZR Tryz.prog 68 [.nil,.nil,.nil]:=⟨by kernel_rfl⟩
instance aAb:UA Tryz.prog 68 [(0,1),(1,1),(2,1)]:=⟨by kernel_rfl⟩
instance aAV:SH Tryz.prog 75 (false,1):=⟨by kernel_rfl⟩
instance aBk:SZ Tryz.prog 75 1:=⟨by kernel_rfl⟩
instance aAW:SH Tryz.prog 80 (false,1):=⟨by kernel_rfl⟩
instance aBl:SZ Tryz.prog 80 1:=⟨by kernel_rfl⟩
instance aAX:SH Tryz.prog 84 (false,1):=⟨by kernel_rfl⟩
instance aBm:SZ Tryz.prog 84 1:=⟨by kernel_rfl⟩
instance aAZ:SH Tryz.prog 92 (false,1):=⟨by kernel_rfl⟩
instance aBn:SZ Tryz.prog 92 1:=⟨by kernel_rfl⟩
instance aA0:SH Tryz.prog 99 (true,6):=⟨by kernel_rfl⟩
instance aBo:SZ Tryz.prog 99 6:=⟨by kernel_rfl⟩
instance aBQ:ZR Tryz.prog 99 [.t (.leaf (.string ⟨#[]⟩)),.t (.leaf (.int .i64 0)),.t (.leaf (.string ⟨#[]⟩)),.nil,.t (.leaf (.int .i64 0)),.nil]:=⟨by kernel_rfl⟩
instance aAc:UA Tryz.prog 99 [(0,4),(4,1),(5,1)]:=⟨by kernel_rfl⟩
instance aw8:SH Tryz.prog 124 (false,1):=⟨by kernel_rfl⟩
instance ax4:SZ Tryz.prog 124 1:=⟨by kernel_rfl⟩
instance aw9:SH Tryz.prog 131 (false,1):=⟨by kernel_rfl⟩
instance ax5:SZ Tryz.prog 131 1:=⟨by kernel_rfl⟩
instance axA:SH Tryz.prog 133 (true,3):=⟨by kernel_rfl⟩
instance ax6:SZ Tryz.prog 133 3:=⟨by kernel_rfl⟩
instance ay7:ZR Tryz.prog 133 [.nil,.t (.leaf (.int .i64 0)),.t (.leaf (.int .i64 0))]:=⟨by kernel_rfl⟩
instance awT:UA Tryz.prog 133 [(0,1),(1,1),(2,1)]:=⟨by kernel_rfl⟩
instance axB:SH Tryz.prog 136 (false,1):=⟨by kernel_rfl⟩
instance ax7:SZ Tryz.prog 136 1:=⟨by kernel_rfl⟩
instance aqG:EL Tryz.prog 136 (156,5,72):=⟨by kernel_rfl⟩
instance ayY:ZE Tryz.prog 156 5:=⟨by kernel_rfl⟩
instance ay8:ZR Tryz.prog 136 [.nil]:=⟨by kernel_rfl⟩
instance axC:SH Tryz.prog 137 (false,1):=⟨by kernel_rfl⟩
instance ax8:SZ Tryz.prog 137 1:=⟨by kernel_rfl⟩
instance aqH:EL Tryz.prog 137 (39,3,64):=⟨by kernel_rfl⟩
instance ayZ:ZE Tryz.prog 39 3:=⟨by kernel_rfl⟩
instance ay9:ZR Tryz.prog 137 [.nil]:=⟨by kernel_rfl⟩
instance axD:SH Tryz.prog 138 (false,1):=⟨by kernel_rfl⟩
instance ax9:SZ Tryz.prog 138 1:=⟨by kernel_rfl⟩
instance Z4:EL Tryz.prog 138 (163,12,192):=⟨by kernel_rfl⟩
instance ay0:ZE Tryz.prog 163 12:=⟨by kernel_rfl⟩
instance azA:ZR Tryz.prog 138 [.nil]:=⟨by kernel_rfl⟩
instance axE:SH Tryz.prog 139 (false,1):=⟨by kernel_rfl⟩
instance ayA:SZ Tryz.prog 139 1:=⟨by kernel_rfl⟩
instance awL:EL Tryz.prog 139 (213,16,280):=⟨by kernel_rfl⟩
instance ay1:ZE Tryz.prog 213 16:=⟨by kernel_rfl⟩
instance azB:ZR Tryz.prog 139 [.nil]:=⟨by kernel_rfl⟩
instance axF:SH Tryz.prog 141 (true,6):=⟨by kernel_rfl⟩
instance ayB:SZ Tryz.prog 141 6:=⟨by kernel_rfl⟩
instance azC:ZR Tryz.prog 141 [.t (.leaf (.string ⟨#[]⟩)),.nil,.nil,.nil,.nil,.nil]:=⟨by kernel_rfl⟩
instance awU:UA Tryz.prog 141 [(0,1),(1,1),(2,1),(3,1),(4,1),(5,1)]:=⟨by kernel_rfl⟩
instance axG:SH Tryz.prog 145 (true,2):=⟨by kernel_rfl⟩
instance ayC:SZ Tryz.prog 145 2:=⟨by kernel_rfl⟩
instance azD:ZR Tryz.prog 145 [.nil,.nil]:=⟨by kernel_rfl⟩
instance awV:UA Tryz.prog 145 [(0,1),(1,1)]:=⟨by kernel_rfl⟩
instance axH:SH Tryz.prog 154 (false,1):=⟨by kernel_rfl⟩
instance ayD:SZ Tryz.prog 154 1:=⟨by kernel_rfl⟩
instance U8:EL Tryz.prog 154 (237,16,264):=⟨by kernel_rfl⟩
instance atC:ZE Tryz.prog 237 16:=⟨by kernel_rfl⟩
instance azE:ZR Tryz.prog 154 [.nil]:=⟨by kernel_rfl⟩
instance axI:SH Tryz.prog 156 (true,5):=⟨by kernel_rfl⟩
instance ayE:SZ Tryz.prog 156 5:=⟨by kernel_rfl⟩
instance azF:ZR Tryz.prog 156 [.t (.leaf (.string ⟨#[]⟩)),.nil,.t (.leaf (.bool false)),.t (.leaf (.bool false)),.nil]:=⟨by kernel_rfl⟩
instance awW:UA Tryz.prog 156 [(0,1),(1,1),(2,1),(3,1),(4,1)]:=⟨by kernel_rfl⟩
instance axJ:SH Tryz.prog 161 (false,1):=⟨by kernel_rfl⟩
instance ayF:SZ Tryz.prog 161 1:=⟨by kernel_rfl⟩
instance anN:EL Tryz.prog 161 (242,11,184):=⟨by kernel_rfl⟩
instance ay2:ZE Tryz.prog 242 11:=⟨by kernel_rfl⟩
instance azG:ZR Tryz.prog 161 [.nil]:=⟨by kernel_rfl⟩
instance axK:SH Tryz.prog 163 (true,12):=⟨by kernel_rfl⟩
instance ayG:SZ Tryz.prog 163 12:=⟨by kernel_rfl⟩
instance azH:ZR Tryz.prog 163 [.t (.leaf (.string ⟨#[]⟩)),.nil,.t (.leaf (.int .i64 0)),.t (.leaf (.string ⟨#[]⟩)),.nil,.nil,.t (.leaf (.bool false)),.t (.leaf (.bool false)),.t (.leaf (.int .i64 0)),.t (.leaf (.string ⟨#[]⟩)),.nil,.nil]:=⟨by kernel_rfl⟩
instance awX:UA Tryz.prog 163 [(0,1),(1,1),(2,3),(5,1),(6,1),(7,1),(8,3),(11,1)]:=⟨by kernel_rfl⟩
instance axL:SH Tryz.prog 187 (false,1):=⟨by kernel_rfl⟩
instance ayH:SZ Tryz.prog 187 1:=⟨by kernel_rfl⟩
instance CJ:EL Tryz.prog 187 (189,2,40):=⟨by kernel_rfl⟩
instance ay3:ZE Tryz.prog 189 2:=⟨by kernel_rfl⟩
instance azI:ZR Tryz.prog 187 [.nil]:=⟨by kernel_rfl⟩
instance as8:SH Tryz.prog 189 (true,2):=⟨by kernel_rfl⟩
instance ayI:SZ Tryz.prog 189 2:=⟨by kernel_rfl⟩
instance abA:ZR Tryz.prog 189 [.t (.leaf (.string ⟨#[]⟩)),.nil]:=⟨by kernel_rfl⟩
instance awY:UA Tryz.prog 189 [(0,1),(1,1)]:=⟨by kernel_rfl⟩
instance axM:SH Tryz.prog 194 (false,1):=⟨by kernel_rfl⟩
instance ayJ:SZ Tryz.prog 194 1:=⟨by kernel_rfl⟩
instance axN:SH Tryz.prog 198 (false,1):=⟨by kernel_rfl⟩
instance ayK:SZ Tryz.prog 198 1:=⟨by kernel_rfl⟩
instance awM:EL Tryz.prog 198 (52,2,16):=⟨by kernel_rfl⟩
instance ay4:ZE Tryz.prog 52 2:=⟨by kernel_rfl⟩
instance azJ:ZR Tryz.prog 198 [.nil]:=⟨by kernel_rfl⟩
instance axO:SH Tryz.prog 201 (false,1):=⟨by kernel_rfl⟩
instance ayL:SZ Tryz.prog 201 1:=⟨by kernel_rfl⟩
instance axP:SH Tryz.prog 207 (false,1):=⟨by kernel_rfl⟩
instance ayM:SZ Tryz.prog 207 1:=⟨by kernel_rfl⟩
instance asK:EL Tryz.prog 207 (245,4,64):=⟨by kernel_rfl⟩
instance atE:ZE Tryz.prog 245 4:=⟨by kernel_rfl⟩
instance azK:ZR Tryz.prog 207 [.nil]:=⟨by kernel_rfl⟩
instance axQ:SH Tryz.prog 208 (false,1):=⟨by kernel_rfl⟩
instance ayN:SZ Tryz.prog 208 1:=⟨by kernel_rfl⟩
instance awN:EL Tryz.prog 208 (211,9,144):=⟨by kernel_rfl⟩
instance ay5:ZE Tryz.prog 211 9:=⟨by kernel_rfl⟩
instance azL:ZR Tryz.prog 208 [.nil]:=⟨by kernel_rfl⟩
instance axR:SH Tryz.prog 209 (false,1):=⟨by kernel_rfl⟩
instance ayO:SZ Tryz.prog 209 1:=⟨by kernel_rfl⟩
instance awO:EL Tryz.prog 209 (262,11,184):=⟨by kernel_rfl⟩
instance ay6:ZE Tryz.prog 262 11:=⟨by kernel_rfl⟩
instance azM:ZR Tryz.prog 209 [.nil]:=⟨by kernel_rfl⟩
instance axS:SH Tryz.prog 211 (true,9):=⟨by kernel_rfl⟩
instance ayP:SZ Tryz.prog 211 9:=⟨by kernel_rfl⟩
instance azN:ZR Tryz.prog 211 [.t (.leaf (.int .i64 0)),.t (.leaf (.string ⟨#[]⟩)),.t (.leaf (.string ⟨#[]⟩)),.t (.leaf (.int .i64 0)),.t (.leaf (.int .i64 0)),.t (.leaf (.string ⟨#[]⟩)),.nil,.nil,.nil]:=⟨by kernel_rfl⟩
instance awZ:UA Tryz.prog 211 [(0,1),(1,1),(2,1),(3,1),(4,3),(7,1),(8,1)]:=⟨by kernel_rfl⟩
instance axT:SH Tryz.prog 213 (true,16):=⟨by kernel_rfl⟩
instance ayQ:SZ Tryz.prog 213 16:=⟨by kernel_rfl⟩
instance azO:ZR Tryz.prog 213 [.t (.leaf (.string ⟨#[]⟩)),.nil,.nil,.nil,.t (.leaf (.int .i64 0)),.t (.leaf (.string ⟨#[]⟩)),.nil,.t (.leaf (.int .i64 0)),.t (.leaf (.string ⟨#[]⟩)),.t (.leaf (.string ⟨#[]⟩)),.t (.leaf (.int .i64 0)),.t (.leaf (.int .i64 0)),.t (.leaf (.string ⟨#[]⟩)),.nil,.nil,.nil]:=⟨by kernel_rfl⟩
instance aw0:UA Tryz.prog 213 [(0,1),(1,1),(2,1),(3,1),(4,3),(7,9)]:=⟨by kernel_rfl⟩
instance axU:SH Tryz.prog 218 (false,1):=⟨by kernel_rfl⟩
instance ayR:SZ Tryz.prog 218 1:=⟨by kernel_rfl⟩
instance axV:SH Tryz.prog 220 (true,5):=⟨by kernel_rfl⟩
instance ayS:SZ Tryz.prog 220 5:=⟨by kernel_rfl⟩
instance azP:ZR Tryz.prog 220 [.t (.leaf (.string ⟨#[]⟩)),.t (.leaf (.int .i64 0)),.t (.leaf (.int .i64 0)),.t (.leaf (.int .i64 0)),.t (.leaf (.bool false))]:=⟨by kernel_rfl⟩
instance aw1:UA Tryz.prog 220 [(0,1),(1,1),(2,1),(3,1),(4,1)]:=⟨by kernel_rfl⟩
instance axW:SH Tryz.prog 228 (false,1):=⟨by kernel_rfl⟩
instance ayT:SZ Tryz.prog 228 1:=⟨by kernel_rfl⟩
instance axX:SH Tryz.prog 237 (true,16):=⟨by kernel_rfl⟩
instance ayU:SZ Tryz.prog 237 16:=⟨by kernel_rfl⟩
instance aqU:ZR Tryz.prog 237 [.t (.leaf (.string ⟨#[]⟩)),.nil,.t (.leaf (.int .i64 0)),.t (.leaf (.string ⟨#[]⟩)),.nil,.t (.leaf (.bool false)),.nil,.t (.leaf (.int .i64 0)),.t (.leaf (.string ⟨#[]⟩)),.t (.leaf (.string ⟨#[]⟩)),.t (.leaf (.int .i64 0)),.t (.leaf (.int .i64 0)),.t (.leaf (.string ⟨#[]⟩)),.nil,.nil,.nil]:=⟨by kernel_rfl⟩
instance aw2:UA Tryz.prog 237 [(0,1),(1,1),(2,3),(5,1),(6,1),(7,9)]:=⟨by kernel_rfl⟩
instance axY:SH Tryz.prog 242 (true,11):=⟨by kernel_rfl⟩
instance ayV:SZ Tryz.prog 242 11:=⟨by kernel_rfl⟩
instance atG:ZR Tryz.prog 242 [.t (.leaf (.string ⟨#[]⟩)),.nil,.t (.leaf (.int .i64 0)),.t (.leaf (.string ⟨#[]⟩)),.t (.leaf (.string ⟨#[]⟩)),.t (.leaf (.int .i64 0)),.t (.leaf (.int .i64 0)),.t (.leaf (.string ⟨#[]⟩)),.nil,.nil,.nil]:=⟨by kernel_rfl⟩
instance aw3:UA Tryz.prog 242 [(0,1),(1,1),(2,9)]:=⟨by kernel_rfl⟩
instance axZ:SH Tryz.prog 245 (true,4):=⟨by kernel_rfl⟩
instance ayW:SZ Tryz.prog 245 4:=⟨by kernel_rfl⟩
instance azQ:ZR Tryz.prog 245 [.t (.leaf (.string ⟨#[]⟩)),.t (.leaf (.int .i64 0)),.t (.leaf (.string ⟨#[]⟩)),.nil]:=⟨by kernel_rfl⟩
instance aw4:UA Tryz.prog 245 [(0,1),(1,3)]:=⟨by kernel_rfl⟩
instance ax0:SH Tryz.prog 262 (true,11):=⟨by kernel_rfl⟩
instance ayX:SZ Tryz.prog 262 11:=⟨by kernel_rfl⟩
instance azR:ZR Tryz.prog 262 [.t (.leaf (.string ⟨#[]⟩)),.nil,.t (.leaf (.int .i64 0)),.t (.leaf (.string ⟨#[]⟩)),.t (.leaf (.string ⟨#[]⟩)),.t (.leaf (.int .i64 0)),.t (.leaf (.int .i64 0)),.t (.leaf (.string ⟨#[]⟩)),.nil,.nil,.nil]:=⟨by kernel_rfl⟩
instance aw5:UA Tryz.prog 262 [(0,1),(1,1),(2,9)]:=⟨by kernel_rfl⟩
instance avD:FO Tryz.prog 26 0 0:=⟨by kernel_rfl⟩
instance avE:FO Tryz.prog 30 0 0:=⟨by kernel_rfl⟩
instance avF:FO Tryz.prog 30 1 1:=⟨by kernel_rfl⟩
instance avG:FO Tryz.prog 30 2 2:=⟨by kernel_rfl⟩
instance avH:FO Tryz.prog 32 0 0:=⟨by kernel_rfl⟩
instance avI:FO Tryz.prog 32 1 1:=⟨by kernel_rfl⟩
instance avJ:FO Tryz.prog 39 0 0:=⟨by kernel_rfl⟩
instance avK:FO Tryz.prog 39 1 1:=⟨by kernel_rfl⟩
instance avL:FO Tryz.prog 39 2 2:=⟨by kernel_rfl⟩
instance avM:FO Tryz.prog 44 0 0:=⟨by kernel_rfl⟩
instance avN:FO Tryz.prog 44 1 1:=⟨by kernel_rfl⟩
instance avO:FO Tryz.prog 46 0 0:=⟨by kernel_rfl⟩
instance avP:FO Tryz.prog 46 1 1:=⟨by kernel_rfl⟩
instance avQ:FO Tryz.prog 52 0 0:=⟨by kernel_rfl⟩
instance avR:FO Tryz.prog 52 1 1:=⟨by kernel_rfl⟩
instance avS:FO Tryz.prog 55 0 0:=⟨by kernel_rfl⟩
instance avT:FO Tryz.prog 55 1 1:=⟨by kernel_rfl⟩
instance avU:FO Tryz.prog 55 2 2:=⟨by kernel_rfl⟩
instance avV:FO Tryz.prog 55 3 4:=⟨by kernel_rfl⟩
instance avW:FO Tryz.prog 68 0 0:=⟨by kernel_rfl⟩
instance avX:FO Tryz.prog 68 1 1:=⟨by kernel_rfl⟩
instance avY:FO Tryz.prog 68 2 2:=⟨by kernel_rfl⟩
instance avZ:FO Tryz.prog 99 0 0:=⟨by kernel_rfl⟩
instance av1:FO Tryz.prog 99 1 4:=⟨by kernel_rfl⟩
instance av2:FO Tryz.prog 99 2 5:=⟨by kernel_rfl⟩
instance atJ:FO Tryz.prog 133 0 0:=⟨by kernel_rfl⟩
instance atK:FO Tryz.prog 133 1 1:=⟨by kernel_rfl⟩
instance atL:FO Tryz.prog 133 2 2:=⟨by kernel_rfl⟩
instance atM:FO Tryz.prog 141 0 0:=⟨by kernel_rfl⟩
instance atN:FO Tryz.prog 141 1 1:=⟨by kernel_rfl⟩
instance atO:FO Tryz.prog 141 2 2:=⟨by kernel_rfl⟩
instance atP:FO Tryz.prog 141 3 3:=⟨by kernel_rfl⟩
instance atQ:FO Tryz.prog 141 4 4:=⟨by kernel_rfl⟩
instance atR:FO Tryz.prog 141 5 5:=⟨by kernel_rfl⟩
instance atS:FO Tryz.prog 145 0 0:=⟨by kernel_rfl⟩
instance atT:FO Tryz.prog 145 1 1:=⟨by kernel_rfl⟩
instance atU:FO Tryz.prog 156 0 0:=⟨by kernel_rfl⟩
instance atV:FO Tryz.prog 156 1 1:=⟨by kernel_rfl⟩
instance atW:FO Tryz.prog 156 2 2:=⟨by kernel_rfl⟩
instance atX:FO Tryz.prog 156 3 3:=⟨by kernel_rfl⟩
instance atY:FO Tryz.prog 156 4 4:=⟨by kernel_rfl⟩
instance atZ:FO Tryz.prog 163 0 0:=⟨by kernel_rfl⟩
instance at0:FO Tryz.prog 163 1 1:=⟨by kernel_rfl⟩
instance at1:FO Tryz.prog 163 2 2:=⟨by kernel_rfl⟩
instance at3:FO Tryz.prog 163 3 5:=⟨by kernel_rfl⟩
instance at4:FO Tryz.prog 163 4 6:=⟨by kernel_rfl⟩
instance at5:FO Tryz.prog 163 5 7:=⟨by kernel_rfl⟩
instance at6:FO Tryz.prog 163 6 8:=⟨by kernel_rfl⟩
instance at7:FO Tryz.prog 163 7 11:=⟨by kernel_rfl⟩
instance at8:FO Tryz.prog 189 0 0:=⟨by kernel_rfl⟩
instance at9:FO Tryz.prog 189 1 1:=⟨by kernel_rfl⟩
instance auA:FO Tryz.prog 211 0 0:=⟨by kernel_rfl⟩
instance auB:FO Tryz.prog 211 1 1:=⟨by kernel_rfl⟩
instance auC:FO Tryz.prog 211 2 2:=⟨by kernel_rfl⟩
instance auD:FO Tryz.prog 211 3 3:=⟨by kernel_rfl⟩
instance auE:FO Tryz.prog 211 4 4:=⟨by kernel_rfl⟩
instance auF:FO Tryz.prog 211 5 7:=⟨by kernel_rfl⟩
instance auG:FO Tryz.prog 211 6 8:=⟨by kernel_rfl⟩
instance auH:FO Tryz.prog 213 0 0:=⟨by kernel_rfl⟩
instance auI:FO Tryz.prog 213 1 1:=⟨by kernel_rfl⟩
instance auJ:FO Tryz.prog 213 2 2:=⟨by kernel_rfl⟩
instance auK:FO Tryz.prog 213 3 3:=⟨by kernel_rfl⟩
instance auL:FO Tryz.prog 213 4 4:=⟨by kernel_rfl⟩
instance auM:FO Tryz.prog 213 5 7:=⟨by kernel_rfl⟩
instance auN:FO Tryz.prog 220 0 0:=⟨by kernel_rfl⟩
instance auO:FO Tryz.prog 220 1 1:=⟨by kernel_rfl⟩
instance auP:FO Tryz.prog 220 2 2:=⟨by kernel_rfl⟩
instance auQ:FO Tryz.prog 220 3 3:=⟨by kernel_rfl⟩
instance auR:FO Tryz.prog 220 4 4:=⟨by kernel_rfl⟩
instance auS:FO Tryz.prog 237 0 0:=⟨by kernel_rfl⟩
instance auT:FO Tryz.prog 237 1 1:=⟨by kernel_rfl⟩
instance auU:FO Tryz.prog 237 2 2:=⟨by kernel_rfl⟩
instance auV:FO Tryz.prog 237 3 5:=⟨by kernel_rfl⟩
instance auW:FO Tryz.prog 237 4 6:=⟨by kernel_rfl⟩
instance auX:FO Tryz.prog 237 5 7:=⟨by kernel_rfl⟩
instance auY:FO Tryz.prog 242 0 0:=⟨by kernel_rfl⟩
instance auZ:FO Tryz.prog 242 1 1:=⟨by kernel_rfl⟩
instance au0:FO Tryz.prog 242 2 2:=⟨by kernel_rfl⟩
instance au1:FO Tryz.prog 245 0 0:=⟨by kernel_rfl⟩
instance au2:FO Tryz.prog 245 1 1:=⟨by kernel_rfl⟩
instance au3:FO Tryz.prog 262 0 0:=⟨by kernel_rfl⟩
instance au4:FO Tryz.prog 262 1 1:=⟨by kernel_rfl⟩
instance au5:FO Tryz.prog 262 2 2:=⟨by kernel_rfl⟩
instance au6:FQ Tryz.prog 189 0 (0,false,1):=⟨by kernel_rfl⟩
instance au7:FQ Tryz.prog 189 1 (1,false,1):=⟨by kernel_rfl⟩
theorem asV:Tryz.prog.follows .mixedOrders=true:=by kernel_rfl
end Go.Proofs.YtfcoaagbccmahaaGreat

namespace Go.Proofs.YtfcoaagbccmahaaGreat
open Go.RowKit Go.WalkArith Go.IntWalk Go.WideShapes
theorem gI.set{ok:Nat→Nat→Prop}{st:c5}{m:jT}{w:World}{q:PV}: ∀ {ps:List PV} {vs:List Value} {j:Nat},gI ok st m w ps vs→(∀v,vs[j]?=some v→RV ok st m w q v)→gI ok st m w (ps.set j q) vs
 | [],[],j,_,_=>by simp [gI]
 |p::ps,v::vs,0,h,k=>⟨k v rfl,h.2⟩
 |p::ps,v::vs,j+1,h,k=>⟨h.1,gI.set h.2 fun u hu=>k u (by simpa using hu)⟩
 | [],_::_,_,h,_=>h.elim
 |_::_,[],_,h,_=>h.elim
section
variable {P:Program} {C:oP} {n:Nat} {s:AS}
theorem Wk.regBox{k j:Nat}{bx:c7}(E sz:Nat)(hsz:0<sz)(hb:s.st.boxes[k]?=some (some bx))(hj:bx.cells[j]?=some .nil):
 Wk C n s ⟨s.env,(s.st.addRow ⟨E,sz,[],false⟩).setBox k ⟨bx.ty,bx.cells.set j (.acc sz [] s.st.rows.length)⟩⟩:=fun m a w h=>by
 have hE:=JG (row:=⟨E,sz,[],false⟩) h.sto
 have hS:=NF (row:=⟨E,sz,[],false⟩) h.sto hsz rfl
 have h1:=h.step hE hS
 have hb1:(s.st.addRow ⟨E,sz,[],false⟩).boxes[k]?=some (some bx):=hb
 obtain⟨vs,hob,hcs⟩:=hS.box k bx hb1
 have hc:gI (kP C.av (s.st.addRow ⟨E,sz,[],false⟩) ⟨m.ρ,CA m.γ s.st.rows.length none⟩) (s.st.addRow ⟨E,sz,[],false⟩) ⟨m.ρ,CA m.γ s.st.rows.length none⟩ w (bx.cells.set j (.acc sz [] s.st.rows.length)) vs:=by
  refine gI.set hcs fun v hv=>?_
  obtain⟨u,hu,hr⟩:=hcs.get hj
  rw [hv] at hu
  cases hu
  obtain rfl:=(show v=_ from hr)
  exact⟨⟨E,sz,[],false⟩,by show(s.st.rows++ [_])[s.st.rows.length]?=_;simp,rfl,Nat.le_refl _,cF.nilRow _ _ _ _ (by unfold maxLen;omega),fun _=>by simp [b9,V9]⟩
 exact⟨_,h1.step (QA hS hb1 rfl rfl rfl rfl fun _ _=>rfl) (XV hS hb1 rfl rfl rfl rfl (fun _ _=>rfl) hob hc)⟩
end
end Go.Proofs.YtfcoaagbccmahaaGreat

namespace Go.Proofs.YtfcoaagbccmahaaGreat
open Go.RowKit Go.WalkArith Go.IntWalk Go.WideShapes
section
variable {P:Program} {C:oP} {n:Nat} {s:AS} {o:Oper}
theorem apX{T:TypeId}(hT:P.underlying T=some .bool)(a b:Bool)(w:World):(Op.equalIn Op.maxDepth T (.bool a) (.bool b)).run P w= .ok (a==b) w:=by
 unfold Op.maxDepth Op.equalIn
 simp [run_underlying hT]
theorem bB.neqB{T yT:TypeId}{x y:Operand}{a b:Bool}(ho:o.op= .binOp .neq T x y yT)(hd:bI o.dst n=true)(hx:s.ev x=some (.t (.leaf (.bool a))))(hy:s.ev y=some (.t (.leaf (.bool b))))(hT:P.underlying T=some .bool):
 bB P C n o s (s.putO o.dst (.t (.leaf (.bool (!decide (a=b)))))):=bB.bin ho hd hx hy (fun w=>by
  simp [eqGuard,binOp,Op.equal,apX hT]
  cases a<;>cases b<;>rfl) trivial
end
end Go.Proofs.YtfcoaagbccmahaaGreat

namespace Go.Proofs.YtfcoaagbccmahaaGreat
open Go.RowKit Go.WalkArith Go.IntWalk Go.WideShapes
inductive LR (σ β:Type) where
 |next (s:σ)
 |brk (s:σ)
 |ret (x:β)
def sw{α:Type}(b:Bool)(x y:α):α:=match b with
 |true=>x
 |false=>y
theorem jI{α:Type}{b:Bool}{x y z:α}(h:b=true)(k:x=z):sw b x y=z:=by rw [h];exact k
theorem gW{α:Type}{b:Bool}{x y z:α}(h:b=false)(k:y=z):sw b x y=z:=by rw [h];exact k
def lt{α β:Type}(x:α)(f:α→β):β:=f x
theorem Q0{α β:Type}{x y:α}{f:α→β}{z:β}(h:y=x)(k:f y=z):lt x f=z:=by subst h;exact k
noncomputable def gd{α:Type}(p:Prop)(x:Option α):Option α:= @ite _ p (Classical.propDecidable p) x none
theorem gO{α:Type}{p:Prop}{x z:Option α}(h:p)(k:x=z):gd p x=z:=by unfold gd;rw [if_pos h];exact k
theorem gdF{α:Type}{p:Prop}{x:Option α}(h: ¬p):gd p x=none:=by unfold gd;rw [if_neg h]
def bd{α β:Type}(m:Option α)(f:α→Option β):Option β:=match m with
 |none=>none
 |some a=>f a
theorem fY{α β:Type}{m:Option α}{f:α→Option β}{a:α}{z:Option β}(h:m=some a)(k:f a=z):bd m f=z:=by rw [h];exact k
def so{σ β:Type}(m:Option (β⊕σ))(f:σ→Option β):Option β:=match m with
 |none=>none
 |some (.inl x)=>some x
 |some (.inr s)=>f s
theorem X2{σ β:Type}{m:Option (β⊕σ)}{f:σ→Option β}{s:σ}{z:Option β}(h:m=some (.inr s))(k:f s=z):so m f=z:=by rw [h];exact k
theorem soL{σ β:Type}{m:Option (β⊕σ)}{f:σ→Option β}{x:β}(h:m=some (.inl x)):so m f=some x:=by rw [h];rfl
def loopN{σ β:Type}(f:Nat→σ→Option (LR σ β)):Nat→Nat→σ→Option (β⊕σ)
 |0,_,s=>some (.inr s)
 |k+1,i,s=>match f i s with
  |none=>none
  |some (.next s')=>loopN f k (i+1) s'
  |some (.brk s')=>some (.inr s')
  |some (.ret x)=>some (.inl x)
def loopW{σ β:Type}(f:σ→Option (LR σ β)):Nat→σ→Option (β⊕σ)
 |0,_=>none
 |k+1,s=>match f s with
  |none=>none
  |some (.next s')=>loopW f k s'
  |some (.brk s')=>some (.inr s')
  |some (.ret x)=>some (.inl x)
section
variable {σ β:Type} {f:Nat→σ→Option (LR σ β)} {n i:Nat} {s s':σ} {x:β} {R:Option (β⊕σ)}
theorem MM(h:i<n)(hJ:R=loopN f (n-i) i s)(e:f i s=some (.next s')):R=loopN f (n-(i+1)) (i+1) s':=by
 rw [hJ,show n-i=(n-(i+1))+1 by omega,loopN,e]
theorem al8(h:i<n)(hJ:R=loopN f (n-i) i s)(e:f i s=some (.brk s')):R=some (.inr s'):=by
 rw [hJ,show n-i=(n-(i+1))+1 by omega,loopN,e]
theorem amB(h:i<n)(hJ:R=loopN f (n-i) i s)(e:f i s=some (.ret x)):R=some (.inl x):=by
 rw [hJ,show n-i=(n-(i+1))+1 by omega,loopN,e]
theorem al9(h:n≤i)(hJ:R=loopN f (n-i) i s):R=some (.inr s):=by
 rw [hJ,show n-i=0 by omega,loopN]
end
section
variable {σ β:Type} {f:σ→Option (LR σ β)} {k:Nat} {s s':σ} {x:β} {R:Option (β⊕σ)}
end
section
variable {P:Program} {C:oP} {n:Nat} {s:AS} {Q:Exit→AS→Prop}
def QC(C:oP)(n:Nat)(Q:Exit→AS→Prop):Prop:= ∀e s s',Wk C n s s'→Q e s'→Q e s
def NC(C:oP)(n:Nat)(N:AS→Prop):Prop:= ∀s s',Wk C n s s'→N s'→N s
theorem asW{c:Code}:NC C n (cQ P C n c Q):=fun _ _ h k=>cQ.weak h k
theorem arQ{N:AS→Prop}(hn:NC C n N)(hq:QC C n Q):QC C n (XZ N Q):=fun e s s' h k=>by
 cases e with
 |normal=>exact hn s s' h k
 |_=>exact hq _ s s' h k
theorem apV{id:Nat}(hq:QC C n Q):QC C n (xQ id Q):=fun e s s' h k=>by
 cases e with
 |exit i=>
  simp only [xQ] at k ⊢
  split
  ·rename_i hi;rw [if_pos hi] at k;exact hq _ s s' h k
  ·rename_i hi;rw [if_neg hi] at k;exact hq _ s s' h k
 |_=>exact hq _ s s' h k
theorem arP{fn:Func}{R:PV→c5→Prop}:QC C n (DX P C n fn R):=fun e s s' h k=>⟨k.1,fun m a w hr=>by
 obtain⟨m',h'⟩:=h m a w hr
 exact k.2 m' a w h'⟩
end
end Go.Proofs.YtfcoaagbccmahaaGreat

namespace Go.Proofs.YtfcoaagbccmahaaGreat
open Go.RowKit Go.WalkArith Go.IntWalk Go.WideShapes
section
variable {P:Program} {C:oP} {n:Nat} {s:AS} {o:Oper}
theorem bB.makeSlice{T E sz by_ N:Nat}{x y:Operand}(ho:o.op= .makeSlice T x y)(hd:bI o.dst n=true)(hx:s.ev x=some (.t (.leaf (.int .i64 (N:Int)))))(hy:s.ev y=some (.t (.leaf (.int .i64 (N:Int)))))
 (hT:elemOf? P T=some (E,sz,by_)) (hz:(P.info? E).bind (fun i=>i.zero.map (fun z=>z.cells.size))=some sz) (hsz:0<sz) (hb:by_*N≤281474976710656) (hN:N≤9223372036854775807):
 bB P C n o s ((⟨s.env,s.st.addRow ⟨E,sz,[],true⟩⟩:AS).putO o.dst (.full sz N s.st.rows.length)):=
 bB.run hd (s1:=⟨s.env,s.st.addRow ⟨E,sz,[],true⟩⟩) (fun m a w h=>by
  obtain⟨i,hu,hi,hs,hby⟩:=elemOf?.spec hT
  have h1:=(cF.leaf_eq (h.eval hx)).1
  have h2:=(cF.leaf_eq (h.eval hy)).1
  cases hzz:i.zero with
  |none=>simp [hi,hzz] at hz
  |some z=>
   have hb':(i.bytes:Int)*(N:Int)≤281474976710656:=by
    rw [hby]
    have:((by_*N:Nat):Int)≤281474976710656:=by omega
    rwa [Int.natCast_mul] at this
   have hr:=run_make (P:=P) w T E i z hu hi hzz .i64 .i64 N N (by omega) (Int.le_refl _) hb' (by omega)
   simp only [Int.toNat_natCast] at hr
   refine⟨.slice (some ⟨w.heap.size,0,none⟩) N N,⟨m.ρ,CA m.γ s.st.rows.length (some (w.heap.size,N))⟩,_,?_,P9 (row:=⟨E,sz,[],true⟩) (c:=N) (cur:=madeCells z.cells (N*i.size)) h.sto,XU (row:=⟨E,sz,[],true⟩) h.sto hsz rfl (by rw [size_madeCells,hs]) (by unfold maxLen;omega),?_⟩
   ·unfold execOp
    simp only [ho,h1,h2,Sem.run_bind,hr,Result.andThen_ok]
    rfl
   ·exact⟨⟨E,sz,[],true⟩,w.heap.size,by show(s.st.rows++ [_])[s.st.rows.length]?=_;simp,rfl,rfl,b9 _ _ _,rfl⟩) rfl
theorem bB.indexFull{T E sz by_ N r k:Nat}{x i:Operand}(ho:o.op= .indexAddr T x i)(hd:bI o.dst n=true)(hx:s.ev x=some (.full sz N r))(hi:s.ev i=some (.t (.leaf (.int .i64 (k:Int)))))(hk:k<N)(hT:elemOf? P T=some (E,sz,by_)):
 bB P C n o s (s.putO o.dst (.rptr r k)):=
 bB.quiet (cT hd) fun m a w h=>by
  obtain⟨row,g,h1,h2,h3,h4,h5⟩:=h.eval hx
  have h6:=(cF.leaf_eq (h.eval hi)).1
  refine⟨.pointer (some ⟨g,0+k*sz,none⟩),?_,row,g,N,h1,h3,h4,by rw [h2,Nat.zero_add]⟩
  unfold execOp
  simp only [ho,h5,h6,Sem.run_bind,run_indexAt' hT hk,Result.andThen_ok]
  rfl
theorem bB.storeRptr{T sz N r k:Nat}{x y:Operand}{row:nR}{p:PV}{e:List Tr}{es2:List (List Tr)}(j:Nat)(ho:o.op= .store T x y)(hx:s.ev x=some (.rptr r k))(hf:s.lk j=some (.full sz N r))(hrow:s.st.rows[r]?=some row)(hy:s.ev y=some p)(ht:u6 p=true)
 (hle:s3 (vR p) (e.map PV.t)) (hel:e.length=sz) (hflat:H3 (e.map PV.t)=true) (hT:(P.info? T).map (·.size)=some sz) (hk:k=row.es.length) (hkN:k<N) (he2:row.es++ [e]=es2):
 bB P C n o s ((⟨s.env,s.st.setRow r { row with es:=es2 }⟩:AS).delO o.dst):=
 bB.runU (s1:=⟨s.env,s.st.setRow r { row with es:=es2 }⟩) (fun m a w h=>by
  subst he2 hk
  obtain⟨vf,-,row0,g,q1,q2,q3,q4,q5⟩:=h.env j _ hf
  rw [hrow] at q1
  cases q1
  subst q2
  obtain⟨row1,g1,n1,p1,p3,p4,p5⟩:=h.eval hx
  rw [hrow] at p1
  cases p1
  rw [q4] at p4
  injection p4 with p4
  injection p4 with e1 e2
  subst e1 e2
  have hr:=s3.rv hle (JC (h.eval hy) (u6.ne ht))
  have hl:(a.eval y).cells.toList.length=row.sz:=by have:=hr.length;rw [List.length_map,hel] at this;exact this.symm
  obtain⟨hpos,hlens,hplace⟩:=h.sto.row r row hrow
  rcases hplace with⟨z1,-⟩|⟨g',c',cur,z1,hob,hcs,hfit,hmax,hrep⟩
  ·rw [q4] at z1;cases z1
  rw [q4] at z1
  injection z1 with z1
  injection z1 with e1 e2
  subst e1 e2
  have hfitc:row.es.length*row.sz+row.sz≤cur.size:=by
   rw [hcs]
   have:=Nat.mul_le_mul_right row.sz (Nat.succ_le_of_lt hkN)
   rwa [Nat.succ_mul] at this
  have hrun:=G3 (P:=P) (T:=T) (d:=row.es.length*row.sz) (v:=a.eval y) hob (by rw [hT,← hl];simp) (by have hq:(a.eval y).cells.size=row.sz:=(by simpa using hl);omega) (H3.one hflat hr)
  have hsp: ∀q:Nat,q<row.es.length*row.sz→(splice cur (row.es.length*row.sz) (a.eval y).cells.toList)[q]?=cur[q]?:=fun q hq=>by
   unfold Go.Proofs.YtfcoaagbccmahaaGreat.splice
   rw [List.getElem?_toArray,List.append_assoc,List.getElem?_append_left (by simp;omega),List.getElem?_take,if_pos hq,Array.getElem?_toList]
  have hG:UR C.av s.st m w r row [e] g N (splice cur (row.es.length*row.sz) (a.eval y).cells.toList) (w.setRow g (splice cur (row.es.length*row.sz) (a.eval y).cells.toList)):=by
   refine⟨hrow,rfl,rfl,rfl,by simp,fun b hb hne=>setRow_other w g b _ hne,setRow_heap w g cur _ _ _ hob,?_,by simp only [List.length_singleton];omega,hmax,fun e' he'=>?_,fun i e' hi j' d hd=>?_,fun i e' hi j' d hd=>?_,.inl ⟨N,cur,q4,hob,fun o ho=>hsp o ho⟩,fun _=>q4⟩
   ·unfold Go.Proofs.YtfcoaagbccmahaaGreat.splice
    simp only [List.size_toArray,List.length_append,List.length_take,List.length_drop,Array.length_toList,hl]
    omega
   ·have:e'=e:=by simpa using he'
    rw [this];exact hel
   ·cases hrep with
    |row cf r1 r2 r3 r4=>
     obtain⟨b',off',hbo,hb',r5⟩:=r3 (by rintro e0;rw [e0] at hi;simp at hi)
     injection hbo with hbo
     injection hbo with e1 e2 e3
     subst e1 e2
     have hc:=(r5 i e' hi j' d hd).2
     rw [hob.cell,Nat.zero_add] at hc
     refine⟨cf i j',?_,r4 i e' hi j' d hd⟩
     have hi1:=cV hi
     have hj1:j'<row.sz:=by rw [← hlens e' (List.mem_of_getElem? hi)];exact cV hd
     have hlt:i*row.sz+j'<row.es.length*row.sz:=by
      have:(i+1)*row.sz≤row.es.length*row.sz:=Nat.mul_le_mul_right _ hi1
      rw [Nat.succ_mul] at this
      omega
     rw [hsp _ hlt];exact hc
   ·obtain⟨rfl,rfl⟩:i=0∧e'=e:=by
     rcases i with _|i
     ·simp at hi;exact⟨rfl,hi.symm⟩
     ·simp at hi
    obtain⟨v,hv,hrv⟩:=hr.get (j:=j') (p:= .t d) (by rw [List.getElem?_map,hd];rfl)
    refine⟨v,?_,hrv⟩
    have hjl:=cV hv
    unfold Go.Proofs.YtfcoaagbccmahaaGreat.splice
    have htl:(cur.toList.take (row.es.length*row.sz)).length=row.es.length*row.sz:=by simp;omega
    rw [List.getElem?_toArray,Nat.add_zero,List.append_assoc,List.getElem?_append_right (by rw [htl];omega),htl,Nat.add_sub_cancel_left,List.getElem?_append_left hjl,hv]
  have hgm:CA m.γ r (some (g,N))=m.γ:=by
   funext q
   by_cases hqr:q=r
   ·subst hqr;rw [b9,q4]
   ·rw [dV hqr]
  refine⟨_,_,?_,hG.ev h.sto,hG.sto h.sto⟩
  unfold execOp
  simp only [ho,p5,Instr.storeAt,Instr.sureAddr,Sem.run_bind,Sem.run_pure,Result.andThen_ok,hrun]) rfl
theorem Wk.full{i E sz N r:Nat}{es:List (List Tr)}{b:Bool}(hx:s.lk i=some (.full sz N r))(hrow:s.st.rows[r]?=some ⟨E,sz,es,b⟩)(hl:es.length=N):Wk C n s (s.put i (.t (.row sz es))):=fun m a w h=>by
 refine⟨m,h.dfr,h.tsz,h.sto,fun j q hq=>?_,h.ev⟩
 rw [AS.lk_put] at hq
 split at hq
 ·rename_i e
  subst e
  cases hq
  obtain⟨v,hv,row,g,q1,q2,q3,q4,q5⟩:=h.env j _ hx
  refine⟨v,hv,?_⟩
  rw [hrow] at q1
  cases q1
  obtain⟨-,-,hplace⟩:=h.sto.row r _ hrow
  rcases hplace with⟨z1,-⟩|⟨g',c',cur,z1,hob,hcs,hfit,hmax,hrep⟩
  ·rw [q4] at z1;cases z1
  rw [q4] at z1
  injection z1 with z1
  injection z1 with e1 e2
  subst e1 e2
  subst q5
  show cF _ _ (.row sz es) _
  have:cF (kP C.av s.st m) w (.row sz es) (.slice (some ⟨g,0,none⟩) es.length N):=hrep
  rw [hl] at this
  exact this
 ·exact h.env j q hq
end
end Go.Proofs.YtfcoaagbccmahaaGreat

namespace Go.Proofs.YtfcoaagbccmahaaGreat
open Go.RowKit Go.WalkArith Go.IntWalk Go.WideShapes
def FL(v:ByteArray)(k:Nat):UInt8:=(v[k]?).getD 0
section
variable {P:Program} {C:oP} {n:Nat} {s:AS} {o:Oper}
theorem atB(b:UInt8):sT (.int .u8 (b.toNat:Int)):=by
 have:=b.toNat_lt
 simp [sT,Lit.wf,IntKind.min,IntKind.max,IntKind.bits,IntKind.signed]
 omega
theorem bB.indexS{T:TypeId}{x i:Operand}{v:ByteArray}{k:Nat}(ho:o.op= .index T x i)(hd:bI o.dst n=true)(hx:s.ev x=some (.t (.leaf (.string v))))(hi:s.ev i=some (.t (.leaf (.int .i64 (k:Int)))))(hk:k<v.size)(hT:P.underlying T=some .string):
 bB P C n o s (s.putO o.dst (.t (.leaf (.int .u8 ((FL v k).toNat:Int))))):=
 bB.quiet (cT hd) fun m a w h=>by
  have h1:=(cF.leaf_eq (h.eval hx)).1
  have h2:=(cF.leaf_eq (h.eval hi)).1
  refine⟨.int .u8 ((FL v k).toNat:Int),?_,cF.leaf (atB _)⟩
  have h3:v[k]?=some v[k]:=by simp [hk]
  unfold execOp
  simp [ho,h1,h2,Instr.index,asIntOf,run_underlying hT,h3,FL]
theorem bB.indexSI{T:TypeId}{x i:Operand}{v:ByteArray}{y:Int}(ho:o.op= .index T x i)(hd:bI o.dst n=true)(hx:s.ev x=some (.t (.leaf (.string v))))(hi:s.ev i=some (.t (.leaf (.int .i64 y))))(h0:0≤y)(hk:y.toNat<v.size)(hT:P.underlying T=some .string):
 bB P C n o s (s.putO o.dst (.t (.leaf (.int .u8 ((FL v y.toNat).toNat:Int))))):=
 bB.indexS (k:=y.toNat) ho hd hx (by rw [hi,Int.toNat_of_nonneg h0]) hk hT
def SS(s:AS):Option Operand→Option Int
 |none=>some 0
 |some x=>match s.ev x with
  |some (.t (.leaf (.int .i64 y)))=>some y
  |_=>none
def DF(s:AS)(len:Nat):Option Operand→Option Int
 |none=>some (len:Int)
 |some x=>match s.ev x with
  |some (.t (.leaf (.int .i64 y)))=>some y
  |_=>none
theorem aiF{m:jT}{a:Act}{w:World}(h:RA C n s m a w){x:Operand}{y:Int}(hx:s.ev x=some (.t (.leaf (.int .i64 y)))):a.eval x= .int .i64 y:=(cF.leaf_eq (h.eval hx)).1
theorem SS.some'{x:Operand}{y:Int}(h:SS s (some x)=some y):s.ev x=some (.t (.leaf (.int .i64 y))):=by
 unfold SS at h
 simp only at h
 split at h
 ·rename_i z hz
  simp only [Option.some.injEq] at h
  rw [hz,h]
 ·cases h
theorem DF.some'{x:Operand}{y:Int}{len:Nat}(h:DF s len (some x)=some y):s.ev x=some (.t (.leaf (.int .i64 y))):=by
 unfold DF at h
 simp only at h
 split at h
 ·rename_i z hz
  simp only [Option.some.injEq] at h
  rw [hz,h]
 ·cases h
theorem WA{m:jT}{a:Act}{w:World}(h:RA C n s m a w){isS:Bool}{len cap:Nat}{lo hi:Option Operand}{l k:Int}(hlen:len≤cap)(h1:SS s lo=some l)(h2:DF s len hi=some k)(h3:0≤l)(h4:l≤k)(h5:k≤(len:Int)):
 (Instr.sliceBounds isS len cap (lo.map a.eval) (hi.map a.eval) none).run P w= .ok (l.toNat,k.toNat,cap) w:=by
 have hk:0≤k:=by omega
 have hkc:k≤(cap:Int):=by omega
 have hlk:l≤(k.toNat:Int):=by omega
 cases lo with
 |none=>
  simp only [SS,Option.some.injEq] at h1
  subst h1
  cases hi with
  |none=>
   simp only [DF,Option.some.injEq] at h2
   subst h2
   simp [Instr.sliceBounds]
  |some y=>
   have e:=aiF h (DF.some' h2)
   simp [Instr.sliceBounds,Instr.sliceBound,e,asIntOf,hk,hkc]
 |some x=>
  have e:=aiF h (SS.some' h1)
  cases hi with
  |none=>
   simp only [DF,Option.some.injEq] at h2
   subst h2
   simp [Instr.sliceBounds,Instr.sliceBound,e,asIntOf,h3,h4]
  |some y=>
   have e2:=aiF h (DF.some' h2)
   have hm:max k 0=k:=Int.max_eq_left hk
   simp [Instr.sliceBounds,Instr.sliceBound,e,e2,asIntOf,hk,hkc,h3,hlk,hm,h4]
   try omega
theorem bB.sliceS{T:TypeId}{x:Operand}{lo hi:Option Operand}{v:ByteArray}{l k:Int}(ho:o.op= .slice T x lo hi none)(hd:bI o.dst n=true)(hx:s.ev x=some (.t (.leaf (.string v))))(h1:SS s lo=some l)(h2:DF s v.size hi=some k)(h3:0≤l∧l≤k∧k≤(v.size:Int))(hT:P.underlying T=some .string):
 bB P C n o s (s.putO o.dst (.t (.leaf (.string (v.extract l.toNat k.toNat))))):=
 bB.quiet (cT hd) fun m a w h=>by
  obtain⟨e,h6⟩:=cF.leaf_eq (h.eval hx)
  have h6:v.size≤maxLen:=h6
  refine⟨.string (v.extract l.toNat k.toNat),?_,cF.leaf ?_⟩
  ·have hb:=WA (P:=P) h (isS:=false) (Nat.le_refl v.size) h1 h2 h3.1 h3.2.1 h3.2.2
   unfold execOp
   simp [ho,e,Instr.sliceAt,Instr.slice,run_underlying hT,hb]
  ·show(v.extract l.toNat k.toNat).size≤maxLen
   rw [ByteArray.size_extract]
   omega
theorem cF.part{ok:Nat→Nat→Prop}{w:World}{sz:Nat}{es:List (List Tr)}{a:Option Addr}{cap l k:Nat}(h:cF ok w (.row sz es) (.slice a es.length cap))(h1:l≤k)(h2:k≤es.length):cF ok w (.row sz ((es.take k).drop l)) (.slice (if cap=l then a else a.map (·.add (l*sz))) (k-l) (cap-l)):=by
 cases h with
 |row c q1 q2 q3 q4=>
  have hlen:((es.take k).drop l).length=k-l:=by simp;omega
  have hget: ∀(i:Nat) e,((es.take k).drop l)[i]?=some e→es[l+i]?=some e:=fun i e he=>by
   rw [List.getElem?_drop,List.getElem?_take] at he
   split at he
   ·exact he
   ·cases he
  have:=cF.row (ok:=ok) (w:=w) (sz:=sz) (es:=(es.take k).drop l) (a:=if cap=l then a else a.map (·.add (l*sz))) (cap:=cap-l) (fun i j=>c (l+i) j) (by rw [hlen];omega) (by omega) (fun hne=>?_) (fun i e he j d hd=>q4 _ e (hget i e he) j d hd)
  ·rwa [hlen] at this
  ·have hkl:l<k:=by
    rcases Nat.lt_or_ge l k with h|h
    ·exact h
    ·exact absurd (List.length_eq_zero_iff.1 (by rw [hlen];omega)) hne
   obtain⟨b,off,rfl,hb,q5⟩:=q3 (by rintro rfl;simp at h2;omega)
   refine⟨b,off+l*sz,?_,hb,fun i e he j d hd=>?_⟩
   ·rw [if_neg (by omega)]
    have hadd:(⟨b,off,none⟩:Addr).add (l*sz)=⟨b,off+l*sz,none⟩:=by unfold Addr.add;split<;>simp_all
    simp [hadd]
   ·have:=q5 (l+i) e (hget i e he) j d hd
    rw [show off+l*sz+i*sz+j=off+(l+i)*sz+j by rw [Nat.add_mul];omega]
    exact this
theorem bB.sliceR{T E sz by_:Nat}{x:Operand}{lo hi:Option Operand}{p:PV}{es:List (List Tr)}{l k:Int}(ho:o.op= .slice T x lo hi none)(hd:bI o.dst n=true)(hx:s.ev x=some p)(hp:lX p=some (sz,es))(h1:SS s lo=some l)(h2:DF s es.length hi=some k)(h3:0≤l∧l≤k∧k≤(es.length:Int))(hT:elemOf? P T=some (E,sz,by_)):
 bB P C n o s (s.putO o.dst (.t (.row sz ((es.take k.toNat).drop l.toNat)))):=
 bB.quiet (cT hd) fun m a w h=>by
  have hr:=xU hp (h.eval hx)
  obtain⟨i,hu,hi',hs,-⟩:=elemOf?.spec hT
  obtain⟨ad,cap,hv,hlc,hcm⟩:=hr.shape
  rw [hv] at hr
  refine⟨_,?_,hr.part (l:=l.toNat) (k:=k.toNat) (by omega) (by omega)⟩
  have hb:=WA (P:=P) h (isS:=true) hlc h1 h2 h3.1 h3.2.1 h3.2.2
  unfold execOp
  simp [ho,hv,Instr.sliceAt,Instr.slice,run_underlying hu,hb,Go.sizeOf,typeInfo,hi',hs]
end
end Go.Proofs.YtfcoaagbccmahaaGreat

namespace Go.Proofs.YtfcoaagbccmahaaGreat
open Go.RowKit Go.Proofs
end Go.Proofs.YtfcoaagbccmahaaGreat

namespace Go.Proofs.YtfcoaagbccmahaaGreat
open Go.RowKit Go.WalkArith Go.IntWalk Go.WideShapes
instance:Inhabited ByteArray:=⟨⟨#[]⟩⟩
def aT{α:Type}[Inhabited α](l:List α)(k:Nat):α:=(l[k]?).getD default
theorem jM{α:Type}[Inhabited α]{l:List α}{k:Nat}(h:k<l.length):aT l k=l[k]:=by simp [aT,h]
theorem am1{l:List ByteArray}{k:Nat}(h:k<l.length):(aY l)[k]?=some [.leaf (.string (aT l k))]:=by rw [jM h];exact aa5 h
theorem al5{l:List Int}{k:Nat}(h:k<l.length):(nZ l)[k]?=some [.leaf (.int .i64 (aT l k))]:=by rw [jM h];exact al6 h
theorem ah9{l:List UInt8}{k:Nat}(h:k<l.length):(lC l)[k]?=some [.leaf (.int .u8 ((aT l k).toNat:Int))]:=by rw [jM h];exact A4 h
theorem CQ{a b c:Nat}(h:a+b≤68719476736)(hc:c≤2048):(a+b)*c≤140737488355328:=by
 have:=Nat.mul_le_mul h hc
 omega
theorem ahL(l:List ByteArray)(a b:Nat):((aY l).take b).drop a=aY ((l.take b).drop a):=by simp [aY,List.map_drop,List.map_take]
theorem bB.congrP{P:Program}{C:oP}{n:Nat}{s:AS}{o:Oper}{sz:Nat}{es es':List (List Tr)}(h:bB P C n o s (s.putO o.dst (.t (.row sz es))))(e:es=es'):bB P C n o s (s.putO o.dst (.t (.row sz es'))):=e ▸ h
theorem wK{a b:Nat}(h:decide ((a:Int)<(b:Int))=true):a<b:=AO h
theorem wJ{a b:Nat}(h:decide ((a:Int)<(b:Int))=false):b≤a:=amE h
theorem aiS{a:Nat}{b:Int}(h:decide ((a:Int)<b)=true):a<b.toNat:=by have:=of_decide_eq_true h;omega
theorem aiR{a:Nat}{b:Int}(h:decide ((a:Int)<b)=false):b.toNat≤a:=by have:=of_decide_eq_false h;omega
def rX(s:c5)(fb0 fr0:List Nat)(pre:c5):List Nat→List (Option c7)→Prop
 | [],[]=>True
 |k::fb,some x::bs=>(∃y,s.boxes[k]?=some (some y)∧y.ty=x.ty∧s3 y.cells (DN fb0 fr0 x.cells)∧mA pre x.cells=true)∧rX s fb0 fr0 pre fb bs
 |_,_=>False
def uO(s:c5):List Nat→List nR→Prop
 | [],[]=>True
 |r::fr,row::rs=>s.rows[r]?=some row∧uO s fr rs
 |_,_=>False
theorem rX.len{s pre:c5}{fb0 fr0:List Nat}: ∀ {fb:List Nat} {bs:List (Option c7)},rX s fb0 fr0 pre fb bs→fb.length=bs.length
 | [],[],_=>rfl
 |_::_,some _::_,h=>by simp [rX.len h.2]
 |_::_,none::_,h=>h.elim
 | [],_::_,h=>h.elim
 |_::_,[],h=>h.elim
theorem rX.get{s pre:c5}{fb0 fr0:List Nat}: ∀ {fb:List Nat} {bs:List (Option c7)},rX s fb0 fr0 pre fb bs→ ∀k,k<bs.length→ ∃x,bs[k]?=some (some x)∧ ∃y,s.boxes[fb.getD k 0]?=some (some y)∧y.ty=x.ty∧s3 y.cells (DN fb0 fr0 x.cells)∧mA pre x.cells=true
 | [],[],_,k,h=>by simp at h
 |_::_,some x::_,h,0,_=>⟨x,rfl,h.1⟩
 |_::_,some _::_,h,k+1,hk=>by simpa using rX.get h.2 k (by simpa using hk)
 |_::_,none::_,h,_,_=>h.elim
 | [],_::_,h,_,_=>h.elim
 |_::_,[],h,_,_=>h.elim
theorem uO.len{s:c5}: ∀ {fr:List Nat} {rs:List nR},uO s fr rs→fr.length=rs.length
 | [],[],_=>rfl
 |_::_,_::_,h=>by simp [uO.len h.2]
 | [],_::_,h=>h.elim
 |_::_,[],h=>h.elim
theorem uO.get{s:c5}: ∀ {fr:List Nat} {rs:List nR},uO s fr rs→ ∀k row,rs[k]?=some row→s.rows[fr.getD k 0]?=some row
 | [],[],_,k,_,h=>by simp at h
 |_::_,_::_,h,0,row,hr=>by simp at hr;subst hr;exact h.1
 |_::_,_::_,h,k+1,row,hr=>by simpa using uO.get h.2 k row (by simpa using hr)
 | [],_::_,h,_,_,_=>h.elim
 |_::_,[],h,_,_,_=>h.elim
theorem eZ.of{s pre:c5}{fb fr:List Nat}(hb:rX s fb fr pre fb pre.boxes)(hr:uO s fr pre.rows)(n1:fb.Nodup)(n2:fr.Nodup):eZ s pre fb fr where
 fbl:=hb.len
 frl:=hr.len
 fbn:=n1
 frn:=n2
 all:=fun k hk=>by
  obtain⟨x,hx,-⟩:=hb.get k hk
  exact⟨x,hx⟩
 box:=fun k x hx=>by
  obtain⟨x',hx',h⟩:=hb.get k (List.getElem?_eq_some_iff.1 hx).1
  rw [hx] at hx'
  cases hx'
  exact h
 row:=hr.get
section
variable {P:Program} {C:oP} {n:Nat} {s:AS} {o:Oper}
theorem bB.callVPE{y:Operand}{f:FuncId}{fn:Func}{xs:List Operand}{ts:Array TypeId}{ps cs qs:List PV}{res:PV}{pre st' S:c5}(fb fr:List Nat)(ho:o.op= .call { callee:= .value y,args:=⟨xs⟩,argTypes:=ts })(hd:bI o.dst n=true)(hy:s.ev y=some (.fn f cs))(hf:P.funcs[f]?=some fn)(hnm:(fn.name== "runtime.NumGoroutine")=false)(hb:fn.body.isNone=false)
 (hx:xs.map s.ev=ps.map some) (hS:s.st=S) (hp:eZ S pre fb fr) (hle:s3 (ps++cs) (DN fb fr qs)) (hok:mA pre qs=true) (hbl:st'.boxes.length=pre.boxes.length) (hrl:st'.rows.length=pre.rows.length) (hc:b7 P f qs pre (fun r t=>r=res∧t=st')):
 bB P C n o s ((⟨s.env,S.over st' fb fr⟩:AS).putO o.dst (PV.ren fb fr res)):=by
 subst hS
 exact bB.enterP fb fr hd (fun m a w h=>by
  obtain⟨vs,h1,h2⟩:=h.eval hy
  refine⟨xs.map a.eval++vs,?_,gI.append (evL h hx) h2⟩
  have hcf:=iA (P:=P) hf hnm hb
  unfold execOp
  simp only [ho]
  simp [resolve,invoke,Deferred.ofValue,h1,hcf]) hp hle hok hbl hrl hc
theorem AL.skipP{ops:Array Oper}{rest:List Oper}{Q:Exit→AS→Prop}{j d:Nat}{b c e:Bool}(hg:o.guard=some (j,c))(hj:(ops[j]?).bind (·.dst)=some d)(hb:s.lk d=some (.t (.leaf (.bool b))))(hv:b=e)(hne:(e==c)=false)(hd:bI o.dst n=true)(h:AL P C n ops rest Q (s.putO o.dst (.tup []))):AL P C n ops (o::rest) Q s:=fun m a w hr=>
 wpList_step fun K hK=>by
  subst hv
  rw [if_neg (by simpa [Region.wanted,hg,hr.yielded hj hb] using hne)]
  exact hK _ _ (h m _ w (hr.put (cT hd) ⟨[],rfl,trivial⟩))
theorem AL.skipU{ops:Array Oper}{rest:List Oper}{Q:Exit→AS→Prop}{j d:Nat}{c:Bool}(hg:o.guard=some (j,c))(hj:(ops[j]?).bind (·.dst)=some d)(hb:s.lk d=some (.tup []))(hd:bI o.dst n=true)(h:AL P C n ops rest Q (s.putO o.dst (.tup []))):AL P C n ops (o::rest) Q s:=fun m a w hr=>
 wpList_step fun K hK=>by
  have hy:yielded ops a.tmps j=none:=by
   obtain⟨v,hv,vs,rfl,hl⟩:=hr.env d _ hb
   simp [Go.yielded,hj,hv]
  rw [if_neg (by simp [Region.wanted,hg,hy])]
  exact hK _ _ (h m _ w (hr.put (cT hd) ⟨[],rfl,trivial⟩))
theorem bB.buildSliceE{T E sz by_ len:Nat}{parts:Array (Nat×Operand)}{ps:List (Nat×List PV)}{zs cs:List PV}{es es':List (List Tr)}(ho:o.op= .buildSlice T len parts)(hd:bI o.dst n=true)(hT:elemOf? P T=some (E,sz,by_))(hz:iK P E=some zs)(hp:mB s parts.toList=some ps)
 (hc:sS (fun i=>some (i*sz,sz)) (List.replicate len zs).flatten ps=some cs) (hle:s3 cs (es.flatten.map PV.t)) (hel:es.length=len) (hes: ∀e∈es,e.length=sz) (hsz:0<sz) (hzl:zs.length=sz) (hsm:len*sz≤16777216) (he:es=es'):
 bB P C n o s (s.putO o.dst (.t (.row sz es'))):=he ▸ bB.buildSliceQ ho hd hT hz hp hc hle hel hes hsz hzl hsm
theorem bB.buildSliceA{T E sz by_ len:Nat}{parts:Array (Nat×Operand)}{ps:List (Nat×List PV)}{zs cs:List PV}{es es':List (List Tr)}(ho:o.op= .buildSlice T len parts)(hd:bI o.dst n=true)(hT:elemOf? P T=some (E,sz,by_))(hz:iK P E=some zs)(hp:mB s parts.toList=some ps)
 (hc:sS (fun i=>some (i*sz,sz)) (List.replicate len zs).flatten ps=some cs) (hle:s3 cs (es.flatten.map PV.t)) (hel:es.length=len) (hes: ∀e∈es,e.length=sz) (hsz:0<sz) (hzl:zs.length=sz) (hsm:len*sz≤16777216) (he:es=es'):
 bB P C n o s ((⟨s.env,s.st.addRow ⟨E,sz,es',false⟩⟩:AS).putO o.dst (.acc sz es' s.st.rows.length)):=he ▸ bB.buildSlice ho hd hT hz hp hc hle hel hes hsz hzl hsm
end
theorem eM{C:oP}{bs:List (Option c7)}{rs:List nR}{S:c5}(h:C.st=⟨bs,rs⟩)(hb: ∀k,k<bs.length→ ∃y,S.boxes[k]?=some (some y))(hl:rs.length≤S.rows.length):kZ C.st S:=by
 rw [h]
 exact⟨fun k x hx=>hb k (List.getElem?_eq_some_iff.1 hx).1,fun k row hk=>⟨S.rows[k]'(Nat.lt_of_lt_of_le (List.getElem?_eq_some_iff.1 hk).1 hl),List.getElem?_eq_getElem _⟩⟩
theorem lB{S:c5}{x:c7}{bs:List (Option c7)}(h:S.boxes=some x::bs): ∀k,k<1→ ∃y,S.boxes[k]?=some (some y):=fun k hk=>by
 obtain rfl:k=0:=by omega
 exact⟨x,by rw [h];rfl⟩
theorem aq2{S:c5}{x y:c7}{bs:List (Option c7)}(h:S.boxes=some x::some y::bs): ∀k,k<2→ ∃y,S.boxes[k]?=some (some y):=fun k hk=>by
 rcases(by omega:k=0∨k=1) with rfl|rfl
 ·exact⟨x,by rw [h];rfl⟩
 ·exact⟨y,by rw [h];rfl⟩
theorem aq3{S:c5}{x y z:c7}{bs:List (Option c7)}(h:S.boxes=some x::some y::some z::bs): ∀k,k<3→ ∃y,S.boxes[k]?=some (some y):=fun k hk=>by
 rcases(by omega:k=0∨k=1∨k=2) with rfl|rfl|rfl
 ·exact⟨x,by rw [h];rfl⟩
 ·exact⟨y,by rw [h];rfl⟩
 ·exact⟨z,by rw [h];rfl⟩
theorem aq1{S:c5}: ∀k,k<0→ ∃y,S.boxes[k]?=some (some y):=fun k hk=>absurd hk (Nat.not_lt_zero _)
instance:Inhabited aC:=⟨.mk 0 0⟩
theorem aC.trs_at{l:List aC}{k:Nat}(h:k<l.length):(aC.trs l)[k]?=some (aT l k).cs:=by rw [jM h];exact aC.trs_cs h
instance:Inhabited aB:=⟨.mk ⟨#[]⟩ []⟩
theorem aB.trs_part(l:List aB)(a b:Nat):((aB.trs l).take b).drop a=aB.trs ((l.take b).drop a):=by rw [aB.trs_map,aB.trs_map,List.map_drop,List.map_take]
theorem aB.trs_at{l:List aB}{k:Nat}(h:k<l.length):(aB.trs l)[k]?=some (aT l k).cs:=by rw [jM h];exact aB.trs_cs h
instance:Inhabited aA:=⟨.mk 0 ⟨#[]⟩ []⟩
theorem aA.trs_part(l:List aA)(a b:Nat):((aA.trs l).take b).drop a=aA.trs ((l.take b).drop a):=by rw [aA.trs_map,aA.trs_map,List.map_drop,List.map_take]
theorem aA.trs_at{l:List aA}{k:Nat}(h:k<l.length):(aA.trs l)[k]?=some (aT l k).cs:=by rw [jM h];exact aA.trs_cs h
instance:Inhabited aK:=⟨.mk ⟨#[]⟩ default⟩
theorem aK.trs_at{l:List aK}{k:Nat}(h:k<l.length):(aK.trs l)[k]?=some (aT l k).cs:=by rw [jM h];exact aK.trs_cs h
instance:Inhabited aL:=⟨.mk 0 ⟨#[]⟩ ⟨#[]⟩ 0 default [] []⟩
theorem aL.trs_at{l:List aL}{k:Nat}(h:k<l.length):(aL.trs l)[k]?=some (aT l k).cs:=by rw [jM h];exact aL.trs_cs h
instance:Inhabited bS:=⟨.mk ⟨#[]⟩ [] default⟩
theorem bS.trs_at{l:List bS}{k:Nat}(h:k<l.length):(bS.trs l)[k]?=some (aT l k).cs:=by rw [jM h];exact bS.trs_cs h
instance:Inhabited aF:=⟨.mk ⟨#[]⟩ [] default false [] default⟩
theorem aF.trs_at{l:List aF}{k:Nat}(h:k<l.length):(aF.trs l)[k]?=some (aT l k).cs:=by rw [jM h];exact aF.trs_cs h
instance:Inhabited aU:=⟨.mk ⟨#[]⟩ [] false false []⟩
theorem aU.trs_at{l:List aU}{k:Nat}(h:k<l.length):(aU.trs l)[k]?=some (aT l k).cs:=by rw [jM h];exact aU.trs_cs h
instance:Inhabited aD:=⟨.mk ⟨#[]⟩ []⟩
theorem aD.trs_part(l:List aD)(a b:Nat):((aD.trs l).take b).drop a=aD.trs ((l.take b).drop a):=by rw [aD.trs_map,aD.trs_map,List.map_drop,List.map_take]
theorem aD.trs_at{l:List aD}{k:Nat}(h:k<l.length):(aD.trs l)[k]?=some (aT l k).cs:=by rw [jM h];exact aD.trs_cs h
instance:Inhabited aN:=⟨.mk ⟨#[]⟩ [] []⟩
theorem aN.trs_at{l:List aN}{k:Nat}(h:k<l.length):(aN.trs l)[k]?=some (aT l k).cs:=by rw [jM h];exact aN.trs_cs h
instance:Inhabited aG:=⟨.mk ⟨#[]⟩ default⟩
theorem aG.trs_at{l:List aG}{k:Nat}(h:k<l.length):(aG.trs l)[k]?=some (aT l k).cs:=by rw [jM h];exact aG.trs_cs h
instance:Inhabited aQ:=⟨.mk ⟨#[]⟩ [] default⟩
theorem aQ.trs_at{l:List aQ}{k:Nat}(h:k<l.length):(aQ.trs l)[k]?=some (aT l k).cs:=by rw [jM h];exact aQ.trs_cs h
instance:Inhabited aI:=⟨.mk ⟨#[]⟩ [] default [] false false default []⟩
theorem aI.trs_at{l:List aI}{k:Nat}(h:k<l.length):(aI.trs l)[k]?=some (aT l k).cs:=by rw [jM h];exact aI.trs_cs h
instance:Inhabited aV:=⟨.mk ⟨#[]⟩ default⟩
theorem aV.trs_at{l:List aV}{k:Nat}(h:k<l.length):(aV.trs l)[k]?=some (aT l k).cs:=by rw [jM h];exact aV.trs_cs h
instance:Inhabited aP:=⟨.mk ⟨#[]⟩ [] [] [] default default⟩
theorem aP.trs_at{l:List aP}{k:Nat}(h:k<l.length):(aP.trs l)[k]?=some (aT l k).cs:=by rw [jM h];exact aP.trs_cs h
instance:Inhabited aM:=⟨.mk ⟨#[]⟩ [] [] [] [] []⟩
theorem aM.trs_at{l:List aM}{k:Nat}(h:k<l.length):(aM.trs l)[k]?=some (aT l k).cs:=by rw [jM h];exact aM.trs_cs h
instance:Inhabited aE:=⟨.mk []⟩
theorem aE.trs_at{l:List aE}{k:Nat}(h:k<l.length):(aE.trs l)[k]?=some (aT l k).cs:=by rw [jM h];exact aE.trs_cs h
instance:Inhabited vN:=⟨.mk default []⟩
instance:Inhabited aH:=⟨.mk 0 0 default []⟩
theorem aH.trs_at{l:List aH}{k:Nat}(h:k<l.length):(aH.trs l)[k]?=some (aT l k).cs:=by rw [jM h];exact aH.trs_cs h
instance:Inhabited aJ:=⟨.mk default 0 []⟩
theorem aJ.trs_at{l:List aJ}{k:Nat}(h:k<l.length):(aJ.trs l)[k]?=some (aT l k).cs:=by rw [jM h];exact aJ.trs_cs h
instance:Inhabited dG:=⟨.mk ⟨#[]⟩ 0 0 0 false⟩
instance:Inhabited cO:=⟨.mk [] [] []⟩
theorem cO.trs_at{l:List cO}{k:Nat}(h:k<l.length):(cO.trs l)[k]?=some (aT l k).cs:=by rw [jM h];exact cO.trs_cs h
instance:Inhabited bG:=⟨.mk default []⟩
theorem bG.trs_at{l:List bG}{k:Nat}(h:k<l.length):(bG.trs l)[k]?=some (aT l k).cs:=by rw [jM h];exact bG.trs_cs h
end Go.Proofs.YtfcoaagbccmahaaGreat

namespace Go.Proofs.YtfcoaagbccmahaaGreat
open Go.RowKit Go.WalkArith Go.IntWalk Go.WideShapes
section
variable {P:Program} {C:oP} {n:Nat} {s:AS} {o:Oper}
theorem bB.buildSliceB{T E sz by_ len:Nat}{parts:Array (Nat×Operand)}{ps:List (Nat×List PV)}{zs cs:List PV}(ho:o.op= .buildSlice T len parts)(hd:bI o.dst n=true)(hT:elemOf? P T=some (E,sz,by_))(hz:iK P E=some zs)(hp:mB s parts.toList=some ps)
 (hc:sS (fun i=>some (i*sz,sz)) (List.replicate len zs).flatten ps=some cs) (hcl:cs.length=len*sz) (hsz:0<sz) (hzl:zs.length=sz) (hsm:len*sz≤16777216):
 bB P C n o s ((⟨s.env,s.st.addBox ⟨E,cs⟩⟩:AS).putO o.dst (.bsl s.st.boxes.length len)):=
 bB.run hd (s1:=⟨s.env,s.st.addBox ⟨E,cs⟩⟩) (fun m a w h=>by
  obtain⟨us,h1,h2,h3⟩:=bB.buildSlice_run ho hT hz hp hc hcl hsz hzl hsm h
  exact⟨_,_,_,h1,JF (x:=⟨E,cs⟩),NE (x:=⟨E,cs⟩) h.sto h2,⟨⟨E,cs⟩,by simp [c5.addBox]⟩,by simp [b9]⟩) rfl
theorem bB.buildSliceLE{T E sz by_ len:Nat}{parts:Array (Nat×Operand)}{ps:List (Nat×List PV)}{zs cs:List PV}{es es':List (List Tr)}(ho:o.op= .buildSlice T len parts)(hd:bI o.dst n=true)(hT:elemOf? P T=some (E,sz,by_))(hz:iK P E=some zs)(hp:mB s parts.toList=some ps)
 (hc:sS (fun i=>some (i*sz,sz)) (List.replicate len zs).flatten ps=some cs) (hle:s3 cs (es.flatten.map PV.t)) (hel:es.length=len) (hes: ∀e∈es,e.length=sz) (hsz:0<sz) (hzl:zs.length=sz) (hsm:len*sz≤16777216) (he:es=es'):
 bB P C n o s (s.putO o.dst (.lit sz es')):=he ▸ bB.buildSliceL ho hd hT hz hp hc hle hel hes hsz hzl hsm
theorem bB.indexB{T E sz by_ k N i:Nat}{x y:Operand}(ho:o.op= .indexAddr T x y)(hd:bI o.dst n=true)(hx:s.ev x=some (.bsl k N))(hy:s.ev y=some (.t (.leaf (.int .i64 (i:Int)))))(hi:i<N)(hT:elemOf? P T=some (E,sz,by_)):
 bB P C n o s (s.putO o.dst (.ptr k (i*sz))):=
 bB.quiet (cT hd) fun m a w h=>by
  obtain⟨hb,hv⟩:=h.eval hx
  have h6:=(cF.leaf_eq (h.eval hy)).1
  refine⟨.pointer (some ⟨m.ρ k,0+i*sz,none⟩),?_,hb,by rw [Nat.zero_add]⟩
  unfold execOp
  simp only [ho,hv,h6,Sem.run_bind,run_indexAt' hT hi,Result.andThen_ok]
  rfl
theorem K5{T E sz by_:Nat}{x y:Operand}{es1 es2:List (List Tr)}{p:PV}(ho:o.op= .call { callee:= .builtin .append,args:= #[x,y],argTypes:= #[T,T] })
 (hx:s.ev x=some (.lit sz es1)) (hy:s.ev y=some p) (hp:lX p=some (sz,es2)) (h1: ∀e∈es1,e.length=sz) (h2: ∀e∈es2,e.length=sz) (hne:es2≠ []) (hsz:0<sz)
 (hT:elemOf? P T=some (E,sz,by_)) (hz:(P.info? E).bind (fun i=>i.zero.map (fun z=>z.cells.size))=some sz) (hb:0<by_) (hlen:(es1.length+es2.length)*by_≤140737488355328) {m:jT} {a:Act} {w:World} (h:RA C n s m a w):
 ∃c cur w1,(execOp a.eval o).run P w= .ok (.value (.slice (some ⟨w.heap.size,0,none⟩) (es1.length+es2.length) c)) w1∧uM w w1∧OB w1 w.heap.size E cur∧es1.length+es2.length≤c∧c≤maxLen∧
  (∀q e,(es1++es2)[q]?=some e→ ∀j d,e[j]?=some d→ ∃v,cur[q*sz+j]?=some v∧cF (kP C.av s.st m) w d v):=by
 obtain⟨i,hu,hi,hs,hby⟩:=elemOf?.spec hT
 obtain⟨hr1,ad,hv1⟩:=h.eval hx
 have hr2:=xU hp (h.eval hy)
 obtain⟨b,off,c2,news,hv2,hnl,hnews,hone,hnd⟩:=hr2.news h2 hne hsz
 have hpos2:0<es2.length:=List.length_pos_iff.2 hne
 have hlen:(es1.length+es2.length)*i.bytes≤140737488355328:=by rw [hby];exact hlen
 have h63:es1.length+es2.length≤140737488355328:=Nat.le_trans (Nat.le_mul_of_pos_right _ (by omega)) hlen
 have hrun: ∀v w1,(Builtin.append_ #[T,T] o.type #[a.eval x,a.eval y]).run P w= .ok v w1→(execOp a.eval o).run P w= .ok (.value v) w1:=fun v w1 hr=>by
  unfold execOp
  simp only [ho,resolve,invoke,builtin,Sem.run_bind,Sem.run_pure,Result.andThen_ok,List.map_toArray,List.map_cons,List.map_nil,hr]
 cases hzz:i.zero with
 |none=>simp [hi,hzz] at hz
 |some z=>
  have fin: ∀(olds:List Value) (cur:Array Value) (Z:List Value),cur.toList=olds++news++Z→olds.length=es1.length*sz→(∀i e,es1[i]?=some e→ ∀j d,e[j]?=some d→ ∃v,olds[i*sz+j]?=some v∧cF (kP C.av s.st m) w d v)→
   ∀q e,(es1++es2)[q]?=some e→ ∀j d,e[j]?=some d→ ∃v,cur[q*sz+j]?=some v∧cF (kP C.av s.st m) w d v:=fun olds cur Z hcur hol hod q e hq j d hj=>by
   rw [← Array.getElem?_toList,hcur,List.append_assoc]
   by_cases hlt:q<es1.length
   ·rw [List.getElem?_append_left hlt] at hq
    obtain⟨v,hv,hr⟩:=hod q e hq j d hj
    exact⟨v,by rw [List.getElem?_append_left (cV hv)];exact hv,hr⟩
   ·rw [List.getElem?_append_right (by omega)] at hq
    obtain⟨v,hv,hr⟩:=hnd _ e hq j d hj
    refine⟨v,?_,hr⟩
    have e1:q*sz+j=es1.length*sz+((q-es1.length)*sz+j):=by
     rw [← Nat.add_assoc,← Nat.add_mul]
     congr 2
     omega
    rw [e1,← hol,List.getElem?_append_right (by omega),Nat.add_sub_cancel_left,List.getElem?_append_left (cV hv)]
    exact hv
  have grow: ∀(A:Addr) (olds:List Value),ad=some A→olds.length=es1.length*sz→(∀j v,olds[j]?=some v→w.cell? (A.add j)=some v)→(∀i e,es1[i]?=some e→ ∀j d,e[j]?=some d→ ∃v,olds[i*sz+j]?=some v∧cF (kP C.av s.st m) w d v)→
   ∃c cur w1,(execOp a.eval o).run P w= .ok (.value (.slice (some ⟨w.heap.size,0,none⟩) (es1.length+es2.length) c)) w1∧uM w w1∧OB w1 w.heap.size E cur∧es1.length+es2.length≤c∧c≤maxLen∧
    (∀q e,(es1++es2)[q]?=some e→ ∀j d,e[j]?=some d→ ∃v,cur[q*sz+j]?=some v∧cF (kP C.av s.st m) w d v):=fun A olds hA hol hold hod=>by
   subst hA
   have happ:=run_append_grow (P:=P) w T o.type E i z hu hi hzz A es1.length es1.length olds (by rw [hs];exact hol) hold ⟨b,off,none⟩ es2.length c2 news (by rw [hnl,hs]) hnews (by omega) (by omega) (growslice_fits (by omega) hlen)
   rw [← hv2,← hv1] at happ
   have hge:=grownCap_ge w (es1.length+es2.length) es1.length E
   exact⟨_,_,_,hrun _ _ happ,.alloc (.drew (.refl _)) _,OB.new w.drew E _,hge,grownCap_le_maxLen w _ _ _ (by unfold maxLen;omega),fin olds _ _ (by simp;rfl) hol hod⟩
  by_cases he:es1= []
  ·cases ad with
   |none=>
    subst he
    have happ:=run_append_nil (P:=P) w T o.type E i z hu hi hzz ⟨b,off,none⟩ es2.length c2 news (by rw [hnl,hs]) hnews (by omega) (by omega) (by simp only [List.length_nil,Nat.zero_add] at hlen;omega)
    have hv1':a.eval x= .slice none 0 0:=hv1
    rw [← hv2,← hv1'] at happ
    have hge:=grownCap_ge w es2.length 0 E
    have hf:=fin [] (news.toArray++Builtin.zeroCells z.cells (grownCap w es2.length 0 E-es2.length)) (Builtin.zeroCells z.cells (grownCap w es2.length 0 E-es2.length)).toList (by simp) (by simp) (fun i e h=>by simp at h)
    have hcm:grownCap w es2.length 0 E≤maxLen:=grownCap_le_maxLen w _ _ _ (by unfold maxLen;omega)
    simp only [List.length_nil,Nat.zero_add,List.nil_append] at hf ⊢
    exact⟨_,_,_,hrun _ _ happ,.alloc (.drew (.refl _)) _,OB.new w.drew E _,by simpa using hge,hcm,hf⟩
   |some A=>
    subst he
    exact grow A [] rfl (by simp) (fun j v h=>by simp at h) (fun i e h=>by simp at h)
  ·obtain⟨b1,off1,c1,olds,hv1',hol,hold,-,hod⟩:=hr1.news h1 he hsz
   have hva:=hv1.symm.trans hv1'
   injection hva with e1 e2 e3
   exact grow _ olds e1 hol hold hod
theorem bB.appendLit{T E sz by_:Nat}{x y:Operand}{es1 es2 es3:List (List Tr)}{p:PV}(ho:o.op= .call { callee:= .builtin .append,args:= #[x,y],argTypes:= #[T,T] })(hd:bI o.dst n=true)
 (hx:s.ev x=some (.lit sz es1)) (hy:s.ev y=some p) (hp:lX p=some (sz,es2)) (h1: ∀e∈es1,e.length=sz) (h2: ∀e∈es2,e.length=sz) (hne:es2≠ []) (hsz:0<sz)
 (hT:elemOf? P T=some (E,sz,by_)) (hz:(P.info? E).bind (fun i=>i.zero.map (fun z=>z.cells.size))=some sz) (hb:0<by_) (hlen:(es1.length+es2.length)*by_≤140737488355328) (h3:es1++es2=es3):
 bB P C n o s (s.putO o.dst (.t (.row sz es3))):=by
 subst h3
 refine bB.quietX hd fun m a w h=>?_
 obtain⟨c,cur,w1,hr,hX,hob,hc,hm,hget⟩:=K5 ho hx hy hp h1 h2 hne hsz hT hz hb hlen h
 refine⟨_,w1,hr,hX,?_⟩
 have:=cF.row (ok:=kP C.av s.st m) (w:=w1) (es:=es1++es2) (sz:=sz) (a:=some ⟨w.heap.size,0,none⟩) (cap:=c) (fun q j=>(cur[q*sz+j]?).getD undef) (by rw [List.length_append];exact hc) hm (fun _=>⟨w.heap.size,0,rfl,hob.lt,fun q e hq j d hd=>⟨UH h.sto (Nat.le_refl _) _,?_⟩⟩) (fun q e hq j d hd=>?_)
 ·rw [List.length_append] at this
  exact this
 ·obtain⟨v,hv,-⟩:=hget q e hq j d hd
  rw [Nat.zero_add,hob.cell,hv]
  rfl
 ·obtain⟨v,hv,hr⟩:=hget q e hq j d hd
  rw [hv]
  exact cF.ext hr hX
theorem SO{α:Type}{sz:Nat}(hsz:0<sz): ∀ {es:List (List α)} {k:Nat} {d:α},(∀e∈es,e.length=sz)→es.flatten[k]?=some d→ ∃e,es[k/sz]?=some e∧e[k%sz]?=some d
 | [],k,d,_,h=>by simp at h
 |e::es,k,d,hl,h=>by
  have he:=hl e (by simp)
  rw [List.flatten_cons] at h
  by_cases hk:k<sz
  ·rw [List.getElem?_append_left (by omega)] at h
   exact⟨e,by rw [Nat.div_eq_of_lt hk];rfl,by rw [Nat.mod_eq_of_lt hk];exact h⟩
  ·rw [List.getElem?_append_right (by omega),he] at h
   obtain⟨e2,h1,h2⟩:=SO hsz (fun e he=>hl e (by simp [he])) h
   obtain⟨j,rfl⟩: ∃j,k=j+sz:=⟨k-sz,by omega⟩
   rw [Nat.add_sub_cancel] at h1 h2
   exact⟨e2,by rw [Nat.add_div_right _ hsz];exact h1,by rw [Nat.add_mod_right];exact h2⟩
theorem bB.appendLitB{T E sz by_:Nat}{x y:Operand}{es1 es2:List (List Tr)}{cs:List PV}{p:PV}{len:Nat}(ho:o.op= .call { callee:= .builtin .append,args:= #[x,y],argTypes:= #[T,T] })(hd:bI o.dst n=true)
 (hx:s.ev x=some (.lit sz es1)) (hy:s.ev y=some p) (hp:lX p=some (sz,es2)) (h1: ∀e∈es1,e.length=sz) (h2: ∀e∈es2,e.length=sz) (hne:es2≠ []) (hsz:0<sz)
 (hT:elemOf? P T=some (E,sz,by_)) (hz:(P.info? E).bind (fun i=>i.zero.map (fun z=>z.cells.size))=some sz) (hb:0<by_) (hlen:(es1.length+es2.length)*by_≤140737488355328) (hcs:(es1++es2).flatten.map PV.t=cs) (hl:es1.length+es2.length=len):
 bB P C n o s ((⟨s.env,s.st.addBox ⟨E,cs⟩⟩:AS).putO o.dst (.gsl s.st.boxes.length len)):=by
 subst hcs hl
 refine bB.run hd (s1:=⟨s.env,s.st.addBox ⟨E,(es1++es2).flatten.map PV.t⟩⟩) (fun m a w h=>?_) rfl
 obtain⟨c,cur,w1,hr,hX,hob,hc,hm,hget⟩:=K5 ho hx hy hp h1 h2 hne hsz hT hz hb hlen h
 have hes: ∀e∈es1++es2,e.length=sz:=fun e he=>(List.mem_append.1 he).elim (h1 e) (h2 e)
 have hfl: ∀(k:Nat) d,(es1++es2).flatten[k]?=some d→ ∃v,cur[k]?=some v∧cF (kP C.av s.st m) w d v:=fun k d hk=>by
  obtain⟨e,q1,q2⟩:=SO hsz hes hk
  obtain⟨v,hv,hrv⟩:=hget _ e q1 _ d q2
  rw [Nat.div_add_mod'] at hv
  exact⟨v,hv,hrv⟩
 have hrvl:gI (kP C.av s.st m) s.st m w ((es1++es2).flatten.map PV.t) ((List.range' 0 (es1++es2).flatten.length).map fun k=>(cur[k]?).getD undef):=gI.of_fn 0 fun k d hk=>by
  obtain⟨v,hv,hrv⟩:=hfl k d hk
  rw [Nat.zero_add,hv]
  exact hrv
 have hE:Ev s.st m w (s.st.addBox ⟨E,(es1++es2).flatten.map PV.t⟩) ⟨CA m.ρ s.st.boxes.length w.heap.size,m.γ⟩ w1:=P8 hX (Nat.le_refl _)
 have hobp:OBp w1 w.heap.size E ((List.range' 0 (es1++es2).flatten.length).map fun k=>(cur[k]?).getD undef):=by
  refine⟨cur.toList.drop (es1++es2).flatten.length,?_⟩
  have e1:((List.range' 0 (es1++es2).flatten.length).map fun k=>(cur[k]?).getD undef)++cur.toList.drop (es1++es2).flatten.length=cur.toList:=by
   have hle:(es1++es2).flatten.length≤cur.toList.length:=by
    rcases Nat.eq_zero_or_pos (es1++es2).flatten.length with h0|h0
    ·omega
    ·obtain⟨v,hv,-⟩:=hfl ((es1++es2).flatten.length-1) _ (List.getElem?_eq_getElem (by omega))
     rw [← Array.getElem?_toList] at hv
     have:=cV hv
     omega
   refine List.ext_getElem? fun k=>?_
   by_cases hk:k<(es1++es2).flatten.length
   ·rw [List.getElem?_append_left (by simpa using hk),List.getElem?_map,List.getElem?_range' (by simpa using hk)]
    obtain⟨v,hv,-⟩:=hfl k _ (List.getElem?_eq_getElem hk)
    simp only [Option.map_some,Nat.zero_add,Nat.one_mul,hv,Option.getD_some]
    rw [← Array.getElem?_toList] at hv
    exact hv.symm
   ·rw [List.getElem?_append_right (by simpa using Nat.le_of_not_lt hk),List.getElem?_drop]
    congr 1
    simp
    simp at hk
    omega
  rw [e1]
  exact hob
 refine⟨_,_,w1,hr,hE,XT h.sto hX (Nat.le_refl _) hobp (gI.mono hE _ _ hrvl),⟨⟨E,(es1++es2).flatten.map PV.t⟩,by simp [c5.addBox]⟩,c,hc,hm,by simp [b9]⟩
theorem bB.indexG{T E sz by_ k N i:Nat}{x y:Operand}(ho:o.op= .indexAddr T x y)(hd:bI o.dst n=true)(hx:s.ev x=some (.gsl k N))(hy:s.ev y=some (.t (.leaf (.int .i64 (i:Int)))))(hi:i<N)(hT:elemOf? P T=some (E,sz,by_)):
 bB P C n o s (s.putO o.dst (.ptr k (i*sz))):=
 bB.quiet (cT hd) fun m a w h=>by
  obtain⟨hb,c,hc,hm,hv⟩:=h.eval hx
  have h6:=(cF.leaf_eq (h.eval hy)).1
  refine⟨.pointer (some ⟨m.ρ k,0+i*sz,none⟩),?_,hb,by rw [Nat.zero_add]⟩
  unfold execOp
  simp only [ho,hv,h6,Sem.run_bind,run_indexAt' hT hi,Result.andThen_ok]
  rfl
mutual
inductive X3 (k sz:Nat) (es:List (List Tr)):PV→PV→Prop
 |le {p q:PV}:PV.Le p q→X3 k sz es p q
 |bsl {n:Nat}:es.length=n→X3 k sz es (.bsl k n) (.t (.row sz es))
 |bslL {n:Nat}:es.length=n→X3 k sz es (.bsl k n) (.lit sz es)
 |gsl {n:Nat}:es.length=n→X3 k sz es (.gsl k n) (.t (.row sz es))
 |agg {ps qs:List PV}:PQ k sz es ps qs→X3 k sz es (.agg ps) (.agg qs)
inductive PQ (k sz:Nat) (es:List (List Tr)):List PV→List PV→Prop
 |nil:PQ k sz es [] []
 |cons {p q:PV} {ps qs:List PV}:X3 k sz es p q→PQ k sz es ps qs→PQ k sz es (p::ps) (q::qs)
end
def abD(k sz:Nat)(es:List (List Tr))(st':c5):List (Option c7)→List (Option c7)→Prop
 |_,[]=>True
 |_::xs,none::ys=>abD k sz es st' xs ys
 |some x::xs,some y::ys=>(x.ty=y.ty∧PQ k sz es x.cells y.cells∧mA st' y.cells=true)∧abD k sz es st' xs ys
 |_,_=>False
theorem abD.get{k sz:Nat}{es:List (List Tr)}{st':c5}: ∀ {xs ys:List (Option c7)},abD k sz es st' xs ys→ ∀(i:Nat) (y:c7),ys[i]?=some (some y)→ ∃x:c7,xs[i]?=some (some x)∧x.ty=y.ty∧PQ k sz es x.cells y.cells∧mA st' y.cells=true
 |_,[],_,i,y,h=>by simp at h
 | [],none::ys,hl,i,y,h=>hl.elim
 |x::xs,none::ys,hl,0,y,h=>by simp at h
 |none::xs,none::ys,hl,i+1,y,h=>by simpa using abD.get (xs:=xs) hl i y (by simpa using h)
 |some _::xs,none::ys,hl,i+1,y,h=>by simpa using abD.get (xs:=xs) hl i y (by simpa using h)
 |some x::xs,some z::ys,hl,0,y,h=>by
  simp at h
  subst h
  exact⟨x,rfl,hl.1⟩
 |some x::xs,some z::ys,hl,i+1,y,h=>by simpa using abD.get (xs:=xs) hl.2 i y (by simpa using h)
 | [],some _::_,hl,_,_,_=>hl.elim
 |none::_,some _::_,hl,_,_,_=>hl.elim
def alB(k sz:Nat)(es:List (List Tr))(s:AS)(st':c5):List (Nat×PV)→Prop
 | []=>True
 |(i,q)::l=>(∃p,s.lk i=some p∧X3 k sz es p q∧PV.okIn st' q=true)∧alB k sz es s st' l
theorem alB.get{k sz:Nat}{es:List (List Tr)}{s:AS}{st':c5}: ∀ {l:List (Nat×PV)} {i:Nat} {q:PV},alB k sz es s st' l→l.lookup i=some q→ ∃p,s.lk i=some p∧X3 k sz es p q∧PV.okIn st' q=true
 | [],_,_,_,h=>by simp at h
 |(j,p)::l,i,q,hl,h=>by
  rw [List.lookup_cons] at h
  by_cases hik:i=j
  ·subst hik
   simp at h
   subst h
   exact hl.1
  ·rw [show(i==j)=false by simp [hik]] at h
   exact alB.get hl.2 h
mutual
theorem X3.rv{k sz:Nat}{es:List (List Tr)}{ok ok':Nat→Nat→Prop}{st st':c5}{m:jT}{w:World}(hle: ∀p v,PV.okIn st' p=true→RV ok st m w p v→RV ok' st' m w p v)(hb: ∀v c,es.length≤c→c≤maxLen→v= .slice (some ⟨m.ρ k,0,none⟩) es.length c→cF ok' w (.row sz es) v)(hm:es.length≤maxLen):
 ∀ {p q:PV} {v:Value},X3 k sz es p q→PV.okIn st' q=true→RV ok st m w p v→RV ok' st' m w q v
 |_,_,_,.le h,hk,hr=>hle _ _ hk (h.rv hr)
 |_,_,_,.bsl h,_,hr=>hb _ _ (Nat.le_refl _) hm (h ▸ hr.2)
 |_,_,_,.bslL h,_,hr=>⟨hb _ _ (Nat.le_refl _) hm (h ▸ hr.2),_,h ▸ hr.2⟩
 |_,_,_,.gsl h,_,hr=>by
  obtain⟨-,c,hc,hcm,hv⟩:=hr
  subst h
  exact hb _ c hc hcm hv
 |_,_,_,.agg h,hk,hr=>by
  obtain⟨vs,hv,h1⟩:=hr
  exact⟨vs,hv,PQ.rv hle hb hm h hk h1⟩
theorem PQ.rv{k sz:Nat}{es:List (List Tr)}{ok ok':Nat→Nat→Prop}{st st':c5}{m:jT}{w:World}(hle: ∀p v,PV.okIn st' p=true→RV ok st m w p v→RV ok' st' m w p v)(hb: ∀v c,es.length≤c→c≤maxLen→v= .slice (some ⟨m.ρ k,0,none⟩) es.length c→cF ok' w (.row sz es) v)(hm:es.length≤maxLen):
 ∀ {ps qs:List PV} {vs:List Value},PQ k sz es ps qs→mA st' qs=true→gI ok st m w ps vs→gI ok' st' m w qs vs
 |_,_,[],.nil,_,h=>trivial
 |_,_,_::_,.nil,_,h=>h.elim
 |_,_,[],.cons _ _,_,h=>h.elim
 |_,_,_::_,.cons k1 k2,hk,h=>by
  simp only [mA,Bool.and_eq_true] at hk
  exact⟨X3.rv hle hb hm k1 hk.1 h.1,PQ.rv hle hb hm k2 hk.2 h.2⟩
end
theorem Wk.freeze{k sz:Nat}{bx:c7}{es:List (List Tr)}{s':AS}(hb:s.st.boxes[k]?=some (some bx))(hc:s3 bx.cells (es.flatten.map PV.t))(hes: ∀e∈es,e.length=sz)(hm:es.length≤16777216)
 (hbox:abD k sz es s'.st s.st.boxes s'.st.boxes) (hnone:s'.st.boxes[k]?=some none) (hr:s'.st.rows=s.st.rows) (hp:kZ C.st s'.st) (he:alB k sz es s s'.st s'.env):Wk C n s s':=fun m a w h=>by
 have hsub:D1 s.st s'.st:=⟨fun i x hi=>by obtain⟨y,hy,-⟩:=hbox.get i x hi;exact⟨y,hy⟩,fun r row hrow=>by rw [hr] at hrow;exact hrow⟩
 obtain⟨vs,hob,hvs⟩:=h.sto.box k bx hb
 have hts:=s3.rv hc hvs
 have hokk: ∀o,kP C.av s'.st m (m.ρ k) o:=fun o=>⟨h.sto.avb k bx hb o,fun i x hi=>by
  obtain⟨y,hy,-⟩:=hbox.get i x hi
  by_cases hik:i=k
  ·subst hik
   rw [hnone] at hi
   cases hi
  ·exact h.sto.binj i k y bx hy hb hik,fun r row g c hrow hg e=>absurd e.symm (h.sto.br k bx r row g c hb (hsub.rows r row hrow) hg)⟩
 have hmm:es.length≤maxLen:=by unfold maxLen;omega
 have hRep: ∀v c,es.length≤c→c≤maxLen→v= .slice (some ⟨m.ρ k,0,none⟩) es.length c→cF (kP C.av s'.st m) w (.row sz es) v:=by
  rintro _ c hc hcm rfl
  have hget: ∀q e,es[q]?=some e→ ∀j d,e[j]?=some d→ ∃v,vs[q*sz+j]?=some v∧cF (kP C.av s.st m) w d v:=fun q e hq j d hj=>by
   have hf:=t7 (sz:=sz) hes hq hj
   obtain⟨v,hv,hrv⟩:=hts.get (j:=q*sz+j) (p:= .t d) (by rw [List.getElem?_map,hf];rfl)
   exact⟨v,hv,hrv⟩
  refine cF.row (fun q j=>(vs[q*sz+j]?).getD undef) hc hcm (fun _=>⟨m.ρ k,0,rfl,hob.lt,fun q e hq j d hd=>⟨hokk _,?_⟩⟩) (fun q e hq j d hd=>?_)
  ·obtain⟨v,hv,-⟩:=hget q e hq j d hd
   rw [Nat.zero_add,hob.cell hv,hv]
   rfl
  ·obtain⟨v,hv,hrr⟩:=hget q e hq j d hd
   rw [hv]
   exact cF.mono hrr (Nat.le_refl _) (fun _ _ _ k=>hsub.ok k) (fun _ _ _ _=>rfl)
 have hle: ∀p v,PV.okIn s'.st p=true→RV (kP C.av s.st m) s.st m w p v→RV (kP C.av s'.st m) s'.st m w p v:=fun p v=>hsub.rv p v
 refine⟨m,h.dfr,h.tsz,?_,fun i q hq=>?_,?_⟩
 ·exact {
   box:=fun i x hi=>by
    obtain⟨y,hy,ht,hl,hk⟩:=hbox.get i x hi
    obtain⟨us,k1,k2⟩:=h.sto.box i y hy
    exact⟨us,by rw [← ht];exact k1,PQ.rv hle hRep hmm hl hk k2⟩
   binj:=fun i i' x x' hi hi'=>by
    obtain⟨y,hy,-⟩:=hbox.get i x hi
    obtain⟨y',hy',-⟩:=hbox.get i' x' hi'
    exact h.sto.binj i i' y y' hy hy'
   row:=fun r row hrow=>by
    obtain⟨k1,k2,k3⟩:=h.sto.row r row (hsub.rows r row hrow)
    refine⟨k1,k2,?_⟩
    rcases k3 with k3|⟨g,c,cur,q1,q2,q3,q4,q5,q6⟩
    ·exact .inl k3
    ·exact .inr ⟨g,c,cur,q1,q2,q3,q4,q5,cF.mono q6 (Nat.le_refl _) (fun _ _ _ k=>hsub.ok k) (fun _ _ _ _=>rfl)⟩
   rinj:=fun r r' row row' g c c' hi hi'=>h.sto.rinj r r' row row' g c c' (hsub.rows r row hi) (hsub.rows r' row' hi')
   br:=fun i x r row g c hi hrow=>by
    obtain⟨y,hy,-⟩:=hbox.get i x hi
    exact h.sto.br i y r row g c hy (hsub.rows r row hrow)
   avlt:=h.sto.avlt
   avr:=fun r row g c hrow=>h.sto.avr r row g c (hsub.rows r row hrow)
   avb:=fun i x hi=>by
    obtain⟨y,hy,-⟩:=hbox.get i x hi
    exact h.sto.avb i y hy }
 ·obtain⟨p,h1,h2,h3⟩:=he.get hq
  obtain⟨v,hv,hrv⟩:=h.env i p h1
  exact⟨v,hv,X3.rv hle hRep hmm h2 h3 hrv⟩
 ·exact {
   os:=h.ev.os
   tape:=h.ev.tape
   output:=h.ev.output
   size:=h.ev.size
   blk:=h.ev.blk
   cell:=h.ev.cell
   okk:=fun b o hb ho=>(hsub.ok (av:=fun _ _=>False) ⟨id,h.ev.okk b o hb ho⟩).2
   live:=fun i x hi=>⟨hp.1 i x hi,(h.ev.live i x hi).2⟩
   fresh:=fun i x' hi=>by
    obtain⟨y,hy,-⟩:=hbox.get i x' hi
    exact h.ev.fresh i y hy
   rowl:=fun r row hrow=>by
    obtain⟨row',hr'⟩:=hp.2 r row hrow
    obtain⟨row2,h1,h2⟩:=h.ev.rowl r row hrow
    have:=hsub.rows r row' hr'
    rw [h1] at this
    cases this
    exact⟨_,hr',h2⟩
   rfresh:=fun r row' g c hrow hg=>h.ev.rfresh r row' g c (hsub.rows r row' hrow) hg }
end
theorem Wk.freezeE{C:oP}{n:Nat}{s:AS}{k sz:Nat}{bx:c7}{es es':List (List Tr)}{s':AS}(heq:es=es')(hb:s.st.boxes[k]?=some (some bx))(hc:s3 bx.cells (es.flatten.map PV.t))(hes: ∀e∈es,e.length=sz)(hm:es.length≤16777216)
 (hbox:abD k sz es' s'.st s.st.boxes s'.st.boxes) (hnone:s'.st.boxes[k]?=some none) (hr:s'.st.rows=s.st.rows) (hp:kZ C.st s'.st) (he:alB k sz es' s s'.st s'.env):Wk C n s s':=by
 subst heq
 exact Wk.freeze hb hc hes hm hbox hnone hr hp he
theorem eB{p:Prop}(h:p:=by(repeat' (first|exact X3.bsl rfl|exact X3.bslL rfl|exact X3.gsl rfl|exact PQ.nil|apply PQ.cons|exact X3.le (PV.Le.refl _)|exact X3.le (PV.Le.acc _ _ _)|exact X3.le (PV.Le.nil _)|exact X3.le (PV.Le.lit _ _)|exact X3.le (PV.Le.nilLit _)|apply X3.agg))):p:=h
end Go.Proofs.YtfcoaagbccmahaaGreat

namespace Go.Proofs.YtfcoaagbccmahaaGreat
open Go.RowKit Go.WalkArith Go.IntWalk Go.WideShapes
abbrev pI(x:Int):PV:= .t (.leaf (.int .i64 x))
abbrev pN(x:Nat):PV:= .t (.leaf (.int .i64 (x:Int)))
abbrev pU(x:UInt8):PV:= .t (.leaf (.int .u8 (x.toNat:Int)))
abbrev pS(x:ByteArray):PV:= .t (.leaf (.string x))
abbrev pB(x:Bool):PV:= .t (.leaf (.bool x))
abbrev rS(l:List ByteArray):PV:= .t (.row 1 (aY l))
abbrev rI(l:List Int):PV:= .t (.row 1 (nZ l))
abbrev rU(l:List UInt8):PV:= .t (.row 1 (lC l))
abbrev aS(l:List ByteArray)(r:Nat):PV:= .acc 1 (aY l) r
abbrev dC(d:DS):List PV:= [.t (.row 1 (lC d.code)),.t (.leaf (.int .i64 (d.p:Int))),.t (.leaf (.int .i64 d.h))]
class TC (α:Type) [Inhabited α] where
 cs:α→List Tr
 trs:List α→List (List Tr)
 sz:Nat
 at_: ∀ {l:List α} {k:Nat},k<l.length→(trs l)[k]?=some (cs (aT l k))
 len: ∀l:List α,(trs l).length=l.length
 map: ∀l:List α,trs l=l.map cs
 csz: ∀a,(cs a).length=sz
instance:TC ByteArray:=⟨fun x=> [.leaf (.string x)],aY,1,am1,bV,fun _=>rfl,fun _=>rfl⟩
instance:TC Int:=⟨fun x=> [.leaf (.int .i64 x)],nZ,1,al5,fS,fun _=>rfl,fun _=>rfl⟩
instance:TC UInt8:=⟨fun x=> [.leaf (.int .u8 (x.toNat:Int))],lC,1,ah9,rB,fun _=>rfl,fun _=>rfl⟩
section
variable {α:Type} [Inhabited α] [TC α]
theorem TC.all(l:List α): ∀e∈TC.trs l,e.length=TC.sz α:=fun e he=>by
 rw [TC.map] at he
 obtain⟨x,_,rfl⟩:=List.mem_map.1 he
 exact TC.csz x
theorem TC.app(a b:List α):TC.trs a++TC.trs b=TC.trs (a++b):=by rw [TC.map,TC.map,TC.map,List.map_append]
end
def Hd{β:Type}(m:Option β)(K:β→Prop):Prop:= ∃v,m=some v∧K v
section
variable {α β σ:Type} {K:β→Prop} {r:β}
theorem hd0{m:Option β}(h:m=some r):Hd m (fun v=>v=r):=⟨r,h,rfl⟩
theorem gdI{p:Prop}{x:Option β}(h:Hd (gd p x) K):p∧Hd x K:=by
 obtain⟨v,h1,h2⟩:=h
 by_cases hp:p
 ·rw [gO hp rfl] at h1;exact⟨hp,v,h1,h2⟩
 ·rw [gdF hp] at h1;cases h1
theorem bdI{o:Option α}{f:α→Option β}(h:Hd (bd o f) K): ∃a,o=some a∧Hd (f a) K:=by
 obtain⟨v,h1,h2⟩:=h
 cases o with
 |none=>cases h1
 |some a=>exact⟨a,rfl,v,h1,h2⟩
theorem cC{G p:Prop}{x:Option β}(h:Hd (gd p x) K)(k:p→Hd x K→G):G:=k (gdI h).1 (gdI h).2
theorem bK{G:Prop}{o:Option α}{f:α→Option β}(h:Hd (bd o f) K)(k: ∀a,o=some a→Hd (f a) K→G):G:=by
 obtain⟨a,h1,h2⟩:=bdI h
 exact k a h1 h2
theorem dP{G:Prop}{A B:Type}{o:Option (A×B)}{f:A×B→Option β}(h:Hd (bd o f) K)(k: ∀a b,o=some (a,b)→Hd (f (a,b)) K→G):G:=bK h fun _=>k _ _
theorem NR{G:Prop}{A B C:Type}{o:Option (A×B×C)}{f:A×B×C→Option β}(h:Hd (bd o f) K)(k: ∀a b c,o=some (a,b,c)→Hd (f (a,b,c)) K→G):G:=bK h fun _=>k _ _ _
theorem asJ{G:Prop}{A B C D:Type}{o:Option (A×B×C×D)}{f:A×B×C×D→Option β}(h:Hd (bd o f) K)(k: ∀a b c d,o=some (a,b,c,d)→Hd (f (a,b,c,d)) K→G):G:=bK h fun _=>k _ _ _ _
theorem fZ{G:Prop}{x:α}{f:α→Option β}(h:Hd (lt x f) K)(k: ∀y,y=x→Hd (f y) K→G):G:=k x rfl h
theorem sZ{b:Bool}{x y:Option β}(h:Hd (sw b x y) K)(e:b=true):Hd x K:=by subst e;exact h
theorem sY{b:Bool}{x y:Option β}(h:Hd (sw b x y) K)(e:b=false):Hd y K:=by subst e;exact h
theorem vI{v:β}(h:Hd (some v) K):K v:=by
 obtain⟨u,h1,h2⟩:=h
 cases h1
 exact h2
def SK(f:σ→Option β)(K:β→Prop):β⊕σ→Prop
 | .inl x=>K x
 | .inr s=>Hd (f s) K
theorem eK{m:Option (β⊕σ)}{f:σ→Option β}(h:Hd (so m f) K):Hd m (SK f K):=by
 obtain⟨v,h1,h2⟩:=h
 cases m with
 |none=>cases h1
 |some a=>
  refine⟨a,rfl,?_⟩
  cases a with
  |inl x=>cases h1;exact h2
  |inr s=>exact⟨v,h1,h2⟩
def LK(f:Nat→σ→Option (LR σ β))(n i:Nat)(K:β⊕σ→Prop):LR σ β→Prop
 | .next s=>Hd (loopN f (n-(i+1)) (i+1) s) K
 | .brk s=>K (.inr s)
 | .ret x=>K (.inl x)
def LW(f:σ→Option (LR σ β))(k:Nat)(K:β⊕σ→Prop):LR σ β→Prop
 | .next s=>Hd (loopW f k s) K
 | .brk s=>K (.inr s)
 | .ret x=>K (.inl x)
theorem skL{f:σ→Option β}{x:β}(h:SK f K (.inl x)):K x:=h
theorem lkR{f:Nat→σ→Option (LR σ β)}{n i:Nat}{K:β⊕σ→Prop}{x:β}(h:LK f n i K (.ret x)):K (.inl x):=h
theorem lwR{f:σ→Option (LR σ β)}{k:Nat}{K:β⊕σ→Prop}{x:β}(h:LW f k K (.ret x)):K (.inl x):=h
theorem lnT{f:Nat→σ→Option (LR σ β)}{n i:Nat}{s:σ}{K:β⊕σ→Prop}(hl:i<n)(h:Hd (loopN f (n-i) i s) K):Hd (f i s) (LK f n i K):=by
 obtain⟨v,h1,h2⟩:=h
 rw [show n-i=(n-(i+1))+1 by omega,loopN] at h1
 cases hf:f i s with
 |none=>rw [hf] at h1;cases h1
 |some x=>
  rw [hf] at h1
  refine⟨x,rfl,?_⟩
  cases x with
  |next s'=>exact⟨v,h1,h2⟩
  |brk s'=>cases h1;exact h2
  |ret x=>cases h1;exact h2
theorem lnE{f:Nat→σ→Option (LR σ β)}{n i:Nat}{s:σ}{K:β⊕σ→Prop}(hl:n≤i)(h:Hd (loopN f (n-i) i s) K):K (.inr s):=by
 obtain⟨v,h1,h2⟩:=h
 rw [show n-i=0 by omega,loopN] at h1
 cases h1
 exact h2
theorem lwT{f:σ→Option (LR σ β)}{k:Nat}{s:σ}{K:β⊕σ→Prop}(h:Hd (loopW f k s) K): ∃k',k=k'+1∧Hd (f s) (LW f k' K):=by
 obtain⟨v,h1,h2⟩:=h
 cases k with
 |zero=>cases h1
 |succ k=>
  rw [loopW] at h1
  refine⟨k,rfl,?_⟩
  cases hf:f s with
  |none=>rw [hf] at h1;cases h1
  |some x=>
   rw [hf] at h1
   refine⟨x,rfl,?_⟩
   cases x with
   |next s'=>exact⟨v,h1,h2⟩
   |brk s'=>cases h1;exact h2
   |ret x=>cases h1;exact h2
end
section
variable {P:Program} {C:oP} {n:Nat} {s s':AS}
theorem VY{st':c5}(h:kZ C.st st':=by first|exact aaF (by assumption)|(refine eM (by assumption) ?_ ?_;(first|exact aq1|exact lB rfl|exact aq2 rfl|exact aq3 rfl);exact Nat.le_of_ble_eq_true rfl)):kZ C.st st':=h
theorem XS{st st':c5}(hb:CF st' st.boxes st'.boxes:=by repeat' (first|exact trivial|refine⟨⟨rfl,jN,rfl⟩,?_⟩))(hr:st.rows.take st'.rows.length=st'.rows:=by first|rfl|simp):tN st st':=tN.mk' hb hr
theorem FE(hst:tN s.st s'.st:=by exact XS)(hp:kZ C.st s'.st:=by exact VY)(he:ZT s s'.st s'.env:=by repeat' (first|exact trivial|refine⟨⟨_,rfl,jN,rfl⟩,?_⟩)):Wk C n s s':=Wk.mk hst hp he
end
theorem EU{P:Program}{f:FuncId}{args:List PV}{pre:c5}{q:PV}{y d:DS}{T:TypeId}(hy:y=d)(h:b7 P f args pre (fun r t=>r=q∧t=DS.box T d)):b7 P f args pre (fun r t=>r=q∧t=DS.box T y):=by subst hy;exact h
theorem PP{P:Program}{f:FuncId}{args:List PV}{pre:c5}{x z:ByteArray}{y d:DS}{T:TypeId}(hy:y=d)(hx:x=z)(h:b7 P f args pre (fun r t=>r=pS z∧t=DS.box T d)):b7 P f args pre (fun r t=>r=pS x∧t=DS.box T y):=by subst hy hx;exact h
def aq4{β σ:Type}(C:oP)(n:Nat)(I:σ→AS)(K:β⊕σ→Prop)(Q:Exit→AS→Prop):Exit→AS→Prop
 | .normal,s=> ∃v,K (.inr v)∧Wk C n s (I v)
 |e,s=>Q e s
def lpQ{β σ:Type}(C:oP)(n:Nat)(id:Nat)(I:Nat→σ→AS)(O:σ→AS)(f:Nat→σ→Option (LR σ β))(m i:Nat)(K:β⊕σ→Prop)(Q:Exit→AS→Prop):Exit→AS→Prop
 | .normal,s=>i<m∧ ∃v,Hd (loopN f (m-(i+1)) (i+1) v) K∧Wk C n s (I (i+1) v)
 | .exit j,s=>if j=id then ∃v,K (.inr v)∧Wk C n s (O v) else Q (.exit j) s
 |e,s=>Q e s
def lwQ{β σ:Type}(C:oP)(n:Nat)(id:Nat)(I:σ→AS)(O:σ→AS)(f:σ→Option (LR σ β))(k:Nat)(K:β⊕σ→Prop)(Q:Exit→AS→Prop):Exit→AS→Prop
 | .normal,s=> ∃v,Hd (loopW f k v) K∧Wk C n s (I v)
 | .exit j,s=>if j=id then ∃v,K (.inr v)∧Wk C n s (O v) else Q (.exit j) s
 |e,s=>Q e s
section
variable {P:Program} {C:oP} {n:Nat} {s:AS} {Q:Exit→AS→Prop} {β σ:Type}
theorem arO{I:σ→AS}{K:β⊕σ→Prop}(hq:QC C n Q):QC C n (aq4 C n I K Q):=fun e s s' h k=>by
 cases e with
 |normal=>obtain⟨v,h1,h2⟩:=k;exact⟨v,h1,h.trans h2⟩
 |_=>exact hq _ s s' h k
theorem as3{id:Nat}{I:Nat→σ→AS}{O:σ→AS}{f:Nat→σ→Option (LR σ β)}{m i:Nat}{K:β⊕σ→Prop}(hq:QC C n Q):QC C n (lpQ C n id I O f m i K Q):=fun e s s' h k=>by
 cases e with
 |normal=>obtain⟨h0,v,h1,h2⟩:=k;exact⟨h0,v,h1,h.trans h2⟩
 |exit j=>
  simp only [lpQ] at k ⊢
  split
  ·rename_i hj;rw [if_pos hj] at k;obtain⟨v,h1,h2⟩:=k;exact⟨v,h1,h.trans h2⟩
  ·rename_i hj;rw [if_neg hj] at k;exact hq _ s s' h k
 |_=>exact hq _ s s' h k
theorem as4{id:Nat}{I:σ→AS}{O:σ→AS}{f:σ→Option (LR σ β)}{m:Nat}{K:β⊕σ→Prop}(hq:QC C n Q):QC C n (lwQ C n id I O f m K Q):=fun e s s' h k=>by
 cases e with
 |normal=>obtain⟨v,h1,h2⟩:=k;exact⟨v,h1,h.trans h2⟩
 |exit j=>
  simp only [lwQ] at k ⊢
  split
  ·rename_i hj;rw [if_pos hj] at k;obtain⟨v,h1,h2⟩:=k;exact⟨v,h1,h.trans h2⟩
  ·rename_i hj;rw [if_neg hj] at k;exact hq _ s s' h k
 |_=>exact hq _ s s' h k
theorem qcA(h:QC C n Q:=by repeat' (first|exact arP|exact asW|apply arO|apply as3|apply as4|apply arQ|apply apV)):QC C n Q:=h
theorem nV{c:Code}{m:Option (β⊕σ)}{K:β⊕σ→Prop}(I:σ→AS)(H:Hd m K)(h:Hd m K→cQ P C n c (aq4 C n I K Q) s)(k: ∀v,K (.inr v)→Q .normal (I v))(hq:QC C n Q:=by exact qcA):cQ P C n c Q s:=
 cQ.mono (h H) fun e s' hc=>by
  cases e with
  |normal=>
   obtain⟨v,h1,h2⟩:=hc
   exact hq _ _ _ h2 (k v h1)
  |_=>exact hc
theorem avC{I:σ→AS}{K:β⊕σ→Prop}{e:Exit}(h: ∃v,K (.inr v)∧Wk C n s (I v))(he:e= .normal:=by exact rfl):aq4 C n I K Q e s:=by subst he;exact h
theorem bU{c:Code}{id:Nat}{f:Nat→σ→Option (LR σ β)}{m i0:Nat}{v0:σ}{K:β⊕σ→Prop}(I:Nat→σ→AS)(O:σ→AS)(H:Hd (loopN f (m-i0) i0 v0) K)
 (round: ∀i v,Hd (loopN f (m-i) i v) K→cQ P C n c (lpQ C n id I O f m i K Q) (I i v)) (k: ∀v,K (.inr v)→Q .normal (O v)) (h0:Wk C n s (I i0 v0):=by exact FE) (hq:QC C n Q:=by exact qcA):cQ P C n (.block id (.loop c)) Q s:=by
 refine cQ.block ?_;refine cQ.loopJ (ι:=Nat×σ) (fun x=>Hd (loopN f (m-x.1) x.1 x.2) K) (fun x=>I x.1 x.2) (fun x=>m-x.1) (i0,v0) H h0 ?_;rintro⟨i,v⟩ hj
 refine cQ.mono (round i v hj) fun e s' h=>?_
 cases e with
 |normal=>
  obtain⟨h1,v',h2,h3⟩:=h
  exact⟨(i+1,v'),h2,h3,by show m-(i+1)<m-i;omega⟩
 |exit j=>
  simp only [lpQ] at h
  show xQ id Q (.exit j) s'
  simp only [xQ]
  split
  ·rename_i hj;rw [if_pos hj] at h;obtain⟨v',h1,h2⟩:=h;exact hq _ _ _ h2 (k v' h1)
  ·rename_i hj;rw [if_neg hj] at h;exact h
 |_=>exact h
theorem SR{c:Code}{id:Nat}{f:σ→Option (LR σ β)}{k0:Nat}{v0:σ}{K:β⊕σ→Prop}(I:σ→AS)(O:σ→AS)(H:Hd (loopW f k0 v0) K)
 (round: ∀k v,Hd (f v) (LW f k K)→cQ P C n c (lwQ C n id I O f k K Q) (I v)) (k: ∀v,K (.inr v)→Q .normal (O v)) (h0:Wk C n s (I v0):=by exact FE) (hq:QC C n Q:=by exact qcA):cQ P C n (.block id (.loop c)) Q s:=by
 refine cQ.block ?_;refine cQ.loopJ (ι:=Nat×σ) (fun x=>Hd (loopW f x.1 x.2) K) (fun x=>I x.2) (fun x=>x.1) (k0,v0) H h0 ?_;rintro⟨i,v⟩ hj
 obtain⟨i',rfl,hj'⟩:=lwT (f:=f) (k:=i) (s:=v) hj
 refine cQ.mono (round i' v hj') fun e s' h=>?_
 cases e with
 |normal=>
  obtain⟨v',h2,h3⟩:=h
  exact⟨(i',v'),h2,h3,by show i'<i'+1;omega⟩
 |exit j=>
  simp only [lwQ] at h
  show xQ id Q (.exit j) s'
  simp only [xQ]
  split
  ·rename_i hj;rw [if_pos hj] at h;obtain⟨v',h1,h2⟩:=h;exact hq _ _ _ h2 (k v' h1)
  ·rename_i hj;rw [if_neg hj] at h;exact h
 |_=>exact h
theorem lpN{id:Nat}{I:Nat→σ→AS}{O:σ→AS}{f:Nat→σ→Option (LR σ β)}{m i:Nat}{K:β⊕σ→Prop}{e:Exit}(hi:i<m)(h: ∃v,LK f m i K (.next v)∧Wk C n s (I (i+1) v))(he:e= .normal:=by exact rfl):lpQ C n id I O f m i K Q e s:=by subst he;exact⟨hi,h⟩
theorem lpX{id:Nat}{I:Nat→σ→AS}{O:σ→AS}{f:Nat→σ→Option (LR σ β)}{m i:Nat}{K:β⊕σ→Prop}{e:Exit}(h: ∃v,K (.inr v)∧Wk C n s (O v))(he:e= .exit id:=by exact rfl):lpQ C n id I O f m i K Q e s:=by
 subst he
 simp only [lpQ,if_pos]
 exact h
theorem lpB{id:Nat}{I:Nat→σ→AS}{O:σ→AS}{f:Nat→σ→Option (LR σ β)}{m i:Nat}{K:β⊕σ→Prop}{e:Exit}(h: ∃v,LK f m i K (.brk v)∧Wk C n s (O v))(he:e= .exit id:=by exact rfl):lpQ C n id I O f m i K Q e s:=lpX h he
theorem lwN{id:Nat}{I:σ→AS}{O:σ→AS}{f:σ→Option (LR σ β)}{k:Nat}{K:β⊕σ→Prop}{e:Exit}(h: ∃v,LW f k K (.next v)∧Wk C n s (I v))(he:e= .normal:=by exact rfl):lwQ C n id I O f k K Q e s:=by subst he;exact h
theorem lwB{id:Nat}{I:σ→AS}{O:σ→AS}{f:σ→Option (LR σ β)}{k:Nat}{K:β⊕σ→Prop}{e:Exit}(h: ∃v,LW f k K (.brk v)∧Wk C n s (O v))(he:e= .exit id:=by exact rfl):lwQ C n id I O f k K Q e s:=by
 subst he
 simp only [lwQ,if_pos]
 exact h
theorem dH{β:Type}{K:β→Prop}{x y:Option β}{ops:Array Oper}{l:List Oper}(d:Nat){b:Bool}(H:Hd (sw b x y) K)(h1:b=true→Hd x K→AL P C n ops l Q s)(h0:b=false→Hd y K→AL P C n ops l Q s)(hb:s.lk d=some (.t (.leaf (.bool b))):=by exact rfl):AL P C n ops l Q s:=AL.splitB d hb (fun h=>h1 h (sZ H h)) (fun h=>h0 h (sY H h))
theorem bC{K:β→Prop}{c:Operand}{b:Bool}{x y:Option β}{cx cy:Code}(H:Hd (sw b x y) K)(ht:b=true→Hd x K→cQ P C n cx Q s)(hf:b=false→Hd y K→cQ P C n cy Q s)(hc:s.ev c=some (.t (.leaf (.bool b))):=by exact rfl):cQ P C n (.cond c cx cy) Q s:=
 cQ.cond hc (fun h=>ht h (sZ H h)) fun h=>hf h (sY H h)
theorem aiB{c:Operand}{b:Bool}{cx cy:Code}(e:b=true)(h:cQ P C n cx Q s)(hc:s.ev c=some (.t (.leaf (.bool b))):=by exact rfl):cQ P C n (.cond c cx cy) Q s:=cQ.cond hc (fun _=>h) fun h=>absurd (e.symm.trans h) (by decide)
theorem U5{c:Operand}{b:Bool}{cx cy:Code}(e:b=false)(h:cQ P C n cy Q s)(hc:s.ev c=some (.t (.leaf (.bool b))):=by exact rfl):cQ P C n (.cond c cx cy) Q s:=cQ.cond hc (fun h=>absurd (e.symm.trans h) (by decide)) fun _=>h
theorem cS{K:β⊕σ→Prop}{f:Nat→σ→Option (LR σ β)}{m i:Nat}{v:σ}{c:Operand}{b:Bool}{cx cy:Code}(H:Hd (loopN f (m-i) i v) K)(ht:b=true→i<m→Hd (f i v) (LK f m i K)→cQ P C n cx Q s)(hf:b=false→K (.inr v)→cQ P C n cy Q s)(h1:b=true→i<m:=by first|exact wK|exact aiS)(h0:b=false→m≤i:=by first|exact wJ|exact aiR)(hc:s.ev c=some (.t (.leaf (.bool b))):=by exact rfl):cQ P C n (.cond c cx cy) Q s:=
 cQ.cond hc (fun h=>ht h (h1 h) (lnT (h1 h) H)) fun h=>hf h (lnE (h0 h) H)
theorem qI{f:FuncId}{fn:Func}{c:Code}{args:List PV}{pre:c5}{R:PV→c5→Prop}(hf:P.funcs[f]?=some fn)(h: ∀C:oP,C.st=pre→cQ P C fn.ntmps c (DX P C fn.ntmps fn R) ⟨HX 0 args,pre⟩)(hb:fn.body=some c:=by exact rfl)(hn:args.length≤fn.ntmps:=by first|decide|(simp;done)|(simp;decide)):b7 P f args pre R:=b7.intro hf hb hn h
theorem qS{x y:Code}(h:cQ P C n x (XZ (cQ P C n y Q) Q) s):cQ P C n (.seq x y) Q s:=cQ.seq h
theorem qR{id:Nat}{l:List Oper}(h:AL P C n l.toArray l Q s):cQ P C n (.region id l.toArray false) Q s:=cQ.region_lit h
theorem qN{ops:Array Oper}(h:Q .normal s):AL P C n ops [] Q s:=AL.nil h
theorem q1{ops:Array Oper}{o:Oper}{rest:List Oper}{s1:AS}(ho:bB P C n o s s1)(h:AL P C n ops rest Q s1)(hg:o.guard=none:=by exact rfl):AL P C n ops (o::rest) Q s:=AL.cons hg ho h
theorem qg{ops:Array Oper}{o:Oper}{rest:List Oper}{s1:AS}{j d:Nat}{b c:Bool}(hv:b=c)(ho:bB P C n o s s1)(h:AL P C n ops rest Q s1)(hg:o.guard=some (j,c):=by exact rfl)(hj:(ops[j]?).bind (·.dst)=some d:=by exact rfl)(hb:s.lk d=some (.t (.leaf (.bool b))):=by exact rfl):AL P C n ops (o::rest) Q s:=AL.cons_gv hg hj hb hv ho h
theorem qk{ops:Array Oper}{o:Oper}{rest:List Oper}{j d:Nat}{b c e:Bool}(hv:b=e)(h:AL P C n ops rest Q (s.putO o.dst (.tup [])))(hg:o.guard=some (j,c):=by exact rfl)(hj:(ops[j]?).bind (·.dst)=some d:=by exact rfl)(hb:s.lk d=some (.t (.leaf (.bool b))):=by exact rfl)(hne:(e==c)=false:=by exact rfl)(hd:bI o.dst n=true:=by exact rfl):AL P C n ops (o::rest) Q s:=AL.skipP hg hj hb hv hne hd h
theorem qku{ops:Array Oper}{o:Oper}{rest:List Oper}{j d:Nat}{c:Bool}(h:AL P C n ops rest Q (s.putO o.dst (.tup [])))(hg:o.guard=some (j,c):=by exact rfl)(hj:(ops[j]?).bind (·.dst)=some d:=by exact rfl)(hb:s.lk d=some (.tup []):=by exact rfl)(hd:bI o.dst n=true:=by exact rfl):AL P C n ops (o::rest) Q s:=AL.skipU hg hj hb hd h
theorem qe{fn:Func}{R:PV→c5→Prop}{e:Exit}{ps:List PV}{res q:PV}{st':c5}(hR:R q st':=by exact⟨rfl,rfl⟩)(hr:U0 P s fn.results.toList ps)(he:e= .normal∨e= .ret:=by first|exact .inr rfl|exact .inl rfl)(hres:(match ps with| [p]=>p|ps=> .tup ps)=res:=by exact rfl)
 (hst:tN s.st st':=by exact XS) (hp:kZ C.st st':=by exact VY) (hle:PV.Le res q:=by exact jN) (hk:PV.okIn st' q=true:=by exact rfl):DX P C n fn R e s:=DX.mk he hr hres hst hp hle hk hR
theorem V6{fn:Func}{R:PV→c5→Prop}{e:Exit}{p q:PV}{st':c5}(hR:R q st':=by exact⟨rfl,rfl⟩)(hr:U0 P s fn.results.toList [p]:=by exact⟨rfl,trivial⟩)(he:e= .normal∨e= .ret:=by first|exact .inr rfl|exact .inl rfl)
 (hst:tN s.st st':=by exact XS) (hp:kZ C.st st':=by exact VY) (hle:PV.Le p q:=by exact jN) (hk:PV.okIn st' q=true:=by exact rfl):DX P C n fn R e s:=DX.mk he hr rfl hst hp hle hk hR
theorem qe2{fn:Func}{R:PV→c5→Prop}{e:Exit}{p1 p2 q:PV}{st':c5}(hR:R q st':=by exact⟨rfl,rfl⟩)(hr:U0 P s fn.results.toList [p1,p2]:=by exact⟨rfl,rfl,trivial⟩)(he:e= .normal∨e= .ret:=by first|exact .inr rfl|exact .inl rfl)
 (hst:tN s.st st':=by exact XS) (hp:kZ C.st st':=by exact VY) (hle:PV.Le (.tup [p1,p2]) q:=by exact jN) (hk:PV.okIn st' q=true:=by exact rfl):DX P C n fn R e s:=DX.mk he hr rfl hst hp hle hk hR
theorem gL(i:Nat){p:PV}{sz:Nat}{es:List (List Tr)}{N:Nat}{c:Code}(hl:es.length=N)(k:N≤9223372036854775807→cQ P C n c Q s)(hx:s.lk i=some p:=by exact rfl)(hp:lX p=some (sz,es):=by exact rfl):cQ P C n c Q s:=cQ.fact (acA i hx hp hl) k
theorem szF(i:Nat){v:ByteArray}{c:Code}(k:v.size≤9223372036854775807→cQ P C n c Q s)(hx:s.lk i=some (.t (.leaf (.string v))):=by exact rfl):cQ P C n c Q s:=cQ.fact (fun m a w h=>by
 obtain⟨u,-,hr⟩:=h.env i _ hx
 have h1:v.size≤maxLen:=(cF.leaf_eq hr).2
 unfold maxLen at h1
 omega) k
theorem YQ(i:Nat){p:PV}{sz:Nat}{es:List (List Tr)}{N:Nat}{ops:Array Oper}{l:List Oper}(hl:es.length=N)(k:N≤9223372036854775807→AL P C n ops l Q s)(hx:s.lk i=some p:=by exact rfl)(hp:lX p=some (sz,es):=by exact rfl):AL P C n ops l Q s:=AL.fact (acA i hx hp hl) k
end
section
variable {P:Program} {C:oP} {n:Nat}
theorem dk{D:jP}{i j lo hi:Nat}{o:Oper}{b c e:Bool}(hv:b=e)(hg:o.guard=some (j,c):=by exact rfl)(hj:D.out j=some (.t (.leaf (.bool b))):=by exact rfl)(hk:D.kind i= .q lo hi:=by exact rfl)(hne:(e==c)=false:=by exact rfl)(ho:D.out i=some (.tup []):=by exact rfl)(hd:bI o.dst n=true:=by exact rfl):D.step P C n i o:=
 .inr ⟨by subst hv;unfold jP.want;rw [hg];dsimp only;rw [hj];dsimp only;rw [hne],⟨_,_,hk⟩,.inr ⟨ho,hd⟩⟩
end
def pk{α:Type}[Inhabited α](l:List α)(j:Nat):α:=l.getD j (l.getLastD default)
instance:Inhabited DS:=⟨⟨[],0,0⟩⟩
instance:Inhabited PV:=⟨.nil⟩
instance:Inhabited c5:=⟨⟨[],[]⟩⟩
instance:Inhabited nR:=⟨⟨0,0,[],false⟩⟩
def evA(s:AS):List Operand→Option (List PV)
 | []=>some []
 |x::xs=>match s.ev x with
  |some p=>match evA s xs with
   |some ps=>some (p::ps)
   |none=>none
  |none=>none
theorem JE{s:AS}: ∀ {xs:List Operand} {ps:List PV},evA s xs=some ps→xs.map s.ev=ps.map some
 | [],ps,h=>by cases h;rfl
 |x::xs,ps,h=>by
  unfold evA at h
  split at h
  ·rename_i p hp
   split at h
   ·rename_i qs hq
    cases h
    rw [List.map_cons,List.map_cons,hp,JE hq]
   ·cases h
  ·cases h
section
variable {P:Program} {C:oP} {n:Nat} {s:AS} {o:Oper}
theorem bF{x:Operand}{p:PV}(ho:o.op= .move x∨o.op= .assign x:=by first|exact .inl rfl|exact .inr rfl)(hd:bI o.dst n=true:=by exact rfl)(hx:s.ev x=some p:=by exact rfl):bB P C n o s (s.putO o.dst p):=bB.move ho hd hx
theorem rL1{T:TypeId}{x:Operand}{k d z:Nat}{bx:c7}{p:PV}(hT:iX P T=some (false,z))(ho:o.op= .load T x:=by exact rfl)(hd:bI o.dst n=true:=by exact rfl)(hx:s.ev x=some (.ptr k d):=by exact rfl)(hb:s.st.boxes[k]?=some (some bx):=by exact rfl)(hc:bx.cells[d]?=some p:=by exact rfl):bB P C n o s (s.putO o.dst p):=bB.loadPtr1 ho hd hx hb hT hc
theorem rLp{T:TypeId}{x:Operand}{k d z:Nat}{bx:c7}(cs:List PV)(hT:iX P T=some (true,z))(ho:o.op= .load T x:=by exact rfl)(hd:bI o.dst n=true:=by exact rfl)(hx:s.ev x=some (.ptr k d):=by exact rfl)(hb:s.st.boxes[k]?=some (some bx):=by exact rfl)(hc:(bx.cells.drop d).take z=cs:=by exact rfl)(hl:cs.length=z:=by exact rfl):bB P C n o s (s.putO o.dst (.agg cs)):=bB.loadPtr ho hd hx hb hT hc hl
theorem rK1{T:TypeId}{x:Operand}{z:Nat}{d:Tr}{cs:List Tr}(hT:iX P T=some (false,z))(ho:o.op= .load T x:=by exact rfl)(hd:bI o.dst n=true:=by exact rfl)(hx:s.ev x=some (.eptr cs):=by exact rfl)(hc:cs[0]?=some d:=by exact rfl):bB P C n o s (s.putO o.dst (.t d)):=bB.loadEptr1 ho hd hx hT hc
theorem rKe{T:TypeId}{x:Operand}{z:Nat}{cs:List Tr}(ds:List Tr)(hT:iX P T=some (true,z))(ho:o.op= .load T x:=by exact rfl)(hd:bI o.dst n=true:=by exact rfl)(hx:s.ev x=some (.eptr cs):=by exact rfl)(hc:cs.take z=ds:=by exact rfl)(hl:ds.length=z:=by exact rfl):bB P C n o s (s.putO o.dst (.agg (ds.map PV.t))):=bB.loadEptr ho hd hx hT hc hl
theorem rFp{T:TypeId}{x:Operand}{f k d e:Nat}(hf:s6 P T f=some e)(ho:o.op= .fieldAddr T x f:=by exact rfl)(hd:bI o.dst n=true:=by exact rfl)(hx:s.ev x=some (.ptr k d):=by exact rfl):bB P C n o s (s.putO o.dst (.ptr k (d+e))):=bB.fieldPtr ho hd hx hf
theorem rFe{T:TypeId}{x:Operand}{f e:Nat}{cs:List Tr}(hf:s6 P T f=some e)(ho:o.op= .fieldAddr T x f:=by exact rfl)(hd:bI o.dst n=true:=by exact rfl)(hx:s.ev x=some (.eptr cs):=by exact rfl):bB P C n o s (s.putO o.dst (.eptr (cs.drop e))):=bB.fieldEptr ho hd hx hf
theorem rAl{T:TypeId}{ps:List PV}(hz:iK P T=some ps)(ho:o.op= .alloc T:=by exact rfl)(hd:bI o.dst n=true:=by exact rfl):bB P C n o s ((⟨s.env,s.st.addBox ⟨T,ps⟩⟩:AS).putO o.dst (.ptr s.st.boxes.length 0)):=bB.alloc ho hd hz
theorem eX{T:TypeId}{x:Operand}{p:PV}(cs:List PV)(ho:o.op= .box T x:=by exact rfl)(hd:bI o.dst n=true:=by exact rfl)(hx:s.ev x=some p:=by exact rfl)(hc:vR p=cs:=by exact rfl)(ht:u6 p=true:=by exact rfl):bB P C n o s ((⟨s.env,s.st.addBox ⟨T,cs⟩⟩:AS).putO o.dst (.ptr s.st.boxes.length 0)):=bB.box ho hd hx hc ht
theorem rSu{T:TypeId}{x y:Operand}{k d:Nat}{bx:c7}{p:PV}{cs ds:List PV}(hT:(P.info? T).map (·.size)=some cs.length)(ho:o.op= .store T x y:=by exact rfl)(hx:s.ev x=some (.ptr k d):=by exact rfl)(hb:s.st.boxes[k]?=some (some bx):=by exact rfl)(hy:s.ev y=some p:=by exact rfl)(hc:vR p=cs:=by exact rfl)(ht:u6 p=true:=by exact rfl)(hf:H3 cs=true:=by exact rfl)
 (hfit:d+cs.length≤bx.cells.length:=by exact Nat.le_of_ble_eq_true rfl) (hds:bx.cells.take d++cs++bx.cells.drop (d+cs.length)=ds:=by exact rfl):bB P C n o s ((⟨s.env,s.st.setBox k ⟨bx.ty,ds⟩⟩:AS).delO o.dst):=bB.storePtr ho hx hb hy hc ht hf hT hfit hds
theorem rLn{T:TypeId}{x:Operand}{p:PV}{sz N:Nat}{es:List (List Tr)}{E:Nat×Nat×Nat}(hT:elemOf? P T=some E)(hl:es.length=N)(ho:o.op= .call { callee:= .builtin .len,args:= #[x],argTypes:= #[T] }:=by exact rfl)(hd:bI o.dst n=true:=by exact rfl)(hx:s.ev x=some p:=by exact rfl)(hp:lX p=some (sz,es):=by exact rfl):bB P C n o s (s.putO o.dst (.t (.leaf (.int .i64 (N:Int))))):=bB.lenN ho hd hx hp hT hl
theorem rEq{T yT:TypeId}{x y:Operand}{k:IntKind}{a b:Int}(ho:o.op= .binOp .eql T x y yT:=by exact rfl)(hd:bI o.dst n=true:=by exact rfl)(hx:s.ev x=some (.t (.leaf (.int k a))):=by exact rfl)(hy:s.ev y=some (.t (.leaf (.int k b))):=by exact rfl):bB P C n o s (s.putO o.dst (.t (.leaf (.bool (decide (a=b)))))):=bB.eqlI ho hd hx hy
theorem rNe{T yT:TypeId}{x y:Operand}{k:IntKind}{a b:Int}(ho:o.op= .binOp .neq T x y yT:=by exact rfl)(hd:bI o.dst n=true:=by exact rfl)(hx:s.ev x=some (.t (.leaf (.int k a))):=by exact rfl)(hy:s.ev y=some (.t (.leaf (.int k b))):=by exact rfl):bB P C n o s (s.putO o.dst (.t (.leaf (.bool (!decide (a=b)))))):=bB.neqI ho hd hx hy
theorem rLt{T yT:TypeId}{x y:Operand}{k:IntKind}{a b:Int}(ho:o.op= .binOp .lss T x y yT:=by exact rfl)(hd:bI o.dst n=true:=by exact rfl)(hx:s.ev x=some (.t (.leaf (.int k a))):=by exact rfl)(hy:s.ev y=some (.t (.leaf (.int k b))):=by exact rfl):bB P C n o s (s.putO o.dst (.t (.leaf (.bool (decide (a<b)))))):=bB.lss ho hd hx hy
theorem rLe{T yT:TypeId}{x y:Operand}{k:IntKind}{a b:Int}(ho:o.op= .binOp .leq T x y yT:=by exact rfl)(hd:bI o.dst n=true:=by exact rfl)(hx:s.ev x=some (.t (.leaf (.int k a))):=by exact rfl)(hy:s.ev y=some (.t (.leaf (.int k b))):=by exact rfl):bB P C n o s (s.putO o.dst (.t (.leaf (.bool (decide (a≤b)))))):=bB.leq ho hd hx hy
theorem rGt{T yT:TypeId}{x y:Operand}{k:IntKind}{a b:Int}(ho:o.op= .binOp .gtr T x y yT:=by exact rfl)(hd:bI o.dst n=true:=by exact rfl)(hx:s.ev x=some (.t (.leaf (.int k a))):=by exact rfl)(hy:s.ev y=some (.t (.leaf (.int k b))):=by exact rfl):bB P C n o s (s.putO o.dst (.t (.leaf (.bool (decide (a>b)))))):=bB.gtr ho hd hx hy
theorem rGe{T yT:TypeId}{x y:Operand}{k:IntKind}{a b:Int}(ho:o.op= .binOp .geq T x y yT:=by exact rfl)(hd:bI o.dst n=true:=by exact rfl)(hx:s.ev x=some (.t (.leaf (.int k a))):=by exact rfl)(hy:s.ev y=some (.t (.leaf (.int k b))):=by exact rfl):bB P C n o s (s.putO o.dst (.t (.leaf (.bool (decide (a≥b)))))):=bB.geq ho hd hx hy
theorem rSe{T yT:TypeId}{x y:Operand}{a b:ByteArray}(ho:o.op= .binOp .eql T x y yT:=by exact rfl)(hd:bI o.dst n=true:=by exact rfl)(hx:s.ev x=some (.t (.leaf (.string a))):=by exact rfl)(hy:s.ev y=some (.t (.leaf (.string b))):=by exact rfl):bB P C n o s (s.putO o.dst (.t (.leaf (.bool (decide (a=b)))))):=bB.eqlS ho hd hx hy
theorem rSn{T yT:TypeId}{x y:Operand}{a b:ByteArray}(ho:o.op= .binOp .neq T x y yT:=by exact rfl)(hd:bI o.dst n=true:=by exact rfl)(hx:s.ev x=some (.t (.leaf (.string a))):=by exact rfl)(hy:s.ev y=some (.t (.leaf (.string b))):=by exact rfl):bB P C n o s (s.putO o.dst (.t (.leaf (.bool (!decide (a=b)))))):=bB.neqS ho hd hx hy
theorem JS{T:TypeId}{x:Operand}{b:Bool}(ho:o.op= .unOp .not T x:=by exact rfl)(hd:bI o.dst n=true:=by exact rfl)(hx:s.ev x=some (.t (.leaf (.bool b))):=by exact rfl):bB P C n o s (s.putO o.dst (.t (.leaf (.bool (!b))))):=bB.notB ho hd hx
theorem rAw{T yT:TypeId}{x y:Operand}{k:IntKind}{a b:Int}(ho:o.op= .binOp .add T x y yT:=by exact rfl)(hd:bI o.dst n=true:=by exact rfl)(hx:s.ev x=some (.t (.leaf (.int k a))):=by exact rfl)(hy:s.ev y=some (.t (.leaf (.int k b))):=by exact rfl):bB P C n o s (s.putO o.dst (.t (.leaf (.int k (k.wrap (a+b)))))):=bB.addW ho hd hx hy
theorem rSw{T yT:TypeId}{x y:Operand}{k:IntKind}{a b:Int}(ho:o.op= .binOp .sub T x y yT:=by exact rfl)(hd:bI o.dst n=true:=by exact rfl)(hx:s.ev x=some (.t (.leaf (.int k a))):=by exact rfl)(hy:s.ev y=some (.t (.leaf (.int k b))):=by exact rfl):bB P C n o s (s.putO o.dst (.t (.leaf (.int k (k.wrap (a-b)))))):=bB.subW ho hd hx hy
theorem rIx{α:Type}[Inhabited α][TC α]{l:List α}{T E sz by_:Nat}{x i:Operand}{p:PV}{k:Nat}(h:k<l.length)(hT:elemOf? P T=some (E,sz,by_))(ho:o.op= .indexAddr T x i:=by exact rfl)(hd:bI o.dst n=true:=by exact rfl)(hx:s.ev x=some p:=by exact rfl)(hp:lX p=some (sz,TC.trs l):=by exact rfl)(hi:s.ev i=some (.t (.leaf (.int .i64 (k:Int)))):=by exact rfl):bB P C n o s (s.putO o.dst (.eptr (TC.cs (aT l k)))):=bB.index ho hd hx hp hi (TC.at_ h) hT
theorem rIy{α:Type}[Inhabited α][TC α]{l:List α}{T E sz by_:Nat}{x i:Operand}{p:PV}{y:Int}(h:0≤y∧y.toNat<l.length)(hT:elemOf? P T=some (E,sz,by_))(ho:o.op= .indexAddr T x i:=by exact rfl)(hd:bI o.dst n=true:=by exact rfl)(hx:s.ev x=some p:=by exact rfl)(hp:lX p=some (sz,TC.trs l):=by exact rfl)(hi:s.ev i=some (.t (.leaf (.int .i64 y))):=by exact rfl):bB P C n o s (s.putO o.dst (.eptr (TC.cs (aT l y.toNat)))):=bB.indexI ho hd hx hp hi h.1 (TC.at_ h.2) hT
theorem rIn{α:Type}[Inhabited α][TC α]{l:List α}{T E sz by_:Nat}{x i:Operand}{p:PV}{k:Nat}{z:α}(hz:z=aT l k)(h:k<l.length)(hT:elemOf? P T=some (E,sz,by_))(ho:o.op= .indexAddr T x i:=by exact rfl)(hd:bI o.dst n=true:=by exact rfl)(hx:s.ev x=some p:=by exact rfl)(hp:lX p=some (sz,TC.trs l):=by exact rfl)(hi:s.ev i=some (.t (.leaf (.int .i64 (k:Int)))):=by exact rfl):bB P C n o s (s.putO o.dst (.eptr (TC.cs z))):=by
 subst hz
 exact rIx h hT ho hd hx hp hi
theorem rIm{α:Type}[Inhabited α][TC α]{l:List α}{T E sz by_:Nat}{x i:Operand}{p:PV}{y:Int}{z:α}(hz:z=aT l y.toNat)(h:0≤y∧y.toNat<l.length)(hT:elemOf? P T=some (E,sz,by_))(ho:o.op= .indexAddr T x i:=by exact rfl)(hd:bI o.dst n=true:=by exact rfl)(hx:s.ev x=some p:=by exact rfl)(hp:lX p=some (sz,TC.trs l):=by exact rfl)(hi:s.ev i=some (.t (.leaf (.int .i64 y))):=by exact rfl):bB P C n o s (s.putO o.dst (.eptr (TC.cs z))):=by
 subst hz
 exact rIy h hT ho hd hx hp hi
theorem rF1{T:TypeId}{x:Operand}{f e z:Nat}{cs:List PV}{p:PV}(hf:vS P T f=some (e,false,z))(ho:o.op= .field T x f:=by exact rfl)(hd:bI o.dst n=true:=by exact rfl)(hx:s.ev x=some (.agg cs):=by exact rfl)(hc:cs[e]?=some p:=by exact rfl):bB P C n o s (s.putO o.dst p):=bB.field1 ho hd hx hf hc
theorem YR{x:Operand}{i:Nat}{ps:List PV}{p:PV}(ho:o.op= .extract x i:=by exact rfl)(hd:bI o.dst n=true:=by exact rfl)(hx:s.ev x=some (.tup ps):=by exact rfl)(hi:ps[i]?=some p:=by exact rfl):bB P C n o s (s.putO o.dst p):=bB.extract ho hd hx hi
theorem rBd{T:TypeId}{parts:Array (Nat×Operand)}{ps:List (Nat×List PV)}{zs cs:List PV}{places:List (Nat×Nat)}(hz:iK P T=some zs)(hpl:OV P T=some places)(ho:o.op= .build T parts:=by exact rfl)(hd:bI o.dst n=true:=by exact rfl)(hp:mB s parts.toList=some ps:=by exact rfl)(hc:sS (fun i=>places.toArray[i]?) zs ps=some cs:=by exact rfl):bB P C n o s (s.putO o.dst (.agg cs)):=bB.build ho hd hz hpl hp hc
theorem rBs{α:Type}[Inhabited α][TC α]{T E by_ len:Nat}{parts:Array (Nat×Operand)}{ps:List (Nat×List PV)}{zs cs:List PV}(l:List α)(hT:elemOf? P T=some (E,TC.sz α,by_))(hz:iK P E=some zs)(ho:o.op= .buildSlice T len parts:=by exact rfl)(hd:bI o.dst n=true:=by exact rfl)(hp:mB s parts.toList=some ps:=by exact rfl)
 (hc:sS (fun i=>some (i*TC.sz α,TC.sz α)) (List.replicate len zs).flatten ps=some cs:=by exact rfl) (hle:s3 cs ((l.map TC.cs).flatten.map PV.t):=by exact jN) (hel:l.length=len:=by exact rfl) (hsz:0<TC.sz α:=by decide) (hzl:zs.length=TC.sz α:=by exact rfl) (hsm:len*TC.sz α≤16777216:=by decide):bB P C n o s (s.putO o.dst (.t (.row (TC.sz α) (TC.trs l)))):=
 bB.buildSliceE (es:=l.map TC.cs) ho hd hT hz hp hc hle (by rw [List.length_map];exact hel) (fun e he=>TC.all l e (by rw [TC.map];exact he)) hsz hzl hsm (TC.map l).symm
theorem rBl{α:Type}[Inhabited α][TC α]{T E by_ len:Nat}{parts:Array (Nat×Operand)}{ps:List (Nat×List PV)}{zs cs:List PV}(l:List α)(hT:elemOf? P T=some (E,TC.sz α,by_))(hz:iK P E=some zs)(ho:o.op= .buildSlice T len parts:=by exact rfl)(hd:bI o.dst n=true:=by exact rfl)(hp:mB s parts.toList=some ps:=by exact rfl)
 (hc:sS (fun i=>some (i*TC.sz α,TC.sz α)) (List.replicate len zs).flatten ps=some cs:=by exact rfl) (hle:s3 cs ((l.map TC.cs).flatten.map PV.t):=by exact jN) (hel:l.length=len:=by exact rfl) (hsz:0<TC.sz α:=by decide) (hzl:zs.length=TC.sz α:=by exact rfl) (hsm:len*TC.sz α≤16777216:=by decide):bB P C n o s (s.putO o.dst (.lit (TC.sz α) (TC.trs l))):=
 bB.buildSliceLE (es:=l.map TC.cs) ho hd hT hz hp hc hle (by rw [List.length_map];exact hel) (fun e he=>TC.all l e (by rw [TC.map];exact he)) hsz hzl hsm (TC.map l).symm
theorem rBa{α:Type}[Inhabited α][TC α]{T E by_ len:Nat}{parts:Array (Nat×Operand)}{ps:List (Nat×List PV)}{zs cs:List PV}(l:List α)(hT:elemOf? P T=some (E,TC.sz α,by_))(hz:iK P E=some zs)(ho:o.op= .buildSlice T len parts:=by exact rfl)(hd:bI o.dst n=true:=by exact rfl)(hp:mB s parts.toList=some ps:=by exact rfl)
 (hc:sS (fun i=>some (i*TC.sz α,TC.sz α)) (List.replicate len zs).flatten ps=some cs:=by exact rfl) (hle:s3 cs ((l.map TC.cs).flatten.map PV.t):=by exact jN) (hel:l.length=len:=by exact rfl) (hsz:0<TC.sz α:=by decide) (hzl:zs.length=TC.sz α:=by exact rfl) (hsm:len*TC.sz α≤16777216:=by decide):bB P C n o s ((⟨s.env,s.st.addRow ⟨E,TC.sz α,TC.trs l,false⟩⟩:AS).putO o.dst (.acc (TC.sz α) (TC.trs l) s.st.rows.length)):=
 bB.buildSliceA (es:=l.map TC.cs) ho hd hT hz hp hc hle (by rw [List.length_map];exact hel) (fun e he=>TC.all l e (by rw [TC.map];exact he)) hsz hzl hsm (TC.map l).symm
theorem rAp{α:Type}[Inhabited α][TC α]{T E by_:Nat}{x y:Operand}{a b:List α}{r:Nat}{row:nR}{p:PV}(h:a.length+b.length≤68719476736)(hT:elemOf? P T=some (E,TC.sz α,by_))(hz:(P.info? E).bind (fun i=>i.zero.map (fun z=>z.cells.size))=some (TC.sz α))(ho:o.op= .call { callee:= .builtin .append,args:= #[x,y],argTypes:= #[T,T] }:=by exact rfl)(hd:bI o.dst n=true:=by exact rfl)
 (hx:s.ev x=some (.acc (TC.sz α) (TC.trs a) r):=by exact rfl) (hrow:s.st.rows[r]?=some row:=by exact rfl) (hes:row.es=TC.trs a:=by exact rfl) (hE:row.E=E:=by exact rfl) (hw:row.whole=false:=by exact rfl) (hy:s.ev y=some p:=by exact rfl) (hp:lX p=some (TC.sz α,TC.trs b):=by exact rfl)
 (hb:0<by_:=by decide) (hb2:by_≤2048:=by decide):bB P C n o s ((⟨s.env,s.st.setRow r { row with es:=TC.trs (a++b) }⟩:AS).putO o.dst (.acc (TC.sz α) (TC.trs (a++b)) r)):=
 bB.appendE ho hd hx hrow hes hE hw hy hp (TC.all b) hT hz hb (by rw [TC.len,TC.len];exact CQ h hb2) (TC.app a b)
theorem rMf{f:FuncId}{cap:Array Operand}{ps:List PV}(ho:o.op= .makeFunc (.func f) #[] cap:=by exact rfl)(hd:bI o.dst n=true:=by exact rfl)(hc:evA s cap.toList=some ps:=by exact rfl):bB P C n o s (s.putO o.dst (.fn f ps)):=bB.makeFunc ho hd (JE hc)
theorem uL{x:Operand}{k d:Nat}(ho:o.op= .nilCheck x:=by exact rfl)(hd:bI o.dst n=true:=by exact rfl)(hx:s.ev x=some (.ptr k d):=by exact rfl):bB P C n o s (s.putO o.dst (.ptr k d)):=bB.nilPtr ho hd hx
theorem rNf{x:Operand}{f:FuncId}{cs:List PV}(ho:o.op= .nilCheck x:=by exact rfl)(hd:bI o.dst n=true:=by exact rfl)(hx:s.ev x=some (.fn f cs):=by exact rfl):bB P C n o s (s.putO o.dst (.fn f cs)):=bB.nilFn ho hd hx
theorem DV{x y z:Operand}{b:Bool}{p:PV}(hb:b=true)(ho:o.op= .pick x y z:=by exact rfl)(hd:bI o.dst n=true:=by exact rfl)(hx:s.ev x=some (.t (.leaf (.bool b))):=by exact rfl)(hy:s.ev y=some p:=by exact rfl):bB P C n o s (s.putO o.dst p):=bB.pickT ho hd hx hb hy
theorem F5{x y z:Operand}{b:Bool}{p:PV}(hb:b=false)(ho:o.op= .pick x y z:=by exact rfl)(hd:bI o.dst n=true:=by exact rfl)(hx:s.ev x=some (.t (.leaf (.bool b))):=by exact rfl)(hy:s.ev z=some p:=by exact rfl):bB P C n o s (s.putO o.dst p):=bB.pickF ho hd hx hb hy
theorem bE{f:FuncId}{fn:Func}{xs:List Operand}{ts:Array TypeId}{ps qs:List PV}{res:PV}(hf:P.funcs[f]?=some fn)(hc:bR P f qs res)(ho:o.op= .call { callee:= .value (.func f),args:=⟨xs⟩,argTypes:=ts }:=by exact rfl)(hd:bI o.dst n=true:=by exact rfl)(hnm:(fn.name== "runtime.NumGoroutine")=false:=by kernel_rfl)(hb:fn.body.isNone=false:=by exact rfl)
 (hx:evA s xs=some ps:=by exact rfl) (hle:s3 ps qs:=by exact jN) (h1:kJ qs=true:=by exact rfl) (h2:PV.free res=true:=by exact rfl):bB P C n o s (s.putO o.dst res):=bB.callF ho hd hf hnm hb (JE hx) hle h1 h2 hc
theorem rCv{y:Operand}{f:FuncId}{fn:Func}{xs:List Operand}{ts:Array TypeId}{ps cs qs:List PV}{res:PV}(hf:P.funcs[f]?=some fn)(hc:bR P f qs res)(ho:o.op= .call { callee:= .value y,args:=⟨xs⟩,argTypes:=ts }:=by exact rfl)(hd:bI o.dst n=true:=by exact rfl)(hy:s.ev y=some (.fn f cs):=by exact rfl)(hnm:(fn.name== "runtime.NumGoroutine")=false:=by kernel_rfl)(hb:fn.body.isNone=false:=by exact rfl)
 (hx:evA s xs=some ps:=by exact rfl) (hle:s3 (ps++cs) qs:=by exact jN) (h1:kJ qs=true:=by exact rfl) (h2:PV.free res=true:=by exact rfl):bB P C n o s (s.putO o.dst res):=bB.callV ho hd hy hf hnm hb (JE hx) hle h1 h2 hc
theorem as2{S pre:c5}{fb fr:List Nat}(hb:rX S fb fr pre fb pre.boxes:=by repeat' (first|exact trivial|refine⟨⟨_,rfl,rfl,jN,rfl⟩,?_⟩))(hr:uO S fr pre.rows:=by repeat' (first|exact trivial|refine⟨rfl,?_⟩))(h1:fb.Nodup:=by decide)(h2:fr.Nodup:=by decide):eZ S pre fb fr:=eZ.of hb hr h1 h2
theorem eU{f:FuncId}{fn:Func}{xs:List Operand}{ts:Array TypeId}{ps qs:List PV}{res:PV}{pre st':c5}(fb fr:List Nat)(hf:P.funcs[f]?=some fn)(hc:b7 P f qs pre (fun r t=>r=res∧t=st'))(ho:o.op= .call { callee:= .value (.func f),args:=⟨xs⟩,argTypes:=ts }:=by exact rfl)(hd:bI o.dst n=true:=by exact rfl)(hnm:(fn.name== "runtime.NumGoroutine")=false:=by kernel_rfl)(hb:fn.body.isNone=false:=by exact rfl)
 (hx:evA s xs=some ps:=by exact rfl) (hp:eZ s.st pre fb fr:=by exact as2) (hle:s3 ps (DN fb fr qs):=by exact jN) (hok:mA pre qs=true:=by exact rfl) (hbl:st'.boxes.length=pre.boxes.length:=by exact rfl) (hrl:st'.rows.length=pre.rows.length:=by exact rfl):bB P C n o s ((⟨s.env,s.st.over st' fb fr⟩:AS).putO o.dst (PV.ren fb fr res)):=bB.callPE fb fr ho hd hf hnm hb (JE hx) rfl hp hle hok hbl hrl hc
end
theorem dne{x a b:Int}(h:decide (x=a)=true)(hab:a≠b):decide (x=b)=false:=by
 rw [of_decide_eq_true h]
 exact decide_eq_false hab
theorem akQ{x b:Int}(h:(decide (x=2)||decide (x=3))=true)(h2:2≠b)(h3:3≠b):decide (x=b)=false:=by
 rw [Bool.or_eq_true,decide_eq_true_eq,decide_eq_true_eq] at h
 refine decide_eq_false fun e=>?_
 omega
theorem aqP{x:Int}(h:(decide (x=2)||decide (x=3))=true)(h2:decide (x=2)=false):decide (x=3)=true:=by
 rw [h2,Bool.false_or] at h
 exact h
theorem asX{x:Int}(h:(decide (x=2)||decide (x=3))=false):decide (x=2)=false:=(Bool.or_eq_false_iff.1 h).1
theorem asY{x:Int}(h:(decide (x=2)||decide (x=3))=false):decide (x=3)=false:=(Bool.or_eq_false_iff.1 h).2
theorem bB.appendLitBE{P:Program}{C:oP}{n:Nat}{s:AS}{o:Oper}{T E sz by_:Nat}{x y:Operand}{es1 es2 es3:List (List Tr)}{cs:List PV}{p:PV}{len:Nat}(ho:o.op= .call { callee:= .builtin .append,args:= #[x,y],argTypes:= #[T,T] })(hd:bI o.dst n=true)
 (hx:s.ev x=some (.lit sz es1)) (hy:s.ev y=some p) (hp:lX p=some (sz,es2)) (h1: ∀e∈es1,e.length=sz) (h2: ∀e∈es2,e.length=sz) (hne:es2≠ []) (hsz:0<sz)
 (hT:elemOf? P T=some (E,sz,by_)) (hz:(P.info? E).bind (fun i=>i.zero.map (fun z=>z.cells.size))=some sz) (hb:0<by_) (hlen:(es1.length+es2.length)*by_≤140737488355328) (h3:es1++es2=es3) (hcs:es3.flatten.map PV.t=cs) (hl:es1.length+es2.length=len):
 bB P C n o s ((⟨s.env,s.st.addBox ⟨E,cs⟩⟩:AS).putO o.dst (.gsl s.st.boxes.length len)):=bB.appendLitB ho hd hx hy hp h1 h2 hne hsz hT hz hb hlen (by rw [h3];exact hcs) hl
section
variable {P:Program} {C:oP} {n:Nat} {s:AS} {Q:Exit→AS→Prop}
abbrev LB:=List ByteArray
theorem qW{id:Nat}{l:List Oper}{y:Code}(h:AL P C n l.toArray l (XZ (cQ P C n y Q) Q) s):cQ P C n (.seq (.region id l.toArray false) y) Q s:=qS (qR h)
theorem qZ{ops:Array Oper}(h:Q .ret s):AL P C n ops [] (XZ (cQ P C n .ret Q) Q) s:=qN (cQ.ret h)
theorem rAd{o:Oper}{T yT:TypeId}{x y:Operand}{a b:Int}(c:Nat)(ho:o.op= .binOp .add T x y yT:=by exact rfl)(hd:bI o.dst n=true:=by exact rfl)(hx:s.ev x=some (.t (.leaf (.int .i64 a))):=by exact rfl)(hy:s.ev y=some (.t (.leaf (.int .i64 b))):=by exact rfl)(hc:a+b=((c:Nat):Int):=by omega)(hb: -9223372036854775808≤((c:Nat):Int)∧((c:Nat):Int)≤9223372036854775807:=by omega):bB P C n o s (s.putO o.dst (.t (.leaf (.int .i64 ((c:Nat):Int))))):=bB.addI ho hd hx hy hc hb
end
theorem qJ{β:Type}{m:Option β}{r:β}{P:Program}{f:FuncId}{fn:Func}{c:Code}{args:List PV}{pre:c5}{R:PV→c5→Prop}(hf:P.funcs[f]?=some fn)(H:m=some r)(h: ∀C:oP,C.st=pre→Hd m (fun v=>v=r)→cQ P C fn.ntmps c (DX P C fn.ntmps fn R) ⟨HX 0 args,pre⟩)(hb:fn.body=some c:=by exact rfl)(hn:args.length≤fn.ntmps:=by first|decide|(simp;done)|(simp;decide)):b7 P f args pre R:=qI hf (fun C hC=>h C hC (hd0 H)) hb hn
end Go.Proofs.YtfcoaagbccmahaaGreat

namespace Go.Proofs.YtfcoaagbccmahaaGreat
open Go.RowKit Go.WalkArith Go.IntWalk Go.WideShapes
section
variable {P:Program} {C:oP} {n:Nat} {o:Oper}
theorem am3{a:Act}{K1 K:Act→World→Prop}{Q:Exit→Act→World→Prop}(hv: ∀v w',K1 (a.put o.dst v) w'→K (a.put o.dst v) w')
 (hd: ∀d w',K1 (({ a with defers:=d::a.defers }:Act).put o.dst undef) w'→K (({ a with defers:=d::a.defers }:Act).put o.dst undef) w'): ∀r,o.upon P a K1 Q r→o.upon P a K Q r:=by
 intro r h
 cases r with
 |ok x w'=>
  cases x with
  |value v=>exact hv v w' h
  |skip=>exact hv undef w' h
  |defer d=>exact hd d w' h
  |enter f args=>
   refine Calls.mono h fun e w'' he=>?_
   cases e with
   |returned v=>exact hv v w'' he
   |panicked c=>exact he
   |outgrown=>exact he
  |row r args=>exact Rows.mono h fun v w'' he=>hv v w'' he
  |_=>exact h
 |halt x w'=>
  cases x with
  |panic v=>exact h
  |_=>exact h
theorem acB(s:AS)(d:Nat)(p:PV)(i:Nat):(s.putO (some d) p).lk i=if i=d then some p else s.lk i:=AS.lk_put s d i p
theorem bB.frame{E:List (Nat×PV)}{st st1:c5}{p:PV}{s':AS}(h: ∀C',bB P C' n o ⟨E,st⟩ ((⟨E,st1⟩:AS).putO o.dst p))(hst:s'.st=st)(hl: ∀t q,E.lookup t=some q→s'.lk t=some q):
 bB P C n o s' ((⟨s'.env,st1⟩:AS).putO o.dst p):=fun m a w hr K Q hK=>by
 subst hst
 have hr':RA ⟨C.av,s'.st,m,w⟩ n ⟨E,s'.st⟩ m a w:=⟨hr.dfr,hr.tsz,hr.sto,fun i q hq=>hr.env i q (hl i q hq),Ev.refl _ _ _⟩
 have h1:=h ⟨C.av,s'.st,m,w⟩ m a w hr' (fun a' w'=> ∃m',RA ⟨C.av,s'.st,m,w⟩ n ((⟨E,st1⟩:AS).putO o.dst p) m' a' w') Q (fun m' a' w' h=>⟨m',h⟩)
 unfold Oper.wp at h1 ⊢
 refine am3 (fun v w'=>?_) (fun d w'=>?_) _ h1
 ·rintro⟨m',h2⟩
  refine hK m' _ w' ?_
  have key: ∀(dst:Option Nat),dst=o.dst→RA C n ((⟨s'.env,st1⟩:AS).putO dst p) m' (a.put dst v) w':=fun dst hdst=>by
   rw [← hdst] at h2
   cases dst with
   |none=>
    have hE:Ev s'.st m w st1 m' w':=h2.ev
    exact⟨h2.dfr,h2.tsz,h2.sto,fun i q hq=>by
     obtain⟨v',hv',hrv⟩:=hr.env i q hq
     exact⟨v',hv',RV.mono hE q v' hrv⟩,hr.ev.trans hE⟩
   |some d=>
    have hE:Ev s'.st m w st1 m' w':=h2.ev
    refine⟨h2.dfr,h2.tsz,h2.sto,fun i q hq=>?_,hr.ev.trans hE⟩
    rw [acB] at hq
    by_cases hi:i=d
    ·rw [if_pos hi] at hq
     cases hq
     exact h2.env i _ (by rw [acB,if_pos hi])
    ·rw [if_neg hi] at hq
     obtain⟨v',hv',hrv⟩:=hr.env i q hq
     exact⟨v',by simp only [Act.put];rw [Array.getElem?_setIfInBounds_ne (fun e=>hi e.symm)];exact hv',RV.mono hE q v' hrv⟩
  exact key o.dst rfl
 ·rintro⟨m',h2⟩
  have h3:=h2.dfr
  have h4:(({ a with defers:=d::a.defers }:Act).put o.dst undef).defers=d::a.defers:=by
   cases o.dst<;>rfl
  rw [h4] at h3
  cases h3
theorem bB.frame0{E:List (Nat×PV)}{st st1:c5}{s':AS}(hn:o.dst=none)(h: ∀C',bB P C' n o ⟨E,st⟩ ⟨E,st1⟩)(hst:s'.st=st)(hl: ∀t q,E.lookup t=some q→s'.lk t=some q):
 bB P C n o s' ⟨s'.env,st1⟩:=by
 have:=bB.frame (C:=C) (P:=P) (n:=n) (o:=o) (p:= .nil) (E:=E) (st:=st) (st1:=st1) (s':=s') (by rw [hn];exact h) hst hl
 rw [hn] at this
 exact this
structure DD where
 outs:List (Option PV)
 ks:List (Option DK)
 ins:List (List Nat)
 effs:List Nat
 fs:List (Option c7→c5)
 rds:List ((Nat×Nat)×Nat×Option (Option c7))
 az:Option (Nat×c7)
def DD.cz(g:DD):Option c7:=g.az.map (·.2)
def ab:Option c7→c5→c5
 |none,st=>st
 |some z,st=>st.addBox z
def LY:c5:=⟨[],[⟨0,0,[],false⟩]⟩
def tw(st:c5):Option c7→c5
 |none=>LY
 |some _=>st
theorem ao8{C:oP}{n:Nat}{env:List (Nat×PV)}{m:jT}{a:Act}{w:World}(h:RA C n ⟨env,LY⟩ m a w):False:=by
 have:=(h.sto.row 0 ⟨0,0,[],false⟩ rfl).1
 exact absurd this (by decide)
theorem bB.bad{P:Program}{C:oP}{n:Nat}{o:Oper}{s s1:AS}(hs:s.st=LY):bB P C n o s s1:=fun m a w hr K Q hK=>by
 obtain⟨env,st⟩:=s
 cases hs
 exact(ao8 hr).elim
theorem bB.away{P:Program}{C:oP}{n:Nat}{o:Oper}{s s1:AS}{t k off:Nat}(hl:s.lk t=some (.ptr k off))(hk:s.st.boxes[k]?=none):bB P C n o s s1:=fun m a w hr K Q hK=>by
 obtain⟨v,-,⟨x,hx⟩,-⟩:=hr.env t _ hl
 rw [hk] at hx
 cases hx
def rs(s:AS):List Nat→List (Nat×PV)
 | []=> []
 |t::ts=>match s.lk t with
  |some p=>(t,p)::rs s ts
  |none=>rs s ts
theorem ak2{s:AS}{t:Nat}{q:PV}: ∀ {I:List Nat},(rs s I).lookup t=some q→t∈I∧s.lk t=some q
 | [],h=>by cases h
 |x::I,h=>by
  unfold rs at h
  cases hx:s.lk x with
  |none=>
   rw [hx] at h
   obtain⟨h1,h2⟩:=ak2 (I:=I) h
   exact⟨.tail _ h1,h2⟩
  |some p=>
   rw [hx] at h
   dsimp only at h
   rw [List.lookup_cons] at h
   by_cases htx:t=x
   ·subst htx
    simp only [BEq.rfl] at h
    cases h
    exact⟨.head _,hx⟩
   ·rw [show(t==x)=false by simp [htx]] at h
    obtain⟨h1,h2⟩:=ak2 (I:=I) h
    exact⟨.tail _ h1,h2⟩
def abB(l:List Oper)(e0:List (Nat×PV))(outs:List (Option PV))(i t:Nat)(p:PV):Prop:=
 (∃(j:Nat) (o:Oper),j<i∧l[j]?=some o∧o.dst=some t∧outs[j]?=some (some p))∨(e0.lookup t=some p∧ ∀(j:Nat) (o:Oper),j<i→l[j]?=some o→o.dst≠some t)
inductive WD (l:List Oper) (e0:List (Nat×PV)) (outs:List (Option PV)) (i:Nat) (o:Oper):Bool→Prop
 |n:o.guard=none→WD l e0 outs i o true
 |y {j d:Nat} {b c:Bool}:o.guard=some (j,c)→(l[j]?).bind (·.dst)=some d→abB l e0 outs i d (.t (.leaf (.bool b)))→WD l e0 outs i o (b==c)
 |u {j d:Nat} {c:Bool}:o.guard=some (j,c)→(l[j]?).bind (·.dst)=some d→abB l e0 outs i d (.tup [])→WD l e0 outs i o false
inductive WS (l:List Oper) (s:AS) (o:Oper):Bool→Prop
 |n:o.guard=none→WS l s o true
 |y {j d:Nat} {b c:Bool}:o.guard=some (j,c)→(l[j]?).bind (·.dst)=some d→s.lk d=some (.t (.leaf (.bool b)))→WS l s o (b==c)
 |u {j d:Nat} {c:Bool}:o.guard=some (j,c)→(l[j]?).bind (·.dst)=some d→s.lk d=some (.tup [])→WS l s o false
inductive SJ (P:Program) (n N:Nat) (md:Bool) (g:DD) (i:Nat) (o:Oper) (E:List (Nat×PV)):Prop
 |q {p:PV}:g.ks[i]?=some none→g.outs[i]?=some (some p)→(∀C' st,bB P C' n o ⟨E,st⟩ ((⟨E,st⟩:AS).putO o.dst p))→SJ P n N md g i o E
 |r {lo hi k:Nat} {X:Option (Option c7)} {p:PV}:g.ks[i]?=some (some (.q lo hi))→g.outs[i]?=some (some p)→((lo,hi),k,X)∈g.rds→(md=true→k<N)→(∀C' (st:c5),st.boxes[k]?=X→bB P C' n o ⟨E,st⟩ ((⟨E,st⟩:AS).putO o.dst p))→SJ P n N md g i o E
 |c {j:Nat} {f:Option c7→c5} {p:PV}:g.ks[i]?=some (some (.q j j))→g.outs[i]?=some (some p)→g.fs[j]?=some f→(∀C' z,bB P C' n o ⟨E,f z⟩ ((⟨E,f z⟩:AS).putO o.dst p))→SJ P n N md g i o E
 |e {j:Nat} {f f1:Option c7→c5} {p:PV}:g.ks[i]?=some (some (.ef j))→g.outs[i]?=some (some p)→g.fs[j]?=some f→g.fs[j+1]?=some f1→(∀C' z,bB P C' n o ⟨E,f z⟩ ((⟨E,f1 z⟩:AS).putO o.dst p))→SJ P n N md g i o E
 |e0 {j:Nat} {f f1:Option c7→c5}:g.ks[i]?=some (some (.ef j))→o.dst=none→g.fs[j]?=some f→g.fs[j+1]?=some f1→(∀C' z,bB P C' n o ⟨E,f z⟩ ⟨E,f1 z⟩)→SJ P n N md g i o E
 |ea {j a t off:Nat} {zb:c7} {f f1:Option c7→c5}:g.az=some (a,zb)→g.ks[i]?=some (some (.ef j))→o.dst=none→g.fs[j]?=some f→g.fs[j+1]?=some f1→E.lookup t=some (.ptr N off)→(f none=LY∨(f none).boxes.length=N)→(∀C',bB P C' n o ⟨E,f (some zb)⟩ ⟨E,f1 (some zb)⟩)→SJ P n N md g i o E
 |al {zb:c7}:md=true→g.az=some (i,zb)→g.ks[i]?=some (some .al)→g.outs[i]?=some (some (.ptr N 0))→(∀C' st,st.boxes.length=N→bB P C' n o ⟨[],st⟩ ((⟨[],st.addBox zb⟩:AS).putO o.dst (.ptr N 0)))→SJ P n N md g i o E
inductive UQ (P:Program) (n N:Nat) (md:Bool) (l:List Oper) (e0:List (Nat×PV)) (g:DD) (i:Nat) (o:Oper):Prop
 |does {E:List (Nat×PV)} {I:List Nat}:WD l e0 g.outs i o true→g.ins[i]?=some I→(∀t q,E.lookup t=some q→t∈I∧abB l e0 g.outs i t q)→SJ P n N md g i o E→UQ P n N md l e0 g i o
 |skip:WD l e0 g.outs i o false→g.ks[i]?=some none→g.outs[i]?=some (some (.tup []))→bI o.dst n=true→UQ P n N md l e0 g i o
structure DD.le (g g':DD):Prop where
 outs: ∀(i:Nat) (x:Option PV),g.outs[i]?=some x→g'.outs[i]?=some x
 ks: ∀(i:Nat) (x:Option DK),g.ks[i]?=some x→g'.ks[i]?=some x
 ins: ∀(i:Nat) (x:List Nat),g.ins[i]?=some x→g'.ins[i]?=some x
 fs: ∀(i:Nat) (x:Option c7→c5),g.fs[i]?=some x→g'.fs[i]?=some x
 rds: ∀x∈g.rds,x∈g'.rds
 az: ∀x,g.az=some x→g'.az=some x
theorem SE{g g':DD}(h:g.le g'){l:List Oper}{e0:List (Nat×PV)}{i t:Nat}{p:PV}(k:abB l e0 g.outs i t p):abB l e0 g'.outs i t p:=by
 rcases k with⟨j,o,h1,h2,h3,h4⟩|k
 ·exact .inl ⟨j,o,h1,h2,h3,h.outs _ _ h4⟩
 ·exact .inr k
theorem ak8{g g':DD}(h:g.le g'){l:List Oper}{e0:List (Nat×PV)}{i:Nat}{o:Oper}{b:Bool}(k:WD l e0 g.outs i o b):WD l e0 g'.outs i o b:=by
 cases k with
 |n a=>exact .n a
 |y a b c=>exact .y a b (SE h c)
 |u a b c=>exact .u a b (SE h c)
theorem UQ.mono{N:Nat}{md:Bool}{l:List Oper}{e0:List (Nat×PV)}{g g':DD}{i:Nat}{o:Oper}(h:g.le g')(k:UQ P n N md l e0 g i o):UQ P n N md l e0 g' i o:=by
 cases k with
 |does h1 h2 h3 h4=>
  refine .does (ak8 h h1) (h.ins _ _ h2) (fun t q ht=>⟨(h3 t q ht).1,SE h (h3 t q ht).2⟩) ?_
  cases h4 with
  |q a b c=>exact .q (h.ks _ _ a) (h.outs _ _ b) c
  |r a b c d e=>exact .r (h.ks _ _ a) (h.outs _ _ b) (h.rds _ c) d e
  |c a b c d=>exact .c (h.ks _ _ a) (h.outs _ _ b) (h.fs _ _ c) d
  |e a b c d e=>exact .e (h.ks _ _ a) (h.outs _ _ b) (h.fs _ _ c) (h.fs _ _ d) e
  |e0 a b c d e=>exact .e0 (h.ks _ _ a) b (h.fs _ _ c) (h.fs _ _ d) e
  |ea z a b c d e f q=>exact .ea (h.az _ z) (h.ks _ _ a) b (h.fs _ _ c) (h.fs _ _ d) e f q
  |al md z a b c=>exact .al md (h.az _ z) (h.ks _ _ a) (h.outs _ _ b) c
 |skip h1 h2 h3 h4=>exact .skip (ak8 h h1) (h.ks _ _ h2) (h.outs _ _ h3) h4
structure alA (P:Program) (n:Nat) (md:Bool) (l:List Oper) (s0:AS) (g:DD) (s:AS):Prop where
 hs0: ∃f,g.fs[0]?=some f∧f none=s0.st
 hfl:g.fs.length=g.effs.length+1
 hlast: ∃f,g.fs[g.effs.length]?=some f∧f g.cz=s.st∧(md=false→f=fun _=>s.st)∧(md=true→g.az=none→f=fun z=>ab z s.st)
 hk:g.ks.length=g.outs.length
 hi:g.ins.length=g.outs.length
 hz:md=true→ ∀f∈g.fs,f none=LY∨((f none).boxes.length=s0.st.boxes.length∧ ∀z,f (some z)=(f none).addBox z)
 hm:md=false→g.az=none
 hlk: ∀t p,s.lk t=some p→abB l s0.env g.outs g.outs.length t p
 hf: ∀(i:Nat) (o:Oper),l[i]?=some o→i<g.outs.length→UQ P n s0.st.boxes.length md l s0.env g i o
def DW(P:Program)(C:oP)(n id:Nat)(md:Bool)(l:List Oper)(Q:Exit→AS→Prop)(s0:AS)(g:DD)(s:AS)(rest:List Oper):Prop:=
 alA P n md l s0 g s→l.drop g.outs.length=rest→cQ P C n (.region id l.toArray true) Q s0
variable {id:Nat} {l:List Oper} {Q:Exit→AS→Prop} {s0 s:AS} {g:DD} {rest:List Oper} {md:Bool}
theorem dW(h:DW P C n id false l Q s ⟨[],[],[],[],[fun _=>s.st],[],none⟩ s l):cQ P C n (.region id l.toArray true) Q s:=
 h ⟨⟨_,rfl,rfl⟩,rfl,⟨_,rfl,rfl,fun _=>rfl,fun h=>(by cases h)⟩,rfl,rfl,fun h=>(by cases h),fun _=>rfl,fun t p ht=> .inr ⟨ht,fun j o hj=>(by cases hj)⟩,fun i o _ hi=>(by cases hi)⟩ rfl
theorem dWa(h:DW P C n id true l Q s ⟨[],[],[],[],[fun z=>ab z s.st],[],none⟩ s l):cQ P C n (.region id l.toArray true) Q s:=
 h ⟨⟨_,rfl,rfl⟩,rfl,⟨_,rfl,rfl,fun h=>(by cases h),fun _ _=>rfl⟩,rfl,rfl,fun _ f hf=>(by obtain rfl:=List.mem_singleton.1 hf;exact .inr ⟨rfl,fun z=>rfl⟩),fun h=>(by cases h),fun t p ht=> .inr ⟨ht,fun j o hj=>by cases hj⟩,fun i o _ hi=>by cases hi⟩ rfl
theorem dO{α:Type}{l:List α}{y:α}(i:Nat)(x:α)(h:l[i]?=some x):(l++ [y])[i]?=some x:=by
 obtain⟨hi,-⟩:=List.getElem?_eq_some_iff.1 h
 rw [List.getElem?_append_left hi]
 exact h
theorem b8{α:Type}{l:List α}{y:α}{k:Nat}(h:l.length=k):(l++ [y])[k]?=some y:=by subst h;simp
theorem w5{o:Oper}(h:l.drop g.outs.length=o::rest):l[g.outs.length]?=some o∧l.drop (g.outs.length+1)=rest:=by
 constructor
 ·have:=congrArg (fun x=>x[0]?) h
  simpa using this
 ·rw [← List.drop_drop,h]
  rfl
theorem alA.next{g':DD}{s':AS}(hv:alA P n md l s0 g s)(ho:l[g.outs.length]?=some o)(hle:g.le g')(h0:g'.outs.length=g.outs.length+1)(hk:g'.ks.length=g.ks.length+1)(hi:g'.ins.length=g.ins.length+1)(hfl:g'.fs.length=g'.effs.length+1)
 (hlast: ∃f,g'.fs[g'.effs.length]?=some f∧f g'.cz=s'.st∧(md=false→f=fun _=>s'.st)∧(md=true→g'.az=none→f=fun z=>ab z s'.st)) (hz:md=true→ ∀f∈g'.fs,f none=LY∨((f none).boxes.length=s0.st.boxes.length∧ ∀z,f (some z)=(f none).addBox z)) (hm:md=false→g'.az=none)
 (hlk: ∀t p,s'.lk t=some p→(o.dst=some t∧g'.outs[g.outs.length]?=some (some p))∨(o.dst≠some t∧s.lk t=some p)) (hf:UQ P n s0.st.boxes.length md l s0.env g' g.outs.length o):alA P n md l s0 g' s' where
 hs0:=by obtain⟨f,h1,h2⟩:=hv.hs0;exact⟨f,hle.fs _ _ h1,h2⟩
 hfl:=hfl
 hlast:=hlast
 hk:=by rw [hk,h0,hv.hk]
 hi:=by rw [hi,h0,hv.hi]
 hz:=hz
 hm:=hm
 hlk:=fun t p ht=>by
  rcases hlk t p ht with⟨h1,h2⟩|⟨h1,h2⟩
  ·exact .inl ⟨_,o,by omega,ho,h1,h2⟩
  ·rcases hv.hlk t p h2 with⟨j,oj,a,b,c,d⟩|⟨a,b⟩
   ·exact .inl ⟨j,oj,by omega,b,c,hle.outs _ _ d⟩
   ·refine .inr ⟨a,fun j oj hj hoj=>?_⟩
    rcases Nat.lt_or_ge j g.outs.length with hlt|hge
    ·exact b j oj hlt hoj
    ·obtain rfl:j=g.outs.length:=by omega
     rw [ho] at hoj
     cases hoj
     exact h1
 hf:=fun i oi hoi hi'=>by
  rcases Nat.lt_or_ge i g.outs.length with hlt|hge
  ·exact(hv.hf i oi hoi hlt).mono hle
  ·obtain rfl:i=g.outs.length:=by omega
   rw [ho] at hoi
   cases hoi
   exact hf
theorem CP{st1:c5}{p:PV}(t:Nat)(q:PV)(outs:List (Option PV))(k:Nat)(hk:outs[k]?=some (some p))(h:((⟨s.env,st1⟩:AS).putO o.dst p).lk t=some q):(o.dst=some t∧outs[k]?=some (some q))∨(o.dst≠some t∧s.lk t=some q):=by
 cases hd:o.dst with
 |none=>rw [hd] at h;exact .inr ⟨by simp,h⟩
 |some d=>
  rw [hd,acB] at h
  by_cases htd:t=d
  ·rw [if_pos htd] at h
   cases h
   exact .inl ⟨by rw [htd],hk⟩
  ·rw [if_neg htd] at h
   exact .inr ⟨fun e=>htd (Option.some.inj e).symm,h⟩
theorem C9(s:AS)(d:Option Nat)(p:PV):(s.putO d p).st=s.st:=by cases d<;>rfl
theorem WS.wd{g':DD}{b:Bool}(h:WS l s o b)(hv:alA P n md l s0 g s)(hle:g.le g'):WD l s0.env g'.outs g.outs.length o b:=by
 cases h with
 |n a=>exact .n a
 |y a b c=>exact .y a b (SE hle (hv.hlk _ _ c))
 |u a b c=>exact .u a b (SE hle (hv.hlk _ _ c))
theorem IL{g':DD}(hv:alA P n md l s0 g s)(hle:g.le g')(I:List Nat): ∀t q,(rs s I).lookup t=some q→t∈I∧abB l s0.env g'.outs g.outs.length t q:=fun t q h=>⟨(ak2 h).1,SE hle (hv.hlk t q (ak2 h).2)⟩
theorem dI(I:List Nat){p:PV}(h: ∀ {C':oP} {st:c5},bB P C' n o ⟨rs s I,st⟩ ((⟨rs s I,st⟩:AS).putO o.dst p))(k:DW P C n id md l Q s0 ⟨g.outs++ [some p],g.ks++ [none],g.ins++ [I],g.effs,g.fs,g.rds,g.az⟩ (s.putO o.dst p) rest)(hg:WS l s o true:=by exact .n rfl):
 DW P C n id md l Q s0 g s (o::rest):=fun hv hr=>by
 obtain⟨ho,hd⟩:=w5 hr
 have hle:g.le ⟨g.outs++ [some p],g.ks++ [none],g.ins++ [I],g.effs,g.fs,g.rds,g.az⟩:=⟨dO,dO,dO,fun _ _ h=>h,fun _ h=>h,fun _ h=>h⟩
 refine k (hv.next ho hle (by simp) (by simp) (by simp) hv.hfl (by rw [C9];exact hv.hlast) hv.hz hv.hm (fun t q hq=>CP t q _ _ (b8 rfl) hq) ?_) (by simpa using hd)
 exact .does (hg.wd hv hle) (b8 hv.hi) (IL hv hle I) (.q (b8 hv.hk) (b8 rfl) fun _ _=>h)
theorem dD(I:List Nat){p:PV}(h: ∀ {C':oP},bB P C' n o ⟨rs s I,s.st⟩ ((⟨rs s I,s.st⟩:AS).putO o.dst p))(k:DW P C n id false l Q s0 ⟨g.outs++ [some p],g.ks++ [some (.q g.effs.length g.effs.length)],g.ins++ [I],g.effs,g.fs,g.rds,g.az⟩ (s.putO o.dst p) rest)(hg:WS l s o true:=by exact .n rfl):
 DW P C n id false l Q s0 g s (o::rest):=fun hv hr=>by
 obtain⟨ho,hd⟩:=w5 hr
 obtain⟨f,q1,-,q2,-⟩:=hv.hlast
 have q2:=q2 rfl
 subst q2
 have hle:g.le ⟨g.outs++ [some p],g.ks++ [some (.q g.effs.length g.effs.length)],g.ins++ [I],g.effs,g.fs,g.rds,g.az⟩:=⟨dO,dO,dO,fun _ _ h=>h,fun _ h=>h,fun _ h=>h⟩
 refine k (hv.next ho hle (by simp) (by simp) (by simp) hv.hfl (by rw [C9];exact hv.hlast) hv.hz hv.hm (fun t q hq=>CP t q _ _ (b8 rfl) hq) ?_) (by simpa using hd)
 exact .does (hg.wd hv hle) (b8 hv.hi) (IL hv hle I) (.c (b8 hv.hk) (b8 rfl) q1 fun _ _=>h)
def alP(P:Program)(n:Nat)(o:Oper)(s:AS)(I:List Nat)(kb:Nat)(X:Option (Option c7))(p:PV):Prop:= ∀C' (st:c5),st.boxes[kb]?=X→bB P C' n o ⟨rs s I,st⟩ ((⟨rs s I,st⟩:AS).putO o.dst p)
theorem dB(I:List Nat)(lo hi:Nat){kb:Nat}{X:Option (Option c7)}{p:PV}(h:alP P n o s I kb X p)(k:DW P C n id false l Q s0 ⟨g.outs++ [some p],g.ks++ [some (.q lo hi)],g.ins++ [I],g.effs,g.fs,g.rds++ [((lo,hi),kb,X)],g.az⟩ (s.putO o.dst p) rest)(hg:WS l s o true:=by exact .n rfl):
 DW P C n id false l Q s0 g s (o::rest):=fun hv hr=>by
 obtain⟨ho,hd⟩:=w5 hr
 have hle:g.le ⟨g.outs++ [some p],g.ks++ [some (.q lo hi)],g.ins++ [I],g.effs,g.fs,g.rds++ [((lo,hi),kb,X)],g.az⟩:=⟨dO,dO,dO,fun _ _ h=>h,fun _ h=>List.mem_append_left _ h,fun _ h=>h⟩
 refine k (hv.next ho hle (by simp) (by simp) (by simp) hv.hfl (by rw [C9];exact hv.hlast) hv.hz hv.hm (fun t q hq=>CP t q _ _ (b8 rfl) hq) ?_) (by simpa using hd)
 exact .does (hg.wd hv hle) (b8 hv.hi) (IL hv hle I) (.r (b8 hv.hk) (b8 rfl) (by simp) (fun h=>by cases h) h)
theorem dBz(I:List Nat)(lo hi:Nat){kb:Nat}{X:Option (Option c7)}{p:PV}(h:alP P n o s I kb X p)(k:DW P C n id true l Q s0 ⟨g.outs++ [some p],g.ks++ [some (.q lo hi)],g.ins++ [I],g.effs,g.fs,g.rds++ [((lo,hi),kb,X)],g.az⟩ (s.putO o.dst p) rest)(hg:WS l s o true:=by exact .n rfl)(hkN:(decide (kb<s0.st.boxes.length))=true:=by exact rfl):
 DW P C n id true l Q s0 g s (o::rest):=fun hv hr=>by
 obtain⟨ho,hd⟩:=w5 hr
 have hle:g.le ⟨g.outs++ [some p],g.ks++ [some (.q lo hi)],g.ins++ [I],g.effs,g.fs,g.rds++ [((lo,hi),kb,X)],g.az⟩:=⟨dO,dO,dO,fun _ _ h=>h,fun _ h=>List.mem_append_left _ h,fun _ h=>h⟩
 refine k (hv.next ho hle (by simp) (by simp) (by simp) hv.hfl (by rw [C9];exact hv.hlast) hv.hz hv.hm (fun t q hq=>CP t q _ _ (b8 rfl) hq) ?_) (by simpa using hd)
 exact .does (hg.wd hv hle) (b8 hv.hi) (IL hv hle I) (.r (b8 hv.hk) (b8 rfl) (by simp) (fun _=>of_decide_eq_true hkN) h)
theorem vL1{I:List Nat}{T:TypeId}{x:Operand}{kb d z:Nat}{bx:c7}{p:PV}(hT:iX P T=some (false,z))
 (ho:o.op= .load T x:=by exact rfl) (hd:bI o.dst n=true:=by exact rfl) (hx:(⟨rs s I,s.st⟩:AS).ev x=some (.ptr kb d):=by exact rfl) (hb:s.st.boxes[kb]?=some (some bx):=by exact rfl) (hc:bx.cells[d]?=some p:=by exact rfl):alP P n o s I kb (some (some bx)) p:=
 fun C' st hst=>bB.loadPtr1 ho hd (by cases x<;>exact hx) hst hT hc
theorem vLp{I:List Nat}{T:TypeId}{x:Operand}{kb d z:Nat}{bx:c7}(cs:List PV)(hT:iX P T=some (true,z))
 (ho:o.op= .load T x:=by exact rfl) (hd:bI o.dst n=true:=by exact rfl) (hx:(⟨rs s I,s.st⟩:AS).ev x=some (.ptr kb d):=by exact rfl) (hb:s.st.boxes[kb]?=some (some bx):=by exact rfl) (hc:(bx.cells.drop d).take z=cs:=by exact rfl) (hl:cs.length=z:=by exact rfl):alP P n o s I kb (some (some bx)) (.agg cs):=
 fun C' st hst=>bB.loadPtr ho hd (by cases x<;>exact hx) hst hT hc hl
theorem dE(I:List Nat){p:PV}{st1:c5}(h: ∀ {C':oP},bB P C' n o ⟨rs s I,s.st⟩ ((⟨rs s I,st1⟩:AS).putO o.dst p))(k:DW P C n id false l Q s0 ⟨g.outs++ [some p],g.ks++ [some (.ef g.effs.length)],g.ins++ [I],g.effs++ [g.outs.length],g.fs++ [fun _=>st1],g.rds,g.az⟩ ((⟨s.env,st1⟩:AS).putO o.dst p) rest)(hg:WS l s o true:=by exact .n rfl):
 DW P C n id false l Q s0 g s (o::rest):=fun hv hr=>by
 obtain⟨ho,hd⟩:=w5 hr
 obtain⟨f,q1,-,q2,-⟩:=hv.hlast
 have q2:=q2 rfl
 subst q2
 have hle:g.le ⟨g.outs++ [some p],g.ks++ [some (.ef g.effs.length)],g.ins++ [I],g.effs++ [g.outs.length],g.fs++ [fun _=>st1],g.rds,g.az⟩:=⟨dO,dO,dO,dO,fun _ h=>h,fun _ h=>h⟩
 refine k (hv.next ho hle (by simp) (by simp) (by simp) (by simp [hv.hfl]) (by rw [C9];exact⟨_,b8 (by simp [hv.hfl]),rfl,fun _=>rfl,fun h=>by cases h⟩) (fun h=>by cases h) hv.hm (fun t q hq=>CP t q _ _ (b8 rfl) hq) ?_) (by simpa using hd)
 exact .does (hg.wd hv hle) (b8 hv.hi) (IL hv hle I) (.e (b8 hv.hk) (b8 rfl) (hle.fs _ _ q1) (b8 hv.hfl) fun _ _=>h)
theorem kU(I:List Nat){st1:c5}(h: ∀ {C':oP},bB P C' n o ⟨rs s I,s.st⟩ ⟨rs s I,st1⟩)(k:DW P C n id false l Q s0 ⟨g.outs++ [none],g.ks++ [some (.ef g.effs.length)],g.ins++ [I],g.effs++ [g.outs.length],g.fs++ [fun _=>st1],g.rds,g.az⟩ ⟨s.env,st1⟩ rest)(hn:o.dst=none:=by exact rfl)(hg:WS l s o true:=by exact .n rfl):
 DW P C n id false l Q s0 g s (o::rest):=fun hv hr=>by
 obtain⟨ho,hd⟩:=w5 hr
 obtain⟨f,q1,-,q2,-⟩:=hv.hlast
 have q2:=q2 rfl
 subst q2
 have hle:g.le ⟨g.outs++ [none],g.ks++ [some (.ef g.effs.length)],g.ins++ [I],g.effs++ [g.outs.length],g.fs++ [fun _=>st1],g.rds,g.az⟩:=⟨dO,dO,dO,dO,fun _ h=>h,fun _ h=>h⟩
 refine k (hv.next ho hle (by simp) (by simp) (by simp) (by simp [hv.hfl]) ⟨_,b8 (by simp [hv.hfl]),rfl,fun _=>rfl,fun h=>by cases h⟩ (fun h=>by cases h) hv.hm (fun t q hq=> .inr ⟨by rw [hn];simp,hq⟩) ?_) (by simpa using hd)
 exact .does (hg.wd hv hle) (b8 hv.hi) (IL hv hle I) (.e0 (b8 hv.hk) hn (hle.fs _ _ q1) (b8 hv.hfl) fun _ _=>h)
theorem dEz(I:List Nat){p:PV}{st1:c5}(h: ∀C' z,bB P C' n o ⟨rs s I,ab z s.st⟩ ((⟨rs s I,ab z st1⟩:AS).putO o.dst p))(k:DW P C n id true l Q s0 ⟨g.outs++ [some p],g.ks++ [some (.ef g.effs.length)],g.ins++ [I],g.effs++ [g.outs.length],g.fs++ [fun z=>ab z st1],g.rds,g.az⟩ ((⟨s.env,st1⟩:AS).putO o.dst p) rest)(hg:WS l s o true:=by exact .n rfl)(haz:g.az=none:=by exact rfl)(hlen:st1.boxes.length=s0.st.boxes.length:=by exact rfl):
 DW P C n id true l Q s0 g s (o::rest):=fun hv hr=>by
 obtain⟨ho,hd⟩:=w5 hr
 obtain⟨f,q1,-,-,q2⟩:=hv.hlast
 have q2:=q2 rfl haz
 subst q2
 have hcz:g.cz=none:=by unfold DD.cz;rw [haz];rfl
 have hle:g.le ⟨g.outs++ [some p],g.ks++ [some (.ef g.effs.length)],g.ins++ [I],g.effs++ [g.outs.length],g.fs++ [fun z=>ab z st1],g.rds,g.az⟩:=⟨dO,dO,dO,dO,fun _ h=>h,fun _ h=>h⟩
 refine k (hv.next ho hle (by simp) (by simp) (by simp) (by simp [hv.hfl]) (by rw [C9];exact⟨_,b8 (by simp [hv.hfl]),(by show ab g.cz st1=st1;rw [hcz];rfl),fun h=>(by cases h),fun _ _=>rfl⟩) (fun hmd f hf=>(List.mem_append.1 hf).elim (hv.hz hmd f) fun h=>by obtain rfl:=List.mem_singleton.1 h;exact .inr ⟨hlen,fun z=>rfl⟩) hv.hm (fun t q hq=>CP t q _ _ (b8 rfl) hq) ?_) (by simpa using hd)
 exact .does (hg.wd hv hle) (b8 hv.hi) (IL hv hle I) (.e (b8 hv.hk) (b8 rfl) (hle.fs _ _ q1) (b8 hv.hfl) h)
theorem dA{zb:c7}(h: ∀C' st,st.boxes.length=s0.st.boxes.length→bB P C' n o ⟨[],st⟩ ((⟨[],st.addBox zb⟩:AS).putO o.dst (.ptr s0.st.boxes.length 0)))(k:DW P C n id true l Q s0 ⟨g.outs++ [some (.ptr s0.st.boxes.length 0)],g.ks++ [some .al],g.ins++ [[]],g.effs,g.fs,g.rds,some (g.outs.length,zb)⟩ ((⟨s.env,s.st.addBox zb⟩:AS).putO o.dst (.ptr s0.st.boxes.length 0)) rest)(hg:WS l s o true:=by exact .n rfl)(haz:g.az=none:=by exact rfl):
 DW P C n id true l Q s0 g s (o::rest):=fun hv hr=>by
 obtain⟨ho,hd⟩:=w5 hr
 obtain⟨f,q1,-,-,q2⟩:=hv.hlast
 have q2:=q2 rfl haz
 subst q2
 have hle:g.le ⟨g.outs++ [some (.ptr s0.st.boxes.length 0)],g.ks++ [some .al],g.ins++ [[]],g.effs,g.fs,g.rds,some (g.outs.length,zb)⟩:=⟨dO,dO,dO,fun _ _ h=>h,fun _ h=>h,fun x h=>by rw [haz] at h;cases h⟩
 refine k (hv.next ho hle (by simp) (by simp) (by simp) hv.hfl ⟨_,q1,by rw [C9];rfl,fun h=>(by cases h),fun _ h=>by cases h⟩ hv.hz (fun h=>by cases h) (fun t q hq=>CP t q _ _ (b8 rfl) hq) ?_) (by simpa using hd)
 exact .does (E:= []) (hg.wd hv hle) (b8 hv.hi) (fun t q h=>by cases h) (.al rfl rfl (b8 hv.hk) (b8 rfl) h)
theorem dZ(t:Nat)(I:List Nat){off a:Nat}{zb:c7}{st1:c5}(h: ∀ {C':oP},bB P C' n o ⟨rs s I,s.st⟩ ⟨rs s I,st1⟩)(k:DW P C n id true l Q s0 ⟨g.outs++ [none],g.ks++ [some (.ef g.effs.length)],g.ins++ [I],g.effs++ [g.outs.length],g.fs++ [tw st1],g.rds,g.az⟩ ⟨s.env,st1⟩ rest)(hn:o.dst=none:=by exact rfl)(hg:WS l s o true:=by exact .n rfl)(haz:g.az=some (a,zb):=by exact rfl)(hp:(rs s I).lookup t=some (.ptr s0.st.boxes.length off):=by exact rfl):
 DW P C n id true l Q s0 g s (o::rest):=fun hv hr=>by
 obtain⟨ho,hd⟩:=w5 hr
 obtain⟨f,q1,q2,-,-⟩:=hv.hlast
 have hcz:g.cz=some zb:=by unfold DD.cz;rw [haz];rfl
 rw [hcz] at q2
 have q3:=hv.hz rfl f (List.mem_iff_getElem?.2 ⟨_,q1⟩)
 have hle:g.le ⟨g.outs++ [none],g.ks++ [some (.ef g.effs.length)],g.ins++ [I],g.effs++ [g.outs.length],g.fs++ [tw st1],g.rds,g.az⟩:=⟨dO,dO,dO,dO,fun _ h=>h,fun _ h=>h⟩
 refine k (hv.next ho hle (by simp) (by simp) (by simp) (by simp [hv.hfl]) ⟨_,b8 (by simp [hv.hfl]),(by show tw st1 g.cz=st1;rw [hcz];rfl),fun h=>(by cases h),fun _ h=>(by rw [show g.az=none from h] at haz;cases haz)⟩ (fun hmd f hf=>(List.mem_append.1 hf).elim (hv.hz hmd f) fun h=>by obtain rfl:=List.mem_singleton.1 h;exact .inl rfl) hv.hm (fun t q hq=> .inr ⟨by rw [hn];simp,hq⟩) ?_) (by simpa using hd)
 exact .does (hg.wd hv hle) (b8 hv.hi) (IL hv hle I) (.ea haz (b8 hv.hk) hn (hle.fs _ _ q1) (b8 hv.hfl) hp (q3.imp (fun x=>x) (·.1)) (by rw [q2];exact fun _=>h))
theorem vAl{T:TypeId}{ps:List PV}{st:c5}{N:Nat}(hN:st.boxes.length=N)(hz:iK P T=some ps)(ho:o.op= .alloc T:=by exact rfl)(hd:bI o.dst n=true:=by exact rfl):bB P C n o ⟨[],st⟩ ((⟨[],st.addBox ⟨T,ps⟩⟩:AS).putO o.dst (.ptr N 0)):=by
 subst hN
 exact bB.alloc (s:=⟨[],st⟩) ho hd hz
theorem dS(k:DW P C n id md l Q s0 ⟨g.outs++ [some (.tup [])],g.ks++ [none],g.ins++ [[]],g.effs,g.fs,g.rds,g.az⟩ (s.putO o.dst (.tup [])) rest)(hg:WS l s o false)(hd':bI o.dst n=true):
 DW P C n id md l Q s0 g s (o::rest):=fun hv hr=>by
 obtain⟨ho,hd⟩:=w5 hr
 have hle:g.le ⟨g.outs++ [some (.tup [])],g.ks++ [none],g.ins++ [[]],g.effs,g.fs,g.rds,g.az⟩:=⟨dO,dO,dO,fun _ _ h=>h,fun _ h=>h,fun _ h=>h⟩
 refine k (hv.next ho hle (by simp) (by simp) (by simp) hv.hfl (by rw [C9];exact hv.hlast) hv.hz hv.hm (fun t q hq=>CP t q _ _ (b8 rfl) hq) ?_) (by simpa using hd)
 exact .skip (hg.wd hv hle) (b8 hv.hk) (b8 rfl) hd'
theorem NH{j d:Nat}{b c e:Bool}(hv:b=e)(k:DW P C n id md l Q s0 ⟨g.outs++ [some (.tup [])],g.ks++ [none],g.ins++ [[]],g.effs,g.fs,g.rds,g.az⟩ (s.putO o.dst (.tup [])) rest)(hg:o.guard=some (j,c):=by exact rfl)(hj:(l[j]?).bind (·.dst)=some d:=by exact rfl)(hb:s.lk d=some (.t (.leaf (.bool b))):=by exact rfl)(hne:(e==c)=false:=by exact rfl)(hd':bI o.dst n=true:=by exact rfl):
 DW P C n id md l Q s0 g s (o::rest):=dS k (by subst hv;have:=WS.y hg hj hb;rwa [hne] at this) hd'
theorem dSu{j d:Nat}{c:Bool}(k:DW P C n id md l Q s0 ⟨g.outs++ [some (.tup [])],g.ks++ [none],g.ins++ [[]],g.effs,g.fs,g.rds,g.az⟩ (s.putO o.dst (.tup [])) rest)(hg:o.guard=some (j,c):=by exact rfl)(hj:(l[j]?).bind (·.dst)=some d:=by exact rfl)(hb:s.lk d=some (.tup []):=by exact rfl)(hd':bI o.dst n=true:=by exact rfl):
 DW P C n id md l Q s0 g s (o::rest):=dS k (.u hg hj hb) hd'
theorem bD{j d:Nat}{b c:Bool}(hv:b=c)(hg:o.guard=some (j,c):=by exact rfl)(hj:(l[j]?).bind (·.dst)=some d:=by exact rfl)(hb:s.lk d=some (.t (.leaf (.bool b))):=by exact rfl):WS l s o true:=by
 subst hv
 have:=WS.y hg hj hb
 rwa [BEq.rfl] at this
theorem anI{ops:Array Oper}(h: ∀i o,ops[i]?=some o→ ∀e∈o.after,Region.binds .any e=true→e.on<i): ∀(fuel i j:Nat),SM ops fuel i j=true→i<j
 |0,_,_,h'=>by simp [SM] at h'
 |fuel+1,i,j,h'=>by
  simp only [SM] at h'
  split at h'
  ·rename_i o ho
   rw [List.any_eq_true] at h'
   obtain⟨e,he,h'⟩:=h'
   simp only [Bool.and_eq_true,Bool.or_eq_true,beq_iff_eq] at h'
   have h1:=h j o ho e (by simpa using he) h'.1
   rcases h'.2 with h2|h2
   ·omega
   ·have:=anI h fuel i e.on h2
    omega
  ·cases h'
def XR(l:List Oper)(i t:Nat):Option Nat:=match o9 l.toArray t with
 |some j=>if j<i then some j else none
 |none=>none
def DD.draw(g:DD)(l:List Oper)(s0:AS):jP where
 ops:=l.toArray
 env0:=s0.env
 F:=fun j b=>match g.fs[j]? with
  |some f=>f (bif b then g.cz else none)
  |none=>ab (bif b then g.cz else none) s0.st
 out:=fun i=>(g.outs[i]?).getD none
 kind:=fun i=>match g.ks[i]? with
  |some (some k)=>k
  |_=> .q 0 g.effs.length
 effs:=g.effs
 alloc:=g.az.map (·.1)
 ins:=fun i=>((g.ins[i]?).getD []).map fun t=>(t,XR l i t)
def aoD(fs:List (Option c7→c5))(z:Option c7)(x:(Nat×Nat)×Nat×Option (Option c7)):List (Option (Option (Option c7))):=(List.range' x.1.1 (x.1.2+1-x.1.1)).map fun j=>(fs[j]?).map fun f=>(f z).boxes[x.2.1]?
def aoC(x:(Nat×Nat)×Nat×Option (Option c7)):List (Option (Option (Option c7))):=(List.range' x.1.1 (x.1.2+1-x.1.1)).map fun _=>some x.2.2
theorem SI(hn:BI l.toArray=true){j t:Nat}(ho:l[j]?=some o)(hd:o.dst=some t):o9 l.toArray t=some j:=gU hn (by simpa using ho) hd
theorem as7{fs:List (Option c7→c5)}{z:Option c7}{rds:List ((Nat×Nat)×Nat×Option (Option c7))}(h:rds.map (aoD fs z)=rds.map aoC){lo hi kb j:Nat}{X:Option (Option c7)}(hm:((lo,hi),kb,X)∈rds)(h1:lo≤j)(h2:j≤hi){f:Option c7→c5}(hs:fs[j]?=some f):(f z).boxes[kb]?=X:=by
 have e:=List.map_inj_left.1 h _ hm
 unfold aoD aoC at e
 have:=List.map_inj_left.1 e j (by simp [List.mem_range'];exact⟨j-lo,by omega,by omega⟩)
 simpa [hs] using this
theorem dN(h:Q .normal s)(hm:P.follows .mixedOrders=true:=by exact asV)(hok:(g.draw l s0).ok=true:=by kernel_rfl)(hrd:g.rds.map (aoD g.fs g.cz)=g.rds.map aoC:=by kernel_rfl):DW P C n id md l Q s0 g s []:=fun hv hr=>by
 have hlen:l.length≤g.outs.length:=by
  have:=congrArg List.length hr
  simp at this
  omega
 have hok':=hok
 simp only [jP.ok,Bool.and_eq_true] at hok'
 have hn:BI l.toArray=true:=hok'.1.1.1.2
 have hpv: ∀i t q,abB l s0.env g.outs i t q→(g.draw l s0).pv (t,XR l i t)=some q:=fun i t q hs=>by
  rcases hs with⟨j,oj,h1,h2,h3,h4⟩|⟨h1,h2⟩
  ·have hw:=SI hn h2 h3
   unfold XR
   rw [hw]
   dsimp only
   rw [if_pos h1]
   show(g.outs[j]?).getD none=some q
   rw [h4]
   rfl
  ·have hw:XR l i t=none:=by
    unfold XR
    split
    ·rename_i j hj
     obtain⟨-,oj,h3,h4⟩:=xH hj
     split
     ·rename_i hji
      exact absurd h4 (h2 j oj hji (by simpa using h3))
     ·rfl
    ·rfl
   rw [hw]
   exact h1
 have hF: ∀ {j:Nat} {f:Option c7→c5},g.fs[j]?=some f→ ∀b,(g.draw l s0).F j b=f (bif b then g.cz else none):=fun {j f} hj b=>by show(match g.fs[j]? with|some f=>f (bif b then g.cz else none)|none=>ab (bif b then g.cz else none) s0.st)=_;rw [hj]
 have hK: ∀ {i:Nat} {k:DK},g.ks[i]?=some (some k)→(g.draw l s0).kind i=k:=fun {i k} hk=>by show(match g.ks[i]? with|some (some k)=>k|_=> .q 0 g.effs.length)=_;rw [hk]
 have hK0: ∀ {i:Nat},g.ks[i]?=some none→(g.draw l s0).kind i= .q 0 g.effs.length:=fun {i} hk=>by show(match g.ks[i]? with|some (some k)=>k|_=>DK.q 0 g.effs.length)=_;rw [hk]
 have hout: ∀ {i:Nat} {p:PV},g.outs[i]?=some (some p)→(g.draw l s0).out i=some p:=fun hp=>by show(g.outs[_]?).getD none=_;rw [hp];rfl
 have hops:=hok'.1.1.1.1
 rw [List.all_eq_true] at hops
 have hgs: ∀(i:Nat) (o:Oper) (j d:Nat) (c:Bool) (p:PV),l[i]?=some o→o.guard=some (j,c)→(l[j]?).bind (·.dst)=some d→abB l s0.env g.outs i d p→(g.draw l s0).out j=some p:=fun i o j d c p ho hg hj hs=>by
  obtain⟨oj,hoj,hdj⟩: ∃oj,l[j]?=some oj∧oj.dst=some d:=by
   cases hx:l[j]? with
   |none=>rw [hx] at hj;cases hj
   |some oj=>rw [hx] at hj;exact⟨oj,rfl,hj⟩
  have hw:=SI hn hoj hdj
  rcases hs with⟨j',oj',h1,h2,h3,h4⟩|⟨h1,h2⟩
  ·have hw':=SI hn h2 h3
   rw [hw] at hw'
   cases hw'
   exact hout h4
  ·have hil:=(List.getElem?_eq_some_iff.1 ho).1
   have h5:=hops i (by simpa [DD.draw] using hil)
   have ho':(g.draw l s0).ops[i]?=some o:=by simpa [DD.draw] using ho
   simp only [jP.okOp,ho',hg,Bool.and_eq_true] at h5
   have h6:(g.draw l s0).anc j i=true:=h5.2.1
   have:=anI (fun i' o' ho' e he hb=>by
    have hil':=(Array.getElem?_eq_some_iff.1 ho').1
    have h7:=hops i' (by simpa using hil')
    simp only [jP.okOp,ho',Bool.and_eq_true,Array.all_eq_true'] at h7
    have h3:=h7.1 e he
    simpa [hb] using h3) _ _ _ h6
   exact absurd hdj (h2 j oj this hoj)
 have hwant: ∀ {i:Nat} {o:Oper} {b:Bool},l[i]?=some o→WD l s0.env g.outs i o b→(g.draw l s0).want o=some b:=fun {i o b} ho hw=>by
  unfold jP.want
  cases hw with
  |n a=>rw [a]
  |y a b c=>rw [a];dsimp only;rw [hgs _ _ _ _ _ _ ho a b c]
  |u a b c=>rw [a];dsimp only;rw [hgs _ _ _ _ _ _ ho a b c]
 have hstep: ∀i o,(g.draw l s0).ops[i]?=some o→(g.draw l s0).step P C n i o:=fun i o ho=>by
  have ho':l[i]?=some o:=by simpa [DD.draw] using ho
  obtain⟨hil,-⟩:=List.getElem?_eq_some_iff.1 ho'
  cases hv.hf i o ho' (by omega) with
  |does h1 h2 h3 h4=>
   rename_i E I
   refine .inl ⟨hwant ho' h1,?_⟩
   have hl: ∀s':AS,(∀t src p,(t,src)∈(g.draw l s0).ins i→(g.draw l s0).pv (t,src)=some p→s'.lk t=some p)→ ∀t q,E.lookup t=some q→s'.lk t=some q:=fun s' hl t q ht=>by
    obtain⟨h5,h6⟩:=h3 t q ht
    refine hl t (XR l i t) q ?_ (hpv i t q h6)
    show(t,XR l i t)∈((g.ins[i]?).getD []).map _
    rw [h2]
    exact List.mem_map.2 ⟨t,h5,rfl⟩
   unfold jP.does
   cases h4 with
   |q a b c=>
    rw [hK0 a]
    exact fun s' j bb _ _ hs hin=>⟨_,hout b,bB.frame (st:=s'.st) (fun C'=>c C' s'.st) rfl (hl s' hin)⟩
   |r a b c kN d=>
    rename_i lo hi kb X p
    have hk:=hK a
    rw [hk]
    intro s' j bb q1 q2 hs hin
    have hjl:hi<g.fs.length:=by
     have:=hok'.1.1.2
     rw [List.all_eq_true] at this
     have:=this i (by simpa [DD.draw] using hil)
     simp only [Bool.and_eq_true,jP.okKind,hk] at this
     have h9:=this.1.1.1.1.1.2
     simp only [decide_eq_true_eq] at h9
     have h10:hi≤g.effs.length:=h9
     rw [hv.hfl]
     omega
    obtain⟨f,hst⟩: ∃f,g.fs[j]?=some f:=⟨_,List.getElem?_eq_getElem (by omega)⟩
    have hX:=as7 hrd c q1 q2 hst
    rw [hF hst] at hs
    have hcase:s'.st=f g.cz∨(md=true∧s'.st=f none):=by
     cases bb with
     |true=>exact .inl hs
     |false=>
      cases md with
      |true=>exact .inr ⟨rfl,hs⟩
      |false=>
       have:g.cz=none:=by unfold DD.cz;rw [hv.hm rfl];rfl
       rw [this]
       exact .inl hs
    rcases hcase with hs|⟨hmd,hs⟩
    ·exact⟨_,hout b,bB.frame (st:=s'.st) (fun C'=>d C' s'.st (by rw [hs];exact hX)) rfl (hl s' hin)⟩
    ·rcases hv.hz hmd f (List.mem_iff_getElem?.2 ⟨_,hst⟩) with h9|⟨h9,h10⟩
     ·exact⟨_,hout b,bB.bad (by rw [hs,h9])⟩
     ·refine⟨_,hout b,bB.frame (st:=s'.st) (fun C'=>d C' s'.st ?_) rfl (hl s' hin)⟩
      rw [hs,← hX]
      cases hz:g.cz with
      |none=>rfl
      |some z=>
       rw [h10 z]
       show _=((f none).boxes++ [some z])[kb]?
       rw [List.getElem?_append_left (by rw [h9];exact kN hmd)]
   |c a b c d=>
    rename_i j f p
    rw [hK a]
    refine fun s' jj bb q1 q2 hs hin=>⟨_,hout b,?_⟩
    obtain rfl:jj=j:=by omega
    exact bB.frame (st:=s'.st) (fun C'=>by rw [hs,hF c];exact d C' _) rfl (hl s' hin)
   |e a b c d e=>
    rename_i j f f1 p
    rw [hK a]
    refine fun s' bb hs hin=> .inl ⟨_,hout b,?_⟩
    rw [hF d]
    exact bB.frame (fun C'=>e C' _) (by rw [hs,hF c]) (hl s' hin)
   |e0 a b c d e=>
    rename_i j f f1
    rw [hK a]
    refine fun s' bb hs hin=> .inr ⟨b,?_⟩
    rw [hF d]
    exact bB.frame0 b (fun C'=>e C' _) (by rw [hs,hF c]) (hl s' hin)
   |ea z a b c d e f q=>
    rename_i j a' t off zb f0 f1
    have hcz:g.cz=some zb:=by unfold DD.cz;rw [z];rfl
    rw [hK a]
    refine fun s' bb hs hin=> .inr ⟨b,?_⟩
    rw [hF d]
    rw [hF c] at hs
    cases bb with
    |true=>
     rw [hcz] at hs ⊢
     exact bB.frame0 b q hs (hl s' hin)
    |false=>
     rcases f with f|f
     ·exact bB.bad (hs.trans f)
     ·refine bB.away (hl s' hin t _ e) ?_
      rw [hs]
      show(f0 none).boxes[_]?=none
      rw [List.getElem?_eq_none (by rw [f];exact Nat.le_refl _)]
   |al hmd z a b c=>
    rename_i zb
    have hcz:g.cz=some zb:=by unfold DD.cz;rw [z];rfl
    rw [hK a]
    refine fun s' j hs=>⟨_,hout b,?_⟩
    have key:s'.st=LY∨(s'.st.boxes.length=s0.st.boxes.length∧(g.draw l s0).F j true=s'.st.addBox zb):=by
     cases hj:g.fs[j]? with
     |none=>
      have h8: ∀b,(g.draw l s0).F j b=ab (bif b then g.cz else none) s0.st:=fun b=>by show(match g.fs[j]? with|some f=>f (bif b then g.cz else none)|none=>ab (bif b then g.cz else none) s0.st)=_;rw [hj]
      rw [h8] at hs ⊢
      refine .inr ⟨by rw [hs];rfl,?_⟩
      rw [hs,hcz]
      rfl
     |some f=>
      rw [hF hj] at hs ⊢
      rcases hv.hz hmd f (List.mem_iff_getElem?.2 ⟨_,hj⟩) with h9|⟨h9,h10⟩
      ·exact .inl (hs.trans h9)
      ·refine .inr ⟨by rw [hs];exact h9,?_⟩
       rw [hs,hcz]
       exact h10 zb
    rcases key with h9|⟨h9,h10⟩
    ·exact bB.bad h9
    ·rw [h10]
     exact bB.frame (E:= []) (fun C'=>c C' s'.st h9) rfl (fun t q h=>by cases h)
  |skip h1 h2 h3 h4=>exact .inr ⟨hwant ho' h1,⟨_,_,hK0 h2⟩,.inr ⟨hout h3,h4⟩⟩
 intro m a w hra
 refine wp_mono (cQ.drawn (g.draw l s0) (Q:=fun e s'=>e= .normal∧s'=⟨((List.range (g.draw l s0).ops.size).filterMap ((g.draw l s0).gX (Array.replicate (g.draw l s0).ops.size true)))++(g.draw l s0).env0,(g.draw l s0).F (g.draw l s0).effs.length (g.draw l s0).alloc.isSome⟩) hm hok rfl (by obtain⟨f,h1,h2⟩:=hv.hs0;rw [hF h1];exact h2.symm) hstep ⟨rfl,rfl⟩ m a w hra) fun e a' w'=>?_;rintro⟨s',m',⟨rfl,rfl⟩,h2⟩
 obtain⟨f,q1,q2,-,-⟩:=hv.hlast
 refine⟨s,m',h,RA.congr h2 ((hF q1 _).trans (Eq.trans (by cases ha:g.az with|none=>(show f (bif (g.az.map (·.1)).isSome then g.cz else none)=f g.cz;unfold DD.cz;rw [ha];rfl)|some x=>(show f (bif (g.az.map (·.1)).isSome then g.cz else none)=f g.cz;unfold DD.cz;rw [ha];rfl)) q2)) fun t p ht=>?_⟩
 show((g.draw l s0).sX (Array.replicate (g.draw l s0).ops.size true)).lk t=some p
 rcases hv.hlk t p ht with⟨j,oj,h1,h3,h4,h5⟩|⟨h1,h3⟩
 ·have hjl:j<l.length:=(List.getElem?_eq_some_iff.1 h3).1
  exact MK hn (i:=j) (o:=oj) (by have:j<(g.draw l s0).ops.size:=(by simpa [DD.draw] using hjl);simp [Array.getD_eq_getD_getElem?,this]) (by simpa [DD.draw] using h3) h4 (hout h5)
 ·rw [JN hn fun i hi=>?_]
  ·exact h1
  ·obtain⟨hil,oi,h6,h7⟩:=xH hi
   exact absurd h7 (h3 i oi (by have:i<l.length:=(by simpa [DD.draw] using hil);omega) (by simpa [DD.draw] using h6))
end
end Go.Proofs.YtfcoaagbccmahaaGreat

namespace Go.Proofs.YtfcoaagbccmahaaGreat
open Go.RowKit Go.WalkArith Go.IntWalk Go.WideShapes
class RL (es:List (List Tr)) (α:outParam Type) [Inhabited α] [TC α] (l:outParam (List α)):Prop where h:es=TC.trs l
instance(l:List ByteArray):RL (aY l) ByteArray l:=⟨rfl⟩
instance(l:List Int):RL (nZ l) Int l:=⟨rfl⟩
instance(l:List UInt8):RL (lC l) UInt8 l:=⟨rfl⟩
structure GR (k:Nat) (G G':Prop):Prop where h:G'→G
theorem gr0{G:Prop}:GR 0 G G:=⟨id⟩
theorem grS{k:Nat}{G G1 G':Prop}(f:G1→G)(h:GR k G1 G'):GR (k+1) G G':=⟨fun x=>f (h.h x)⟩
section
variable {P:Program} {C:oP} {n:Nat} {s:AS} {o:Oper} {T:TypeId} {x y:Operand} {k d z e f:Nat} {bx:c7} {p:PV} {I:List Nat}
theorem bZ(ho:o.op= .fieldAddr T x f:=by exact rfl)(hd:bI o.dst n=true:=by exact rfl)(hx:s.ev x=some (.ptr k d):=by exact rfl)(hf:FO P T f e:=by infer_instance):bB P C n o s (s.putO o.dst (.ptr k (d+e))):=rFp hf.h ho hd hx
theorem wZ{cs:List Tr}(ho:o.op= .fieldAddr T x f:=by exact rfl)(hd:bI o.dst n=true:=by exact rfl)(hx:s.ev x=some (.eptr cs):=by exact rfl)(hf:FO P T f e:=by infer_instance):bB P C n o s (s.putO o.dst (.eptr (cs.drop e))):=rFe hf.h ho hd hx
theorem eE(ho:o.op= .load T x:=by exact rfl)(hd:bI o.dst n=true:=by exact rfl)(hx:s.ev x=some (.ptr k d):=by exact rfl)(hb:s.st.boxes[k]?=some (some bx):=by exact rfl)(hc:bx.cells[d]?=some p:=by exact rfl)(hT:SH P T (false,z):=by infer_instance):bB P C n o s (s.putO o.dst p):=rL1 hT.h ho hd hx hb hc
theorem bW(cs:List PV)(ho:o.op= .load T x:=by exact rfl)(hd:bI o.dst n=true:=by exact rfl)(hx:s.ev x=some (.ptr k d):=by exact rfl)(hb:s.st.boxes[k]?=some (some bx):=by exact rfl)(hT:SH P T (true,z):=by infer_instance)(hc:(bx.cells.drop d).take z=cs:=by exact rfl)(hl:cs.length=z:=by exact rfl):bB P C n o s (s.putO o.dst (.agg cs)):=rLp cs hT.h ho hd hx hb hc hl
theorem vM{w:Tr}{cs:List Tr}(ho:o.op= .load T x:=by exact rfl)(hd:bI o.dst n=true:=by exact rfl)(hx:s.ev x=some (.eptr cs):=by exact rfl)(hc:cs[0]?=some w:=by exact rfl)(hT:SH P T (false,z):=by infer_instance):bB P C n o s (s.putO o.dst (.t w)):=rK1 hT.h ho hd hx hc
theorem iI{cs:List Tr}(ds:List Tr)(ho:o.op= .load T x:=by exact rfl)(hd:bI o.dst n=true:=by exact rfl)(hx:s.ev x=some (.eptr cs):=by exact rfl)(hT:SH P T (true,z):=by infer_instance)(hc:cs.take z=ds:=by exact rfl)(hl:ds.length=z:=by exact rfl):bB P C n o s (s.putO o.dst (.agg (ds.map PV.t))):=rKe ds hT.h ho hd hx hc hl
theorem uK(ho:o.op= .load T x:=by exact rfl)(hd:bI o.dst n=true:=by exact rfl)(hx:(⟨rs s I,s.st⟩:AS).ev x=some (.ptr k d):=by exact rfl)(hb:s.st.boxes[k]?=some (some bx):=by exact rfl)(hc:bx.cells[d]?=some p:=by exact rfl)(hT:SH P T (false,z):=by infer_instance):alP P n o s I k (some (some bx)) p:=vL1 hT.h ho hd hx hb hc
theorem DU(cs:List PV)(ho:o.op= .load T x:=by exact rfl)(hd:bI o.dst n=true:=by exact rfl)(hx:(⟨rs s I,s.st⟩:AS).ev x=some (.ptr k d):=by exact rfl)(hb:s.st.boxes[k]?=some (some bx):=by exact rfl)(hT:SH P T (true,z):=by infer_instance)(hc:(bx.cells.drop d).take z=cs:=by exact rfl)(hl:cs.length=z:=by exact rfl):alP P n o s I k (some (some bx)) (.agg cs):=vLp cs hT.h ho hd hx hb hc hl
theorem tAl{ps:List PV}(ho:o.op= .alloc T:=by exact rfl)(hd:bI o.dst n=true:=by exact rfl)(hz:ZR P T ps:=by infer_instance):bB P C n o s ((⟨s.env,s.st.addBox ⟨T,ps⟩⟩:AS).putO o.dst (.ptr s.st.boxes.length 0)):=rAl hz.h ho hd
theorem jO{cs ds:List PV}(ho:o.op= .store T x y:=by exact rfl)(hx:s.ev x=some (.ptr k d):=by exact rfl)(hb:s.st.boxes[k]?=some (some bx):=by exact rfl)(hy:s.ev y=some p:=by exact rfl)(hc:vR p=cs:=by exact rfl)(ht:u6 p=true:=by exact rfl)(hf:H3 cs=true:=by exact rfl)(hT:SZ P T z:=by infer_instance)(hz:z=cs.length:=by exact rfl)
 (hfit:d+cs.length≤bx.cells.length:=by exact Nat.le_of_ble_eq_true rfl) (hds:bx.cells.take d++cs++bx.cells.drop (d+cs.length)=ds:=by exact rfl):bB P C n o s ((⟨s.env,s.st.setBox k ⟨bx.ty,ds⟩⟩:AS).delO o.dst):=rSu (hz ▸ hT.h) ho hx hb hy hc ht hf hfit hds
theorem rW{parts:Array (Nat×Operand)}{ps:List (Nat×List PV)}{zs cs:List PV}{places:List (Nat×Nat)}(ho:o.op= .build T parts:=by exact rfl)(hd:bI o.dst n=true:=by exact rfl)(hp:mB s parts.toList=some ps:=by exact rfl)(hz:ZR P T zs:=by infer_instance)(hpl:UA P T places:=by infer_instance)(hc:sS (fun i=>places.toArray[i]?) zs ps=some cs:=by exact rfl):bB P C n o s (s.putO o.dst (.agg cs)):=rBd hz.h hpl.h ho hd hp hc
theorem tF1{cs:List PV}(ho:o.op= .field T x f:=by exact rfl)(hd:bI o.dst n=true:=by exact rfl)(hx:s.ev x=some (.agg cs):=by exact rfl)(hf:FQ P T f (e,false,z):=by infer_instance)(hc:cs[e]?=some p:=by exact rfl):bB P C n o s (s.putO o.dst p):=rF1 hf.h ho hd hx hc
theorem tPt{b:Bool}{w:Operand}(ho:o.op= .pick x y w:=by exact rfl)(hd:bI o.dst n=true:=by exact rfl)(hx:s.ev x=some (.t (.leaf (.bool b))):=by exact rfl)(hb:b=true:=by first|with_reducible assumption|with_reducible rfl|assumption|exact rfl)(hy:s.ev y=some p:=by exact rfl):bB P C n o s (s.putO o.dst p):=DV hb ho hd hx hy
theorem tPf{b:Bool}{w:Operand}(ho:o.op= .pick x y w:=by exact rfl)(hd:bI o.dst n=true:=by exact rfl)(hx:s.ev x=some (.t (.leaf (.bool b))):=by exact rfl)(hb:b=false:=by first|with_reducible assumption|with_reducible rfl|assumption|exact rfl)(hy:s.ev w=some p:=by exact rfl):bB P C n o s (s.putO o.dst p):=F5 hb ho hd hx hy
section
variable {Q:Exit→AS→Prop} {ops:Array Oper} {rest:List Oper} {s1:AS} {j:Nat} {b c:Bool}
end
section
variable {α:Type} [Inhabited α] [TC α] {l:List α} {sz:Nat} {es:List (List Tr)} {E:Nat×Nat×Nat}
theorem XY(ho:o.op= .call { callee:= .builtin .len,args:= #[x],argTypes:= #[T] }:=by exact rfl)(hd:bI o.dst n=true:=by exact rfl)(hx:s.ev x=some p:=by exact rfl)(hp:lX p=some (sz,es):=by exact rfl)(hT:EL P T E:=by infer_instance)(hl:RL es α l:=by infer_instance):bB P C n o s (s.putO o.dst (.t (.leaf (.int .i64 (l.length:Int))))):=rLn hT.h (by rw [hl.h];exact TC.len l) ho hd hx hp
theorem qF{E' by_:Nat}(ho:o.op= .indexAddr T x y:=by exact rfl)(hd:bI o.dst n=true:=by exact rfl)(hx:s.ev x=some p:=by exact rfl)(hp:lX p=some (sz,es):=by exact rfl)(hi:s.ev y=some (.t (.leaf (.int .i64 (k:Int)))):=by exact rfl)(hT:EL P T (E',sz,by_):=by infer_instance)(hl:RL es α l:=by infer_instance)(h:k<l.length:=by assumption):bB P C n o s (s.putO o.dst (.eptr (TC.cs (aT l k)))):=rIx h hT.h ho hd hx (by rw [← hl.h];exact hp) hi
theorem yI{E' by_:Nat}{z:α}(hz:z=aT l k)(h:k<l.length)(ho:o.op= .indexAddr T x y:=by exact rfl)(hd:bI o.dst n=true:=by exact rfl)(hx:s.ev x=some p:=by exact rfl)(hp:lX p=some (sz,TC.trs l):=by exact rfl)(hi:s.ev y=some (.t (.leaf (.int .i64 (k:Int)))):=by exact rfl)(hT:EL P T (E',sz,by_):=by infer_instance):bB P C n o s (s.putO o.dst (.eptr (TC.cs z))):=rIn hz h hT.h ho hd hx hp hi
section
variable {E' by_ len:Nat} {parts:Array (Nat×Operand)} {ps:List (Nat×List PV)} {zs cs:List PV}
theorem iF(l:List α)(ho:o.op= .buildSlice T len parts:=by exact rfl)(hd:bI o.dst n=true:=by exact rfl)(hp:mB s parts.toList=some ps:=by exact rfl)(hT:EL P T E:=by infer_instance)(hE:E=(E',TC.sz α,by_):=by exact rfl)(hz:ZR P E' zs:=by infer_instance)
 (hc:sS (fun i=>some (i*TC.sz α,TC.sz α)) (List.replicate len zs).flatten ps=some cs:=by exact rfl) (hle:s3 cs ((l.map TC.cs).flatten.map PV.t):=by exact jN) (hel:l.length=len:=by exact rfl) (hsz:0<TC.sz α:=by decide) (hzl:zs.length=TC.sz α:=by exact rfl) (hsm:len*TC.sz α≤16777216:=by decide):bB P C n o s (s.putO o.dst (.t (.row (TC.sz α) (TC.trs l)))):=rBs l (hE ▸ hT.h) hz.h ho hd hp hc hle hel hsz hzl hsm
theorem vP(l:List α)(ho:o.op= .buildSlice T len parts:=by exact rfl)(hd:bI o.dst n=true:=by exact rfl)(hp:mB s parts.toList=some ps:=by exact rfl)(hT:EL P T E:=by infer_instance)(hE:E=(E',TC.sz α,by_):=by exact rfl)(hz:ZR P E' zs:=by infer_instance)
 (hc:sS (fun i=>some (i*TC.sz α,TC.sz α)) (List.replicate len zs).flatten ps=some cs:=by exact rfl) (hle:s3 cs ((l.map TC.cs).flatten.map PV.t):=by exact jN) (hel:l.length=len:=by exact rfl) (hsz:0<TC.sz α:=by decide) (hzl:zs.length=TC.sz α:=by exact rfl) (hsm:len*TC.sz α≤16777216:=by decide):bB P C n o s (s.putO o.dst (.lit (TC.sz α) (TC.trs l))):=rBl l (hE ▸ hT.h) hz.h ho hd hp hc hle hel hsz hzl hsm
theorem qE(l:List α)(ho:o.op= .buildSlice T len parts:=by exact rfl)(hd:bI o.dst n=true:=by exact rfl)(hp:mB s parts.toList=some ps:=by exact rfl)(hT:EL P T E:=by infer_instance)(hE:E=(E',TC.sz α,by_):=by exact rfl)(hz:ZR P E' zs:=by infer_instance)
 (hc:sS (fun i=>some (i*TC.sz α,TC.sz α)) (List.replicate len zs).flatten ps=some cs:=by exact rfl) (hle:s3 cs ((l.map TC.cs).flatten.map PV.t):=by exact jN) (hel:l.length=len:=by exact rfl) (hsz:0<TC.sz α:=by decide) (hzl:zs.length=TC.sz α:=by exact rfl) (hsm:len*TC.sz α≤16777216:=by decide):bB P C n o s ((⟨s.env,s.st.addRow ⟨E',TC.sz α,TC.trs l,false⟩⟩:AS).putO o.dst (.acc (TC.sz α) (TC.trs l) s.st.rows.length)):=rBa l (hE ▸ hT.h) hz.h ho hd hp hc hle hel hsz hzl hsm
end
theorem lG{E' by_ r m:Nat}{a b:List α}{row:nR}(h:a.length+b.length≤68719476736)(ho:o.op= .call { callee:= .builtin .append,args:= #[x,y],argTypes:= #[T,T] }:=by exact rfl)(hd:bI o.dst n=true:=by exact rfl)
 (hx:s.ev x=some (.acc (TC.sz α) (TC.trs a) r):=by exact rfl) (hrow:s.st.rows[r]?=some row:=by exact rfl) (hes:row.es=TC.trs a:=by exact rfl) (hT:EL P T E:=by infer_instance) (hE0:E=(E',TC.sz α,by_):=by exact rfl) (hz:ZE P E' m:=by infer_instance) (hm:m=TC.sz α:=by exact rfl) (hE:row.E=E':=by exact rfl) (hw:row.whole=false:=by exact rfl) (hy:s.ev y=some p:=by exact rfl) (hp:lX p=some (TC.sz α,TC.trs b):=by exact rfl)
 (hb:0<by_:=by decide) (hb2:by_≤2048:=by decide):bB P C n o s ((⟨s.env,s.st.setRow r { row with es:=TC.trs (a++b) }⟩:AS).putO o.dst (.acc (TC.sz α) (TC.trs (a++b)) r)):=rAp h (hE0 ▸ hT.h) (hm ▸ hz.h) ho hd hx hrow hes hE hw hy hp hb hb2
end
end
section
variable {P:Program} {C:oP} {n:Nat} {s:AS} {fn:Func} {R:PV→c5→Prop} {e:Exit} {st':c5} {p p1 p2 p3 q:PV}
theorem qf1(hR:R q st':=by exact⟨rfl,rfl⟩)(hr:U0 P s fn.results.toList [p]:=by first|exact⟨rfl,trivial⟩|exact⟨⟨_,_,_,rfl,rfl,SH.h,rfl,rfl⟩,trivial⟩)(he:e= .normal∨e= .ret:=by first|exact .inr rfl|exact .inl rfl)
 (hst:tN s.st st':=by exact XS) (hp:kZ C.st st':=by exact VY) (hle:PV.Le p q:=by exact jN) (hk:PV.okIn st' q=true:=by exact rfl):DX P C n fn R e s:=DX.mk he hr rfl hst hp hle hk hR
theorem qf2(hR:R q st':=by exact⟨rfl,rfl⟩)(hr:U0 P s fn.results.toList [p1,p2]:=by first|exact⟨rfl,rfl,trivial⟩|exact⟨⟨_,_,_,rfl,rfl,SH.h,rfl,rfl⟩,rfl,trivial⟩|exact⟨rfl,⟨_,_,_,rfl,rfl,SH.h,rfl,rfl⟩,trivial⟩)(he:e= .normal∨e= .ret:=by first|exact .inr rfl|exact .inl rfl)
 (hst:tN s.st st':=by exact XS) (hp:kZ C.st st':=by exact VY) (hle:PV.Le (.tup [p1,p2]) q:=by exact jN) (hk:PV.okIn st' q=true:=by exact rfl):DX P C n fn R e s:=DX.mk he hr rfl hst hp hle hk hR
theorem qf3(hR:R q st':=by exact⟨rfl,rfl⟩)(hr:U0 P s fn.results.toList [p1,p2,p3]:=by first|exact⟨rfl,rfl,rfl,trivial⟩|exact⟨⟨_,_,_,rfl,rfl,SH.h,rfl,rfl⟩,rfl,rfl,trivial⟩)(he:e= .normal∨e= .ret:=by first|exact .inr rfl|exact .inl rfl)
 (hst:tN s.st st':=by exact XS) (hp:kZ C.st st':=by exact VY) (hle:PV.Le (.tup [p1,p2,p3]) q:=by exact jN) (hk:PV.okIn st' q=true:=by exact rfl):DX P C n fn R e s:=DX.mk he hr rfl hst hp hle hk hR
end
section
variable {P:Program} {C:oP} {n:Nat} {s:AS} {o:Oper} {x y:Operand} {T yT:TypeId}
theorem tNx{i:Nat}(ho:o.op= .binOp .add T x y yT:=by exact rfl)(hd:bI o.dst n=true:=by exact rfl)(hx:s.ev x=some (pN i):=by exact rfl)(hy:s.ev y=some (pI 1):=by exact rfl)(hb:i<9223372036854775807:=by omega):bB P C n o s (s.putO o.dst (pN (i+1))):=
 bB.addI ho hd hx hy (by omega) (by omega)
theorem rA{s1:AS}(h:bB P C n o s s1:=by first
 |exact bF
 |exact bZ
 |exact eE
 |exact wZ
 |exact vM
 |exact jO
 |exact XY
 |exact rW
 |exact uL
 |exact rEq
 |exact rLt
 |exact JS
 |exact YR
 |exact qF
 |exact tNx
 |exact tAl
 |exact tPt
 |exact tPf
 |exact rSe
 |exact rSn
 |exact rNe
 |exact rLe
 |exact rGt
 |exact rGe
 |exact rNf
 |exact rAw
 |exact rSw
 |exact tF1):bB P C n o s s1:=h
section
variable {Q:Exit→AS→Prop} {ops:Array Oper} {rest:List Oper} {s1:AS} {j d k:Nat} {b c b':Bool} {G':Prop}
theorem qU(hg:o.guard=none:=by exact rfl)(ho:bB P C n o s s1)(h:AL P C n ops rest Q s1):AL P C n ops (o::rest) Q s:=q1 ho h hg
theorem qK(hg:o.guard=some (j,c):=by exact rfl)(hj:(ops[j]?).bind (·.dst)=some d:=by exact rfl)(hb:s.lk d=some (.t (.leaf (.bool b))):=by exact rfl)(hv:b=b':=by first|with_reducible assumption|with_reducible exact @rfl Bool true|with_reducible exact @rfl Bool false|assumption|exact rfl)(hne:(b'==c)=false:=by exact rfl)(hd:bI o.dst n=true:=by exact rfl)(h:AL P C n ops rest Q (s.putO o.dst (.tup []))):AL P C n ops (o::rest) Q s:=qk hv h hg hj hb hne hd
theorem qV(hg:o.guard=some (j,c):=by exact rfl)(hj:(ops[j]?).bind (·.dst)=some d:=by exact rfl)(hb:s.lk d=some (.t (.leaf (.bool b))):=by exact rfl)(hv:b=c:=by first|with_reducible assumption|with_reducible rfl|assumption|exact rfl)(ho:bB P C n o s s1)(h:AL P C n ops rest Q s1):AL P C n ops (o::rest) Q s:=qg hv ho h hg hj hb
theorem qCt{c:Operand}{b:Bool}{cx cy:Code}(hc:s.ev c=some (.t (.leaf (.bool b))):=by exact rfl)(e:b=true:=by first|with_reducible rfl|with_reducible assumption|exact rfl|assumption)(h:cQ P C n cx Q s):cQ P C n (.cond c cx cy) Q s:=aiB e h hc
theorem qCf{c:Operand}{b:Bool}{cx cy:Code}(hc:s.ev c=some (.t (.leaf (.bool b))):=by exact rfl)(e:b=false:=by first|with_reducible rfl|with_reducible assumption|exact rfl|assumption)(h:cQ P C n cy Q s):cQ P C n (.cond c cx cy) Q s:=U5 e h hc
end
end
theorem grR{k:Nat}{G G':Prop}(h:GR k G G':=by
 repeat(first
  |exact gr0
  |apply grS (fun h=>qU (ho:=rA) (h:=h))
  |apply grS (fun h=>qK (h:=h))
  |apply grS (fun h=>qku h)
  |apply grS (fun h=>qV (ho:=rA) (h:=h))
  |apply grS (fun h=>qN h)
  |apply grS (fun h=>qS h)
  |apply grS (fun h=>qR h)
  |apply grS (fun h=>cQ.skip h)
  |apply grS (fun h=>cQ.block h)
  |apply grS (fun h=>qCt (h:=h))
  |apply grS (fun h=>qCf (h:=h)))):GR k G G':=h
theorem smR{β:Type}{v r:β}(h:Hd (some v) (fun v=>v=r)):v=r:=(vI h:)
theorem skR{β σ:Type}{f:σ→Option β}{x r:β}(h:Hd (some (.inl x)) (SK f (fun v=>v=r))):x=r:=(skL (vI h):)
theorem gQ(k:Nat){G G':Prop}(h':G')(h:GR k G G':=by exact grR):G:=h.h h'
theorem gE(k:Nat){G G':Prop}(h:GR k G G':=by exact grR)(h':G':=by
 first
  |(refine cQ.ret ?_;(first|obtain rfl:_=_:=smR (by assumption)|obtain rfl:_=_:=skR (by assumption)|(have e:=lkR (vI (by assumption));obtain rfl:_=_:=e)|(have e:=lwR (vI (by assumption));obtain rfl:_=_:=e));(first|exact qf1|exact qf2|exact qf3|exact qe (ps:= [_,_,_,_]) ⟨rfl,rfl⟩ ⟨rfl,rfl,rfl,rfl,trivial⟩|exact qe (ps:= [_,_,_,_,_,_]) ⟨rfl,rfl⟩ ⟨rfl,rfl,rfl,rfl,rfl,rfl,trivial⟩))
  |exact avC ⟨_,vI (by assumption),FE⟩
  |exact lpN (by assumption) ⟨_,vI (by assumption),FE⟩
  |exact lwN ⟨_,vI (by assumption),FE⟩
  |(refine cQ.exit ?_;(first|exact lpX ⟨_,by assumption,FE⟩|exact lpB ⟨_,vI (by assumption),FE⟩|exact lwB ⟨_,vI (by assumption),FE⟩))
  |exact lwB ⟨_,vI (by assumption),FE⟩
  |((first|obtain rfl:_=_:=smR (by assumption)|obtain rfl:_=_:=skR (by assumption));(first|exact qf1|exact qf2|exact qf3))):G:=h.h h'
end Go.Proofs.YtfcoaagbccmahaaGreat

namespace Go.Proofs.YtfcoaagbccmahaaGreat
open Go.RowKit Go.Proofs
set_option maxRecDepth 100000
set_option maxHeartbeats 4000000
theorem apB(d:DS):b7 Tryz.prog 130 [.ptr 0 0] (d.box 133) (fun r t=>r=pI d.byte∧t=d.next.box 133):=by
 refine qI Tryz.func130 (fun C hC=>?_)
 refine cQ.fact (cI 0 0 rfl rfl rfl (rB d.code)) (fun hl0=>?_)
 refine gQ 11 ?_;refine q1 (bB.mulW rfl rfl rfl rfl) (q1 (bB.addW rfl rfl rfl rfl) ?_)
 refine gQ 5 ?_;refine dW (dI [0] bF (dI [13] uL (dI [14] bZ (dD [15] eE (dI [16] (bB.shrI rfl rfl rfl rfl (by decide) (UE (KD _)).1 (UE (KD _)).2) (dI [0] bF (dI [18] uL (dI [19] bZ (dD [20] eE (dI [21] (bB.shrI rfl rfl rfl rfl (by decide) (UE (KD _)).1 (UE (KD _)).2) (dI [17,22] (bB.xorI rfl rfl rfl rfl) (dI [23] (bB.andI rfl rfl rfl rfl) (dI [24] bF (dN ?_))))))))))))))
 refine gQ 2 ?_;refine dW (dI [0] bF (dI [25] uL (dI [26] bZ (dD [27] eE (dI [0] bF (dI [29] uL (dI [30] bZ (dD [31] eE (dI [32] XY (dI [28,33] rLt (dN ?_)))))))))))
 refine cQ.cond rfl (fun h1=>?_) (fun h1=>?_)
 ·have h1n:d.p<d.code.length:=by have:=of_decide_eq_true h1;omega
  rw [show d.byte=_ from dif_pos h1n,show d.next=⟨d.code,d.p+1,afK d.h⟩ by unfold DS.next;rw [if_pos h1n]]
  refine gQ 1 ?_;refine dW (dI [3] bF (dI [0] bF (dI [36] uL (dI [37] bZ (dD [38] eE (dI [0] bF (dI [40] uL (dI [41] bZ (dD [42] eE (dI [39,43] (bB.index (k:=d.p) rfl rfl rfl rfl rfl (A4 h1n) asL.h) (dI [44] (bB.loadEptr1 (d:= .leaf (.int .u8 ((d.code[d.p]).toNat:Int))) rfl rfl rfl sh5.h rfl) (dI [45] (bB.convI rfl rfl rfl ⟨_,Tryz.underlying5⟩ Tryz.underlying3 (by omega) (by have:=UInt8.toNat_lt (d.code[d.p]);omega)) (dI [35,46] (bB.addW rfl rfl rfl rfl) (dI [47] (bB.andI rfl rfl rfl rfl) (dI [48] bF (dN ?_))))))))))))))))
  refine gQ 16 ?_;exact cQ.ret qf1
 ·have h1n: ¬d.p<d.code.length:=by have:=of_decide_eq_false h1;omega
  rw [show d.byte=_ from dif_neg h1n,show d.next=⟨d.code,d.p,afK d.h⟩ by unfold DS.next;rw [if_neg h1n]]
  refine gQ 6 ?_;exact cQ.ret qf1
theorem HZ(d:DS):b7 Tryz.prog 130 [.ptr 0 0] (d.box 133) (fun r t=>r=pN d.byteN∧t=d.next.box 133):=by unfold pN;rw [d.byteN_eq];exact apB d
theorem fI(d:DS)(n:Nat):b7 Tryz.prog 73 [.ptr 0 0,pN n] (d.box 133) (fun r t=>r=pN (d.below n)∧t=(d.after n).box 133):=by
 refine qI Tryz.func73 (fun C hC=>?_)
 have hb0:=d.byteN_le
 have hb1:=d.next.byteN_le
 have hb2:=d.next.next.byteN_le
 have hb3:=d.next.next.next.byteN_le
 unfold DS.below DS.after
 refine gQ 10 ?_;refine cQ.cond rfl (fun h1=>?_) (fun h1=>?_)
 ·obtain rfl:n=0:=by have:=of_decide_eq_true h1;omega
  refine gQ 4 ?_;exact cQ.ret qf1
 have h1n: ¬n=0:=by have:=of_decide_eq_false h1;omega
 rw [if_neg h1n,if_neg h1n]
 refine gQ 7 ?_;refine cQ.cond rfl (fun h2=>?_) (fun h2=>?_)
 ·have h2n:n≤256:=by have:=of_decide_eq_true h2;omega
  rw [if_pos h2n,if_pos h2n]
  refine gQ 3 ?_;refine q1 (eU [0] [] Tryz.func130 (HZ d)) ?_;refine gQ 1 ?_;refine q1 (bB.remN (a:=d.byteN) (b:=n) rfl rfl rfl rfl (by omega) (by omega)) ?_;refine gQ 2 ?_;exact cQ.ret qf1
 have h2n: ¬n≤256:=by have:=of_decide_eq_false h2;omega
 rw [if_neg h2n,if_neg h2n]
 refine gQ 4 ?_;refine q1 (eU [0] [] Tryz.func130 (HZ d)) ?_;refine gQ 5 ?_;refine q1 (eU [0] [] Tryz.func130 (HZ d.next)) ?_;refine gQ 5 ?_;refine q1 (eU [0] [] Tryz.func130 (HZ d.next.next)) ?_;refine gQ 5 ?_;refine q1 (eU [0] [] Tryz.func130 (HZ d.next.next.next)) ?_;refine gQ 5 ?_;refine q1 (bB.mulI rfl rfl rfl rfl (c:=((d.byteN*16777216:Nat):Int)) (by omega) (by omega)) (q1 bF (q1 (bB.mulI rfl rfl rfl rfl (c:=((d.next.byteN*65536:Nat):Int)) (by omega) (by omega)) (q1 (bB.addI rfl rfl rfl rfl (c:=((d.byteN*16777216+d.next.byteN*65536:Nat):Int)) (by omega) (by omega)) (q1 bF (q1 (bB.mulI rfl rfl rfl rfl (c:=((d.next.next.byteN*256:Nat):Int)) (by omega) (by omega)) (q1 (bB.addI rfl rfl rfl rfl (c:=((d.byteN*16777216+d.next.byteN*65536+d.next.next.byteN*256:Nat):Int)) (by omega) (by omega)) (q1 bF (q1 (bB.addI rfl rfl rfl rfl (c:=((d.byteN*16777216+d.next.byteN*65536+d.next.next.byteN*256+d.next.next.next.byteN:Nat):Int)) (by omega) (by omega)) (q1 bF (q1 (bB.remN (b:=n) rfl rfl rfl rfl (by omega) (by omega)) ?_))))))))))
 refine gQ 2 ?_;exact cQ.ret qf1
theorem l6(d:DS)(n:Nat):b7 Tryz.prog 45 [.ptr 0 0,pN n] (d.box 133) (fun r t=>r=pB (decide (d.below n=0))∧t=(d.after n).box 133):=by
 refine qI Tryz.func45 (fun C hC=>?_)
 rw [show decide (d.below n=0)=decide (((d.below n:Nat):Int)=0) from decide_eq_decide.2 (by omega)]
 refine gQ 8 ?_;refine q1 (eU [0] [] Tryz.func73 (fI d n)) ?_;refine gQ 3 ?_;exact cQ.ret qf1
theorem f7(d:DS)(l:LB)(hl:0<l.length):b7 Tryz.prog 48 [.ptr 0 0,rS l] (d.box 133) (fun r t=>r=pS (d.pick l)∧t=(d.after l.length).box 133):=by
 refine qI Tryz.func48 (fun C hC=>?_)
 have hx:d.below l.length<l.length:=d.below_lt hl
 rw [DS.pick_eq hx]
 refine gQ 10 ?_;refine q1 (eU [0] [] Tryz.func73 (fI d l.length)) (q1 (bB.index (k:=d.below l.length) rfl rfl rfl rfl rfl (aa5 hx) aiD.h) (q1 (bB.loadEptr1 (d:= .leaf (.string (l[d.below l.length]))) rfl rfl rfl sh9.h rfl) ?_))
 refine gQ 2 ?_;exact cQ.ret qf1
theorem arD(code:List UInt8)(hb:code.length≤1048576):am6 Tryz.prog 43 [rU code] 133 (DS.start code).cells:=by
 unfold am6
 refine qI Tryz.func43 (fun C hC=>?_)
 refine cQ.fact (acA 0 rfl rfl (rB _)) (fun hl1=>?_)
 refine gQ 2 ?_;refine q1 (bB.moveAny (.inl rfl)) ?_;refine gQ 5 ?_;refine q1 (bB.addI rfl rfl rfl rfl (c:=((28803+code.length:Nat):Int)) (by omega) (by omega)) ?_;refine gQ 8 ?_;refine cQ.loopJ (ι:=Nat×Int) (fun⟨i,h⟩=>i≤code.length∧i≤4000∧arC code=((code.take 4000).drop i).foldl F2 h) (fun⟨i,h⟩=>⟨[(0,rU code),(3,pI h),(4,pN i)],⟨[],[]⟩⟩) (fun⟨i,h⟩=>code.length-i) (0,(28803+(code.length:Int))) ⟨Nat.zero_le _,Nat.zero_le _,rfl⟩ ?_ ?_
 ·exact FE
 rintro⟨i,h⟩ ⟨hi1,hi2,hi3⟩
 have fin:code.length≤i∨4000≤i→arC code=h:=fun k=>an1 k hi3
 refine gQ 8 ?_;refine AL.splitB 12 rfl (fun g3=>?_) (fun g3=>?_)
 ·have g3n:i<code.length:=by have:=of_decide_eq_true g3;omega
  refine gQ 4 ?_;refine cQ.cond rfl (fun h4=>?_) (fun h4=>?_)
  ·have h4n:=of_decide_eq_true h4
   refine gQ 5 ?_;refine q1 (bB.mulW rfl rfl rfl rfl) (q1 bF (q1 bF (q1 (bB.index (k:=i) rfl rfl rfl rfl rfl (A4 g3n) asL.h) (q1 (bB.loadEptr1 (d:= .leaf (.int .u8 ((code[i]).toNat:Int))) rfl rfl rfl sh5.h rfl) (q1 (bB.convI rfl rfl rfl ⟨_,Tryz.underlying5⟩ Tryz.underlying3 (by omega) (by have:=UInt8.toNat_lt (code[i]);omega)) (q1 (bB.addW rfl rfl rfl rfl) (q1 (bB.addW rfl rfl rfl rfl) (q1 (bB.andI rfl rfl rfl rfl) ?_))))))))
   refine gQ 7 ?_;exact⟨(i+1,F2 h code[i]),⟨by omega,by omega,amG (by omega) (by omega) hi3 rfl⟩,FE,by dsimp only;omega⟩
  ·obtain rfl:=fin (.inr (by have:=of_decide_eq_false h4;omega))
   refine cQ.exit ?_;refine gQ 4 ?_;refine q1 rW (q1 (eX (dC (DS.start code))) ?_)
   refine gQ 2 ?_;exact cQ.ret (qf1 (st':=⟨[some ⟨133,dC (DS.start code)⟩],[]⟩) (q:= .ptr 0 0) ⟨0,rfl,rfl,fun i x hx=>(by rcases i with _|i<;>simp at hx<;>simp),rfl⟩)
 ·refine gQ 4 ?_;refine cQ.cond rfl (fun h4=>?_) (fun h4=>?_)
  ·exact absurd (h4.symm.trans rfl) (by decide)
  obtain rfl:=fin (.inl (by have:=of_decide_eq_false g3;omega))
  refine cQ.exit ?_;refine gQ 4 ?_;refine q1 rW (q1 (eX (dC (DS.start code))) ?_)
  refine gQ 2 ?_;exact cQ.ret (qf1 (st':=⟨[some ⟨133,dC (DS.start code)⟩],[]⟩) (q:= .ptr 0 0) ⟨0,rfl,rfl,fun i x hx=>(by rcases i with _|i<;>simp at hx<;>simp),rfl⟩)
end Go.Proofs.YtfcoaagbccmahaaGreat

namespace Go.Proofs.YtfcoaagbccmahaaGreat
open Go.RowKit
theorem anM{w:World}{xs:List Int}{v:Value}(h:KE w (.row 1 (xs.map fun n=> [Tr.leaf (.int .u8 n)])) v): ∃code:List UInt8,(xs.map fun n=> [Tr.leaf (.int .u8 n)])=lC code:=by
 have hr: ∀x∈xs,0≤x∧x≤255:=by
  intro x hx
  obtain⟨i,hi,rfl⟩:=List.mem_iff_getElem.1 hx
  cases h with
  |row c h1 h2 h3 h4=>
   have:=h4 i [Tr.leaf (.int .u8 xs[i])] (by simp [hi]) 0 _ rfl
   have:=(this.leaf_eq).2
   simpa [sT,Lit.wf,IntKind.min,IntKind.max,IntKind.bits,IntKind.signed] using this
 refine⟨xs.map fun n=>UInt8.ofNat n.toNat,?_⟩
 unfold lC
 rw [List.map_map]
 refine List.map_congr_left fun x hx=>?_
 have:=hr x hx
 have h2:(UInt8.ofNat x.toNat).toNat=x.toNat:=by
  rw [UInt8.toNat_ofNat']
  omega
 simp only [Function.comp,h2]
 rw [Int.toNat_of_nonneg this.1]
end Go.Proofs.YtfcoaagbccmahaaGreat

namespace Go.Proofs.YtfcoaagbccmahaaGreat
open Go.RowKit
theorem HV.nil{w:World}:HV w [] []:=trivial
theorem HV.cons{w:World}{p:PV}{ps:List PV}{v:Value}{vs:List Value}(h:RV0 w p v)(k:HV w ps vs):HV w (p::ps) (v::vs):=⟨h,k⟩
end Go.Proofs.YtfcoaagbccmahaaGreat

namespace Go.Proofs.YtfcoaagbccmahaaGreat
open Go.RowKit Go.Proofs
theorem aqL:(Tryz.prog.info? 52).map (·.size)=some 2:=by kernel_rfl
end Go.Proofs.YtfcoaagbccmahaaGreat

namespace Go.Proofs.YtfcoaagbccmahaaGreat
def YK{α:Type}(p:α→Bool):List α→Nat→Int
 | [],_=> -1
 |a::l,i=>if p a then i else YK p l (i+1)
theorem al4{α:Type}{p:α→Bool}{l:List α}{k:Nat}(h:k<l.length):YK p (l.drop k) k=if p l[k] then(k:Int) else YK p (l.drop (k+1)) (k+1):=by
 rw [List.drop_eq_getElem_cons h,YK]
end Go.Proofs.YtfcoaagbccmahaaGreat

namespace Go.Proofs.YtfcoaagbccmahaaGreat
open Go.RowKit Go.Proofs
set_option maxRecDepth 100000 in
set_option maxHeartbeats 1000000 in
theorem YO{α:Type}(tr:α→List Tr)(p:α→Bool)(xs:List α)(g:FuncId)(caps:Array Value)(hg: ∀(args:Array Value) (w:World),(callFunc g args).run Tryz.prog w= .ok (.enter g args) w)(hl: ∀x,(tr x).length=2)(s:Value)(w:World)
 (H: ∀x∈xs,∀cs w',uM w w'→gK w' (tr x) cs→Calls Tryz.prog g (#[.agg ⟨cs⟩]++caps) w' fun e w''=>e= .returned (.bool (p x))∧uM w' w'')
 (hs:KE w (.row 2 (xs.map tr)) s):
 Calls Tryz.prog 183 #[s,.func (.func g) #[] caps] w fun e w'=>e= .returned (.int .i64 (YK p xs 0))∧uM w w':=by
 obtain⟨a,cap,rfl,hlc,hm⟩:=hs.shape
 unfold maxLen at hm
 rw [List.length_map] at hlc ⊢
 rw [List.length_map] at hs
 have HS:=Lib.hid hs
 have HH:=Lib.hid H
 have HL:=Lib.hid hl
 clear hs H hl
 go_enter Tryz.func183,Tryz.ntmps183
 go_wp2_with fail
 go_loopw [5,8] (fun _ i wr=> ∃k:Nat,k≤xs.length∧i= .int .i64 k∧uM w wr∧Hid (YK p xs 0=YK p (xs.drop k) k)) (fun _ i _=>xs.length-(intOf i).toNat)
 case atStart=>exact⟨0,Nat.zero_le _,rfl,.refl _,rfl⟩
 case round=>
  obtain⟨k,hk,rfl,hw,HE⟩:=hrel
  by_cases hlt:k<xs.length
  ·obtain⟨b,off,cs,rfl,hb,hcs,hc⟩:=(HS.out.ext hw).at2 (k:=k) (e:=tr xs[k]) (by rw [List.getElem?_map,List.getElem?_eq_getElem hlt];rfl)
   have HST:=Lib.hid (al4 (p:=p) hlt)
   have HM:=Lib.hid (List.getElem_mem hlt)
   have HCS:=Lib.hid hcs
   have HC:=Lib.hid hc
   have HI:Hid ((Tryz.prog.info? 52).map (·.size)=some cs.length):=by rw [← hcs.length,HL.out];exact aqL
   clear hcs hc
   go_wp2_with (refine k7 rfl 52 (.tmp 14) rfl b (off+k*2) rfl cs _ Tryz.underlying52 HI.out HC.out ?_)
   refine(HH.out _ HM.out _ _ hw HCS.out).mono ?_;rintro e w1 ⟨rfl,hw1⟩
   have HW1:=Lib.hid (hw.trans hw1)
   clear hw1
   cases hp:p xs[k]
   ·have HP:=Lib.hid hp
    clear hp
    go_wp2_with fail
    go_roundw
    case rel=>exact⟨k+1,by omega,by go_num,HW1.out,by rw [HE.out,HST.out,HP.out];rfl⟩
    case measure=>simp [intOf];omega
   ·have HP:=Lib.hid hp
    clear hp
    go_wp2_with fail
    go_ret
    exact⟨ak1 (by rw [HE.out,HST.out,HP.out];rfl),HW1.out⟩
  ·have hkl:k=xs.length:=by omega
   go_wp2_with fail
   go_ret
   exact⟨ak1 (by rw [HE.out,hkl,List.drop_length];rfl),hw⟩
end Go.Proofs.YtfcoaagbccmahaaGreat

namespace Go.Proofs.YtfcoaagbccmahaaGreat
open Go.RowKit
structure NK (S:Nat→Prop) (w w':World):Prop where
 os:w'.os=w.os
 tape:w'.tape=w.tape
 output:w'.output=w.output
 size:w.heap.size≤w'.heap.size
 block: ∀b,b<w.heap.size→ ¬S b→w'.heap[b]?=w.heap[b]?
theorem NK.refl(S:Nat→Prop)(w:World):NK S w w:=⟨rfl,rfl,rfl,Nat.le_refl _,fun _ _ _=>rfl⟩
theorem NK.trans{S:Nat→Prop}{a b c:World}(h:NK S a b)(k:NK S b c):NK S a c:=
 ⟨k.os.trans h.os,k.tape.trans h.tape,k.output.trans h.output,Nat.le_trans h.size k.size,fun x hx hs=>(k.block x (Nat.lt_of_lt_of_le hx h.size) hs).trans (h.block x hx hs)⟩
theorem NK.mono{S S':Nat→Prop}{a b:World}(h:NK S a b)(hS: ∀x,S x→S' x):NK S' a b:=⟨h.os,h.tape,h.output,h.size,fun x hx hn=>h.block x hx fun hs=>hn (hS x hs)⟩
theorem NK.of_ext{S:Nat→Prop}{a b:World}(h:uM a b):NK S a b:=⟨h.os,h.tape,h.output,h.size,fun x hx _=>h.block x hx⟩
theorem NK.of_grown{S:Nat→Prop}{B:Nat}{a b:World}(h:a.grownBy b (some B))(hB:S B):NK S a b:=⟨h.os,h.tape,h.output,h.size,fun x hx hs=>h.block x hx (by simp;rintro rfl;exact hs hB)⟩
theorem NK.ext{S:Nat→Prop}{a b c:World}(h:uM a b)(k:NK S b c)(hS: ∀x,S x→a.heap.size≤x):uM a c:=
 ⟨k.os.trans h.os,k.tape.trans h.tape,k.output.trans h.output,Nat.le_trans h.size k.size,fun x hx=>(k.block x (Nat.lt_of_lt_of_le hx h.size) (fun hs=>by have:=hS x hs;omega)).trans (h.block x hx)⟩
theorem A1.focus{w:World}{sz:Nat}{es:List (List Tr)}{a:Option Addr}{n cap i:Nat}{S:Nat→Prop}{e:List Tr}(h:A1 w (.row sz es) (.slice a n cap) S)(hi:es[i]?=some e)(hl: ∀x∈es,x.length=sz):
 ∃b off E arr cs T,a=some ⟨b,off,none⟩∧OB w b E arr∧S b∧uN w e cs T∧(∀x,T x→S x∧x≠b)∧cs.length=sz∧(0<sz→off+i*sz+sz≤arr.size)∧(∀j v,cs[j]?=some v→arr[off+i*sz+j]?=some v)∧
  ∀w' cs' e',e'.length=sz→OB w' b E (splice arr (off+i*sz) cs')→uN w' e' cs' T→(∀x,x<w.heap.size→S x→x≠b→ ¬T x→w'.heap[x]?=w.heap[x]?)→off+i*sz+sz≤arr.size→
   A1 w' (.row sz (es.set i e')) (.slice a n cap) S:=by
 cases h with
 |row c T h1 h2 h3 h4 h5 h6=>
  have hne:es≠ []:=by rintro rfl;simp at hi
  obtain⟨b,off,E,arr,rfl,hob,hs,hc⟩:=h3 hne
  have hlt:i<es.length:=(List.getElem?_eq_some_iff.1 hi).1
  have hel:e.length=sz:=hl e (List.mem_of_getElem? hi)
  have hgj: ∀j,j<sz→ ∃d,e[j]?=some d:=fun j hj=>⟨e[j]'(by omega),List.getElem?_eq_getElem _⟩
  refine⟨b,off,E,arr,(List.range sz).map (c i),fun x=> ∃j,j<sz∧T i j x,rfl,hob,hs,?_,?_,by simp,?_,?_,?_⟩
  ·refine⟨by simp [hel],fun j x=>j<sz∧T i j x,?_,?_,?_⟩
   ·intro j d hd
    have hj:j<sz:=by rw [← hel];exact(List.getElem?_eq_some_iff.1 hd).1
    exact⟨c i j,by simp [hj],(h4 i e hi j d hd).mono fun x hx=>⟨hj,hx⟩⟩
   ·intro j d hd x hx
    exact⟨j,hx⟩
   ·intro j d hd j' d' hd' hne x hx hx'
    exact h6 i e hi j d hd i e hi j' d' hd' (fun _=>hne) x hx.2 hx'.2
  ·rintro x ⟨j,hj,hx⟩
   obtain⟨d,hd⟩:=hgj j hj
   exact⟨h5 i e hi j d hd x hx,(hc i e hi j d hd).2 x hx⟩
  ·intro h0
   obtain⟨d,hd⟩:=hgj (sz-1) (by omega)
   have:=(hc i e hi _ d hd).1
   have:=(Array.getElem?_eq_some_iff.1 this).1
   omega
  ·intro j v hv
   rw [List.getElem?_map] at hv
   rcases Nat.lt_or_ge j sz with hj|hj
   ·rw [List.getElem?_range hj] at hv
    simp at hv
    obtain⟨d,hd⟩:=hgj j hj
    rw [← hv]
    exact(hc i e hi j d hd).1
   ·rw [List.getElem?_eq_none (by simpa using hj)] at hv
    simp at hv
  ·intro w' cs' e' hel' hob' how hx hfit
   obtain⟨hcl,U,u1,u2,u3⟩:=how
   have hcl:cs'.length=sz:=by omega
   have hset:(es.set i e').length=es.length:=by simp
   have get: ∀i' e2,(es.set i e')[i']?=some e2→(i'=i∧e2=e')∨(i'≠i∧es[i']?=some e2):=by
    intro i' e2 h
    rw [List.getElem?_set] at h
    split at h
    ·rename_i hii
     subst hii
     simp only [Option.some.injEq] at h
     exact .inl ⟨rfl,h.symm⟩
    ·rename_i hii
     exact .inr ⟨fun e=>hii e.symm,h⟩
   have keep: ∀i' e2,i'≠i→es[i']?=some e2→ ∀j d,e2[j]?=some d→ ∀x,T i' j x→x<w.heap.size→w'.heap[x]?=w.heap[x]?:=by
    intro i' e2 hne' he2 j d hd x hx' hxl
    refine hx x hxl (h5 i' e2 he2 j d hd x hx') ((hc i' e2 he2 j d hd).2 x hx') ?_;rintro⟨j',hj',hT⟩
    obtain⟨d',hd'⟩:=hgj j' hj'
    exact h6 i' e2 he2 j d hd i e hi j' d' hd' (fun h=>absurd h hne') x hx' hT
   rw [← hset]
   refine .row (fun i' j=>if i'=i then(cs'[j]?).getD undef else c i' j) (fun i' j=>if i'=i then U j else T i' j) (by rw [hset];exact h1) h2 ?_ ?_ ?_ ?_
   ·intro _
    refine⟨b,off,E,_,rfl,hob',hs,?_⟩
    intro i' e2 he2 j d hd
    rcases get i' e2 he2 with⟨rfl,rfl⟩|⟨hne',he2⟩
    ·simp only [if_true]
     have hj:j<sz:=by rw [← hel'];exact(List.getElem?_eq_some_iff.1 hd).1
     refine⟨?_,fun x hx'=>?_⟩
     ·have h7:=ahJ (arr:=arr) (o:=off+i'*sz) (vs:=cs') (by omega)
      have h8:(((splice arr (off+i'*sz) cs').toList.drop (off+i'*sz)).take cs'.length)[j]?=cs'[j]?:=by rw [h7]
      rw [List.getElem?_take,if_pos (by omega),List.getElem?_drop] at h8
      have h9:cs'[j]?=some (cs'[j]'(by omega)):=List.getElem?_eq_getElem _
      rw [h9] at h8 ⊢
      simpa using h8
     ·obtain⟨j2,hj2,hT⟩:=u2 j d hd x hx'
      obtain⟨d2,hd2⟩:=hgj j2 hj2
      exact(hc i' e hi j2 d2 hd2).2 x hT
    ·simp only [if_neg hne']
     obtain⟨q1,q2⟩:=hc i' e2 he2 j d hd
     have hl2:e2.length=sz:=hl e2 (List.mem_of_getElem? he2)
     have hj:j<sz:=by rw [← hl2];exact(List.getElem?_eq_some_iff.1 hd).1
     refine⟨?_,q2⟩
     rw [← q1]
     unfold splice
     have hsz:0<sz:=by omega
     rcases Nat.lt_or_ge i' i with hlt'|hge
     ·have h10:(i'+1)*sz≤i*sz:=Nat.mul_le_mul_right _ hlt'
      rw [Nat.succ_mul] at h10
      rw [List.getElem?_toArray,List.append_assoc,List.getElem?_append_left (by simp;omega),List.getElem?_take,if_pos (by omega)]
      simp
     ·have h10:(i+1)*sz≤i'*sz:=Nat.mul_le_mul_right _ (by omega)
      rw [Nat.succ_mul] at h10
      rw [List.getElem?_toArray,List.getElem?_append_right (by simp;omega),List.getElem?_drop]
      simp only [List.length_append,List.length_take,Array.length_toList]
      rw [Nat.min_eq_left (by omega),Array.getElem?_toList]
      congr 1
      omega
   ·intro i' e2 he2 j d hd
    rcases get i' e2 he2 with⟨rfl,rfl⟩|⟨hne',he2⟩
    ·simp only [if_true]
     obtain⟨v,hv,ho⟩:=u1 j d hd
     simpa [hv] using ho
    ·simp only [if_neg hne']
     exact(h4 i' e2 he2 j d hd).keep fun x hx' hxl=>keep i' e2 hne' he2 j d hd x hx' hxl
   ·intro i' e2 he2 j d hd x hx'
    rcases get i' e2 he2 with⟨rfl,rfl⟩|⟨hne',he2⟩
    ·simp only [if_true] at hx'
     obtain⟨j2,hj2,hT⟩:=u2 j d hd x hx'
     obtain⟨d2,hd2⟩:=hgj j2 hj2
     exact h5 i' e hi j2 d2 hd2 x hT
    ·simp only [if_neg hne'] at hx'
     exact h5 i' e2 he2 j d hd x hx'
   ·intro i' e2 he2 j d hd i'' e3 he3 j' d' hd' hne x hx1 hx2
    rcases get i' e2 he2 with⟨rfl,rfl⟩|⟨hne',he2⟩
    ·simp only [if_true] at hx1
     rcases get i'' e3 he3 with⟨rfl,rfl⟩|⟨hne'',he3⟩
     ·simp only [if_true] at hx2
      exact u3 j d hd j' d' hd' (hne rfl) x hx1 hx2
     ·simp only [if_neg hne''] at hx2
      obtain⟨j2,hj2,hT⟩:=u2 j d hd x hx1
      obtain⟨d2,hd2⟩:=hgj j2 hj2
      exact h6 i'' e3 he3 j' d' hd' i' e hi j2 d2 hd2 (fun h=>absurd h hne'') x hx2 hT
    ·simp only [if_neg hne'] at hx1
     have he2':=he2
     rcases get i'' e3 he3 with⟨rfl,rfl⟩|⟨hne'',he3⟩
     ·simp only [if_true] at hx2
      obtain⟨j2,hj2,hT⟩:=u2 j' d' hd' x hx2
      obtain⟨d2,hd2⟩:=hgj j2 hj2
      exact h6 i' e2 he2' j d hd i'' e hi j2 d2 hd2 (fun h=>absurd h hne') x hx1 hT
     ·simp only [if_neg hne''] at hx2
      exact h6 i' e2 he2 j d hd i'' e3 he3 j' d' hd' hne x hx1 hx2
end Go.Proofs.YtfcoaagbccmahaaGreat

namespace Go.Proofs.YtfcoaagbccmahaaGreat
open Go.RowKit
theorem uN.setLeaf{w:World}{ts:List Tr}{cs:List Value}{T:Nat→Prop}{j:Nat}{u:Tr}{v:Value}(h:uN w ts cs T)(hj:ts[j]?=some u)(hv:sT v):uN w (ts.set j (.leaf v)) (cs.set j v) T:=by
 obtain⟨hl,U,h1,h2,h3⟩:=h
 have hlt:j<ts.length:=(List.getElem?_eq_some_iff.1 hj).1
 have old: ∀i d,(ts.set j (.leaf v))[i]?=some d→(i=j∧d= .leaf v)∨(i≠j∧ts[i]?=some d):=by
  intro i d hd
  rw [List.getElem?_set] at hd
  split at hd
  ·rename_i hij
   subst hij
   simp only [Option.some.injEq] at hd
   exact .inl ⟨rfl,hd.symm⟩
  ·rename_i hij
   exact .inr ⟨fun e=>hij e.symm,hd⟩
 refine⟨by simp [hl],fun i x=>i≠j∧U i x,?_,?_,?_⟩
 ·intro i d hd
  rcases old i d hd with⟨rfl,rfl⟩|⟨hne,hd⟩
  ·exact⟨v,by rw [List.getElem?_set];simp [hl,hlt],.leaf hv⟩
  ·obtain⟨v',hv',ho⟩:=h1 i d hd
   exact⟨v',by rw [List.getElem?_set];rw [if_neg (fun e=>hne e.symm)];exact hv',ho.mono fun x hx=>⟨hne,hx⟩⟩
 ·intro i d hd x hx
  rcases old i d hd with⟨rfl,rfl⟩|⟨hne,hd⟩
  ·exact(hx.1 rfl).elim
  ·exact h2 i d hd x hx.2
 ·intro i d hd i' d' hd' hne x hx hx'
  rcases old i d hd with⟨rfl,rfl⟩|⟨_,hd⟩
  ·exact hx.1 rfl
  ·rcases old i' d' hd' with⟨rfl,rfl⟩|⟨_,hd'⟩
   ·exact hx'.1 rfl
   ·exact h3 i d hd i' d' hd' hne x hx.2 hx'.2
theorem uN.setRow{w:World}{ts:List Tr}{cs:List Value}{T:Nat→Prop}{j:Nat}{t:Tr}{v:Value}(h:uN w ts cs T)(hj:ts[j]?=some t)(hv:cs[j]?=some v):
 ∃U:Nat→Prop,A1 w t v U∧(∀x,U x→T x)∧ ∀w' t',A1 w' t' v U→(∀x,x<w.heap.size→T x→ ¬U x→w'.heap[x]?=w.heap[x]?)→uN w' (ts.set j t') cs T:=by
 obtain⟨hl,U,h1,h2,h3⟩:=h
 have hlt:j<ts.length:=(List.getElem?_eq_some_iff.1 hj).1
 obtain⟨v1,hv1,ho1⟩:=h1 j t hj
 rw [hv] at hv1
 injection hv1 with hv1
 subst hv1
 refine⟨U j,ho1,h2 j t hj,fun w' t' ho' hk=>⟨by simp [hl],U,?_,?_,?_⟩⟩
 all_goals
  have old: ∀i d,(ts.set j t')[i]?=some d→(i=j∧d=t')∨(i≠j∧ts[i]?=some d):=by
   intro i d hd
   rw [List.getElem?_set] at hd
   split at hd
   ·rename_i hij
    subst hij
    simp only [Option.some.injEq] at hd
    exact .inl ⟨rfl,hd.symm⟩
   ·rename_i hij
    exact .inr ⟨fun e=>hij e.symm,hd⟩
 ·intro i d hd
  rcases old i d hd with⟨rfl,rfl⟩|⟨hne,hd⟩
  ·exact⟨v,hv,ho'⟩
  ·obtain⟨v',hv',ho⟩:=h1 i d hd
   exact⟨v',hv',ho.keep fun x hx hxl=>hk x hxl (h2 i d hd x hx) (fun hu=>h3 i d hd j t hj hne x hx hu)⟩
 ·intro i d hd x hx
  rcases old i d hd with⟨rfl,rfl⟩|⟨hne,hd⟩
  ·exact h2 i t hj x hx
  ·exact h2 i d hd x hx
 ·intro i d hd i' d' hd' hne x hx hx'
  rcases old i d hd with⟨rfl,rfl⟩|⟨hne1,hd1⟩
  ·rcases old i' d' hd' with⟨rfl,rfl⟩|⟨_,hd2⟩
   ·exact hne rfl
   ·exact h3 i t hj i' d' hd2 hne x hx hx'
  ·rcases old i' d' hd' with⟨rfl,rfl⟩|⟨_,hd2⟩
   ·exact h3 i d hd1 i' t hj hne x hx hx'
   ·exact h3 i d hd1 i' d' hd2 hne x hx hx'
structure Foc (w0 wr:World) (b:Nat) (E:TypeId) (arr0:Array Value) (o sz:Nat) (ts:List Tr) (cs:List Value) (T:Nat→Prop):Prop where
 arr: ∃arr,OB wr b E arr∧arr.size=arr0.size∧(∀q,q<o∨o+sz≤q→arr[q]?=arr0[q]?)∧(∀j v,cs[j]?=some v→arr[o+j]?=some v)
 own:uN wr ts cs T
 chg:NK (fun x=>x=b∨T x) w0 wr
 notin: ¬T b
 len:cs.length=sz
 fit:o+sz≤arr0.size
 tlt: ∀x,T x→x<w0.heap.size
 blt:b<w0.heap.size
theorem GV{arr:Array Value}{o:Nat}{cs:List Value}(h:o+cs.length≤arr.size)(q:Nat):(splice arr o cs)[q]?=if q<o then arr[q]? else if q<o+cs.length then cs[q-o]? else arr[q]?:=by
 unfold splice
 rw [List.getElem?_toArray,List.append_assoc]
 by_cases h1:q<o
 ·rw [if_pos h1,List.getElem?_append_left (by simp;omega),List.getElem?_take,if_pos h1];simp
 ·rw [if_neg h1,List.getElem?_append_right (by simp;omega)]
  have hl:(List.take o arr.toList).length=o:=by simp;omega
  rw [hl]
  by_cases h2:q<o+cs.length
  ·rw [if_pos h2,List.getElem?_append_left (by omega)]
  ·rw [if_neg h2,List.getElem?_append_right (by omega),List.getElem?_drop,Array.getElem?_toList]
   congr 1;omega
theorem Foc.leaf{w0 wr w':World}{b:Nat}{E:TypeId}{arr0 arr:Array Value}{o sz:Nat}{ts:List Tr}{cs:List Value}{T:Nat→Prop}(h:Foc w0 wr b E arr0 o sz ts cs T){j:Nat}{u:Tr}{v:Value}(hj:ts[j]?=some u)(hv:sT v)
 (ha:OB wr b E arr) (hob:OB w' b E (splice arr (o+j) [v])) (hg:wr.grownBy w' (some b)):Foc w0 w' b E arr0 o sz (ts.set j (.leaf v)) (cs.set j v) T:=by
 obtain⟨arr1,h1,h2,h3,h4⟩:=h.arr
 have he:=ha.symm.trans h1
 injection he with he
 injection he with he
 subst he
 have hlt:j<ts.length:=(List.getElem?_eq_some_iff.1 hj).1
 have hsz:j<sz:=by rw [← h.len,h.own.1];exact hlt
 have hfit:=h.fit
 have hw:NK (fun x=>x=b) wr w':=NK.of_grown hg rfl
 refine⟨⟨_,hob,by rw [ahK (by simp;omega)];exact h2,?_,?_⟩,(h.own.setLeaf hj hv).keep fun x hx hxl=>hw.block x hxl (by rintro rfl;exact h.notin hx),h.chg.trans (hw.mono fun x hx=> .inl hx),h.notin,by rw [List.length_set];exact h.len,h.fit,h.tlt,h.blt⟩
 ·intro q hq
  rw [GV (by simp;omega)]
  simp only [List.length_cons,List.length_nil]
  rw [← h3 q hq]
  split
  ·rfl
  ·rw [if_neg (by omega)]
 ·intro i x hx
  rw [GV (by simp;omega)]
  simp only [List.length_cons,List.length_nil]
  rw [List.getElem?_set] at hx
  split at hx
  ·rename_i hji
   subst hji
   split at hx
   ·injection hx with hx
    subst hx
    rw [if_neg (by omega),if_pos (by omega)]
    simp
   ·simp at hx
  ·rename_i hji
   have:=h4 i x hx
   split
   ·exact this
   ·rw [if_neg (by omega)];exact this
theorem Foc.row{w0 wr:World}{b:Nat}{E:TypeId}{arr0:Array Value}{o sz:Nat}{ts:List Tr}{cs:List Value}{T:Nat→Prop}(h:Foc w0 wr b E arr0 o sz ts cs T){j:Nat}{t:Tr}{v:Value}(hj:ts[j]?=some t)(hv:cs[j]?=some v):
 ∃U:Nat→Prop,A1 wr t v U∧(∀x,U x→x<wr.heap.size)∧ ∀w' t',A1 w' t' v U→NK U wr w'→Foc w0 w' b E arr0 o sz (ts.set j t') cs T:=by
 obtain⟨U,hu1,hu2,hu3⟩:=h.own.setRow hj hv
 refine⟨U,hu1,fun x hx=>Nat.lt_of_lt_of_le (h.tlt x (hu2 x hx)) h.chg.size,fun w' t' ho hc=>?_⟩
 obtain⟨arr,h1,h2,h3,h4⟩:=h.arr
 have hnb: ¬U b:=fun hx=>h.notin (hu2 b hx)
 exact⟨⟨arr,(hc.block b h1.lt hnb).trans h1,h2,h3,h4⟩,hu3 w' t' ho fun x hxl _ hn=>hc.block x hxl hn,h.chg.trans (hc.mono fun x hx=> .inr (hu2 x hx)),h.notin,h.len,h.fit,h.tlt,h.blt⟩
theorem A1.take{w:World}{sz:Nat}{es:List (List Tr)}{a:Option Addr}{n cap i:Nat}{S:Nat→Prop}{e:List Tr}(h:A1 w (.row sz es) (.slice a n cap) S)(hi:es[i]?=some e)(hl: ∀x∈es,x.length=sz)(hsz:0<sz)(hS: ∀x,S x→x<w.heap.size):
 ∃b off E arr cs T,a=some ⟨b,off,none⟩∧Foc w w b E arr (off+i*sz) sz e cs T∧gK w e cs∧
  ∀w' cs' e',e'.length=sz→Foc w w' b E arr (off+i*sz) sz e' cs' T→A1 w' (.row sz (es.set i e')) (.slice a n cap) S∧NK S w w':=by
 obtain⟨b,off,E,arr,cs,T,rfl,hob,hsb,how,hT,hcl,hfit,hc,hback⟩:=h.focus hi hl
 refine⟨b,off,E,arr,cs,T,rfl,⟨⟨arr,hob,rfl,fun _ _=>rfl,fun j v hv=>hc j v hv⟩,how,NK.refl _ _,fun hb=>(hT b hb).2 rfl,hcl,hfit hsz,fun x hx=>hS x (hT x hx).1,hob.lt⟩,how.rep,fun w' cs' e' he' hf=>?_⟩
 obtain⟨arr',h1,h2,h3,h4⟩:=hf.arr
 have hz:=hf.len
 have hfit:=hf.fit
 have harr:arr'=splice arr (off+i*sz) cs':=by
  apply Array.ext_getElem?
  intro q
  rw [GV (by omega)]
  split
  ·rename_i hq
   exact h3 q (.inl hq)
  ·split
   ·rename_i hq1 hq2
    obtain⟨v,hv⟩: ∃v,cs'[q-(off+i*sz)]?=some v:=⟨cs'[q-(off+i*sz)]'(by omega),List.getElem?_eq_getElem _⟩
    rw [hv,← h4 _ v hv]
    congr 1;omega
   ·rename_i hq1 hq2
    exact h3 q (.inr (by omega))
 rw [harr] at h1
 have hch:NK S w w':=hf.chg.mono fun x hx=>by rcases hx with rfl|hx;exact hsb;exact(hT x hx).1
 exact⟨hback w' cs' e' he' h1 hf.own (fun x hxl _ hne hnt=>hf.chg.block x hxl (by rintro(h|h);exact hne h;exact hnt h)) hf.fit,hch⟩
end Go.Proofs.YtfcoaagbccmahaaGreat

namespace Go.Proofs.YtfcoaagbccmahaaGreat
open Go.RowKit Go.Proofs
theorem aaB{α:Type}(p:α→Bool): ∀(l:List α) (i:Nat),(YK p l i= -1∧ ∀x∈l,p x=false)∨ ∃k,∃h:k<l.length,YK p l i=((i+k:Nat):Int)∧p l[k]=true∧ ∀x∈l.take k,p x=false
 | [],i=> .inl ⟨rfl,fun x hx=>by simp at hx⟩
 |a::l,i=>by
  rw [YK]
  cases ha:p a with
  |true=>exact .inr ⟨0,by simp,by simp,by simpa using ha,by simp⟩
  |false=>
   rcases aaB p l (i+1) with⟨h1,h2⟩|⟨k,hk,h1,h2,h3⟩
   ·exact .inl ⟨by simpa using h1,fun x hx=>by
     rcases List.mem_cons.1 hx with rfl|hx
     ·exact ha
     ·exact h2 x hx⟩
   ·refine .inr ⟨k+1,by simpa using hk,?_,by simpa using h2,fun x hx=>?_⟩
    ·simp only [Bool.false_eq_true,if_false]
     rw [h1]
     congr 1
     omega
    ·rw [List.take_succ_cons] at hx
     rcases List.mem_cons.1 hx with rfl|hx
     ·exact ha
     ·exact h3 x hx
structure K4 {α:Type} (p:α→Bool) (l:List α) (i j:Nat) (dk:List α):Prop where
 len:dk.length=l.length
 lt:i<j
 low:dk.take i=(l.take j).filter (fun x=> !p x)
 high: ∀q,j≤q→dk[q]?=l[q]?
theorem K4.start{α:Type}{p:α→Bool}{l:List α}{k:Nat}(hk:k<l.length)(ht:p l[k]=true)(hf: ∀x∈l.take k,p x=false):K4 p l k (k+1) l:=by
 refine⟨rfl,by omega,?_,fun _ _=>rfl⟩
 rw [List.take_succ_eq_append_getElem hk,List.filter_append,List.filter_eq_self.2 (fun x hx=>by simp [hf x hx])]
 simp [ht]
theorem K4.keep{α:Type}{p:α→Bool}{l dk:List α}{i j:Nat}(h:K4 p l i j dk)(hj:j<l.length)(hp:p l[j]=false):K4 p l (i+1) (j+1) (dk.set i l[j]):=by
 have hl:=h.len
 have hlt:=h.lt
 refine⟨by simp [hl],by omega,?_,fun q hq=>?_⟩
 ·rw [List.take_succ_eq_append_getElem hj,List.filter_append,← h.low]
  rw [List.take_succ_eq_append_getElem (by simp;omega),List.take_set_of_le (Nat.le_refl _)]
  simp [hp]
 ·rw [List.getElem?_set_ne (by omega)]
  exact h.high q (by omega)
theorem K4.skip{α:Type}{p:α→Bool}{l dk:List α}{i j:Nat}(h:K4 p l i j dk)(hj:j<l.length)(hp:p l[j]=true):K4 p l i (j+1) dk:=by
 have hlt:=h.lt
 refine⟨h.len,by omega,?_,fun q hq=>h.high q (by omega)⟩
 rw [List.take_succ_eq_append_getElem hj,List.filter_append,← h.low]
 simp [hp]
theorem A1.head{w:World}{sz:Nat}{es:List (List Tr)}{a:Option Addr}{n cap i:Nat}{S:Nat→Prop}(h:A1 w (.row sz es) (.slice a n cap) S)(hi:i≤es.length):A1 w (.row sz (es.take i)) (.slice a i cap) S:=by
 cases h with
 |row c T h1 h2 h3 h4 h5 h6=>
  have hg: ∀q e,(es.take i)[q]?=some e→es[q]?=some e:=fun q e he=>by
   rw [List.getElem?_take] at he
   split at he
   ·exact he
   ·cases he
  have hl:(es.take i).length=i:=by simp;omega
  have:=A1.row (w:=w) (sz:=sz) (es:=es.take i) (a:=a) (cap:=cap) (S:=S) c T (by omega) h2 (fun hne=>by
   obtain⟨b,off,E,arr,ha,hob,hs,hc⟩:=h3 (fun h0=>hne (by rw [h0];simp))
   exact⟨b,off,E,arr,ha,hob,hs,fun q e he=>hc q e (hg q e he)⟩) (fun q e he=>h4 q e (hg q e he)) (fun q e he=>h5 q e (hg q e he)) (fun q e he j d hd q' e' he'=>h6 q e (hg q e he) j d hd q' e' (hg q' e' he'))
  rwa [hl] at this
theorem uN.flat{w0 w:World}{S:Nat→Prop}: ∀ {ts:List Tr} {cs:List Value},gK w0 ts cs→(∀d∈ts,∃v,d= .leaf v)→uN w ts cs S
 | [],cs,h,_=>by
  obtain rfl:=gK.nil_eq h
  exact uN.nil _ _
 |t::ts,cs,h,hf=>by
  obtain⟨v,rfl⟩:=hf t (by simp)
  cases cs with
  |nil=>exact h.elim
  |cons c cs=>
   obtain⟨rfl,hv⟩:=h.1.leaf_eq
   exact uN.cons_leaf hv (uN.flat h.2 fun d hd=>hf d (List.mem_cons_of_mem _ hd))
theorem V8(x:aC): ∀d∈aC.tr x,∃v,d= .leaf v:=by
 obtain⟨a,b⟩:=x
 intro d hd
 simp only [aC.tr,List.mem_append,List.mem_singleton,List.not_mem_nil,or_false] at hd
 rcases hd with rfl|rfl
 ·exact⟨_,rfl⟩
 ·exact⟨_,rfl⟩
theorem YS{P:Program}(t e ty:TypeId)(z:Value)(ht:P.underlying t=some (.slice e))(hv: ∀w,(zeroValue e).run P w= .ok z w)(B off n c:Nat)(E:TypeId)(arr:Array Value)(w:World)(hob:OB w B E arr)(hn:0<n)(zs:List Value)(hz:(Builtin.zeroCells z.cells n).toList=zs)
 (hfit:off+zs.length≤arr.size) (h1: ∀v∈zs,v.oneCell'=true):(Builtin.clear_ #[t] ty #[.slice (some ⟨B,off,none⟩) n c]).run P w= .ok (.tuple #[]) (w.setRow B (splice arr off zs)):=by
 have hst:=run_storeCells_at P B off E zs 0 arr w hob (by simpa using hfit) h1
 simp only [Nat.add_zero] at hst
 obtain⟨m,rfl⟩: ∃m,n=m+1:=⟨n-1,by omega⟩
 simp [Builtin.clear_,run_underlying ht,hv,hz,hst,splice]
theorem A1.cellsSame{w w':World}{sz b off n cap:Nat}{es:List (List Tr)}{S:Nat→Prop}{E E':TypeId}{arr arr':Array Value}(h:A1 w (.row sz es) (.slice (some ⟨b,off,none⟩) n cap) S)(hob:OB w b E arr)(hob':OB w' b E' arr')
 (hc: ∀q j,q<es.length→j<sz→arr'[off+q*sz+j]?=arr[off+q*sz+j]?) (hl: ∀e∈es,e.length=sz) (hf: ∀e∈es,∀d∈e,∃v,d= .leaf v):A1 w' (.row sz es) (.slice (some ⟨b,off,none⟩) n cap) S:=by
 cases h with
 |row c T h1 h2 h3 h4 h5 h6=>
  refine .row c (fun _ _ _=>False) h1 h2 (fun hne=>?_) (fun i e he j d hd=>?_) (fun _ _ _ _ _ _ x hx=>hx.elim) (fun _ _ _ _ _ _ _ _ _ _ _ _ _ x hx=>hx.elim)
  ·obtain⟨b1,off1,E1,arr1,ha,ho,hs,hcc⟩:=h3 hne
   obtain⟨rfl,rfl⟩:b=b1∧off=off1:=by simpa using ha
   have he:arr1=arr∧E1=E:=by
    have:=ho.symm.trans hob
    simpa using this
   obtain⟨rfl,rfl⟩:=he
   refine⟨b,off,E',arr',rfl,hob',hs,fun i e he j d hd=>⟨?_,fun x hx=>hx.elim⟩⟩
   have hle:=hl e (List.mem_of_getElem? he)
   rw [hc i j (List.getElem?_eq_some_iff.1 he).1 (by rw [← hle];exact(List.getElem?_eq_some_iff.1 hd).1)]
   exact(hcc i e he j d hd).1
  ·obtain⟨v,rfl⟩:=hf e (List.mem_of_getElem? he) d (List.mem_of_getElem? hd)
   obtain⟨hv,hl⟩:=(h4 i e he j _ hd).rep.leaf_eq
   rw [hv]
   exact .leaf hl
theorem akI(a b:Value)(n:Nat):(Builtin.zeroCells #[a,b] n).toList.length=n*2∧ ∀v∈(Builtin.zeroCells #[a,b] n).toList,v=a∨v=b:=by
 refine⟨by simp [Builtin.zeroCells],fun v hv=>?_⟩
 simp only [Builtin.zeroCells,Array.toList_map,List.mem_map] at hv
 obtain⟨i,_,rfl⟩:=hv
 have:i%2=0∨i%2=1:=by omega
 rcases this with h|h<;>simp [h]
set_option maxRecDepth 100000 in
set_option maxHeartbeats 2000000 in
theorem U7(l:List aC)(p:aC→Bool)(g:FuncId)(caps:Array Value)(hg: ∀(args:Array Value) (w:World),(callFunc g args).run Tryz.prog w= .ok (.enter g args) w)(s:Value)(w:World)(S:Nat→Prop)(hS: ∀x,S x→x<w.heap.size)
 (H: ∀x∈l,∀cs W,NK S w W→gK W (aC.tr x) cs→Calls Tryz.prog g (#[.agg ⟨cs⟩]++caps) W fun e W'=>e= .returned (.bool (p x))∧uM W W')
 (hs:A1 w (.row 2 (l.map aC.tr)) s S):
 Calls Tryz.prog 179 #[s,.func (.func g) #[] caps] w fun e w'=> ∃v,e= .returned v∧NK S w w'∧A1 w' (.row 2 ((l.filter (fun x=> !p x)).map aC.tr)) v S:=by
 obtain⟨a,cap,rfl,hlc,hm⟩:=hs.rep.shape
 unfold maxLen at hm
 rw [List.length_map] at hlc
 rw [List.length_map] at hs ⊢
 have HS:=Lib.hid hs
 have HH:=Lib.hid H
 have HSS:=Lib.hid hS
 clear hs H hS
 go_enter Tryz.func179,Tryz.ntmps179
 go_wp2_with fail
 refine(YO aC.tr p l g caps hg aC.tr_len _ _ (fun x hx cs w' hw hr=>HH.out x hx cs w' (.of_ext hw) hr) HS.out.rep).mono ?_;rintro e w1 ⟨rfl,hw1⟩
 have HW1:=Lib.hid hw1
 clear hw1
 rcases aaB p l 0 with⟨e1,hall⟩|⟨k0,hk0,e1,ht,hall⟩
 ·have HA:=Lib.hid hall
  rw [e1]
  clear hall e1
  go_wp2_with fail
  go_ret
  refine⟨_,rfl,.of_ext HW1.out,?_⟩
  rw [List.filter_eq_self.2 (fun x hx=>by simp [HA.out x hx])]
  exact HS.out.ext HW1.out
 ·have HD:=Lib.hid (K4.start hk0 ht hall)
  rw [e1,Nat.zero_add]
  clear ht hall e1
  have hne: ¬((k0:Int)= -1):=by omega
  go_wp2_with fail
  go_loopw [5,6] (fun iv jv wr=> ∃(i j:Nat) (dk:List aC),iv= .int .i64 i∧jv= .int .i64 j∧i<j∧j≤l.length∧Hid (K4 p l i j dk)∧Hid (NK S w wr)∧Hid (A1 wr (.row 2 (dk.map aC.tr)) (.slice a l.length cap) S)) (fun _ jv _=>l.length-(intOf jv).toNat)
  case atStart=>exact⟨k0,k0+1,l,rfl,by go_num,by omega,by omega,HD.out,NK.of_ext HW1.out,HS.out.ext HW1.out⟩
  case round=>
   obtain⟨i,j,dk,rfl,rfl,hij,hjl,HD1,HC1,HO1⟩:=hrel
   by_cases hlt:j<l.length
   ·have hdl:=HD1.out.len
    have hjd:dk[j]?=some l[j]:=by rw [HD1.out.high j (Nat.le_refl _)];exact List.getElem?_eq_getElem hlt
    obtain⟨b,off,cs,rfl,hb,hcs,hc⟩:=(HO1.out.rep).at2 (k:=j) (e:=aC.tr l[j]) (by rw [List.getElem?_map,hjd];rfl)
    have HM:=Lib.hid (List.getElem_mem hlt)
    have HCS:=Lib.hid hcs
    have HC:=Lib.hid hc
    have HCL:Hid (cs.length=2):=by rw [← hcs.length];exact aC.tr_len _
    have HI:Hid ((Tryz.prog.info? 52).map (·.size)=some cs.length):=by rw [HCL.out];exact aqL
    have HDL:=Lib.hid hdl
    clear hcs hc hdl hjd
    go_wp2_with (first
     |(refine k7 rfl 52 (.tmp 24) rfl b (off+j*2) rfl cs _ Tryz.underlying52 HI.out HC.out ?_)
     |(refine sR rfl 52 (.tmp 7) (.tmp 25) rfl wr.heap.size 0 rfl cs rfl 52 _ (OB.new wr _ _) HI.out (by rw [HCL.out];exact Nat.le_refl _) HCS.out.one ?_;intro w2 hob hgb hzb;rw [GW (by rw [HCL.out];rfl)] at hob;have HOB:=Lib.hid hob;have HXB:=Lib.hid (QD (.alloc (.refl wr) _) hgb (Nat.le_refl _));clear hob hgb hzb)
     |(refine k7 rfl 52 (.tmp 7) rfl wr.heap.size 0 rfl cs _ Tryz.underlying52 HI.out HOB.out.cells0 ?_))
    refine(HH.out _ HM.out cs w2 (HC1.out.trans (.of_ext HXB.out)) (HCS.out.ext HXB.out)).mono ?_;rintro e w3 ⟨rfl,hw3⟩
    have HW3:=Lib.hid (HXB.out.trans hw3)
    have HOB3:=Lib.hid (HOB.out.ext hw3)
    have HC3:=Lib.hid (HC1.out.trans (.of_ext HW3.out))
    have HO3:=Lib.hid (HO1.out.ext HW3.out)
    clear hw3
    cases hp:p l[j] with
    |true=>
     have HP:=Lib.hid hp
     clear hp
     go_wp2_with fail
     refine⟨⟨_,_,_,_,_,_,_,_,_,_,_,_,_,_,_,_,_,_,_,_,_,_,_,?rel,rfl⟩,?measure⟩
     case rel=>exact⟨i,j+1,dk,rfl,by go_num,by omega,by omega,HD1.out.skip hlt HP.out,HC3.out,HO3.out⟩
     case measure=>simp [intOf];omega
    |false=>
     have HP:=Lib.hid hp
     clear hp
     have hid:i<dk.length:=by have:=HDL.out;omega
     obtain⟨b2,off2,E0,arr0,cs0,T,hab,hob,hsb,how,hT,hcl,hfit,hcc,hback⟩:=HO3.out.focus (i:=i) (e:=aC.tr dk[i]) (by rw [List.getElem?_map,List.getElem?_eq_getElem hid];rfl) (by intro x hx;obtain⟨y,_,rfl⟩:=List.mem_map.1 hx;exact aC.tr_len _)
     obtain⟨rfl,rfl⟩:b=b2∧off=off2:=by simpa using hab
     have HOBb:=Lib.hid hob
     have HSB:=Lib.hid hsb
     have HBK:=Lib.hid hback
     have HFIT:=Lib.hid (hfit (by omega))
     clear hob hsb how hT hcl hfit hcc hback hab
     go_wp2_with (first
      |(refine k7 rfl 52 (.tmp 7) rfl wr.heap.size 0 rfl cs _ Tryz.underlying52 HI.out HOB3.out.cells0 ?_)
      |(refine sR rfl 52 (.tmp 33) (.tmp 32) rfl b (off+i*2) rfl cs rfl E0 arr0 HOBb.out HI.out (by rw [HCL.out];exact HFIT.out) HCS.out.one ?_;intro w4 hob4 hg4 hz4;have HOB4:=Lib.hid hob4;have HG4:=Lib.hid hg4;clear hob4 hg4 hz4))
     refine⟨⟨_,_,_,_,_,_,_,_,_,_,_,_,_,_,_,_,_,_,_,_,_,_,_,?rel,rfl⟩,?measure⟩
     case rel=>
      refine⟨i+1,j+1,dk.set i l[j],by go_num,by go_num,by omega,by omega,HD1.out.keep hlt HP.out,HC3.out.trans (NK.of_grown HG4.out HSB.out),?_⟩
      show A1 _ _ _ _
      rw [List.map_set]
      exact HBK.out w4 cs _ (aC.tr_len _) HOB4.out (uN.flat HCS.out (V8 _)) (fun x hx _ hne _=>HG4.out.block x hx (by simpa using hne)) HFIT.out
     case measure=>simp [intOf];omega
   ·obtain rfl:j=l.length:=by omega
    have hdl:=HD1.out.len
    have hil:l.length-1<dk.length:=by omega
    obtain⟨b,off,E0,arr0,cs0,T,rfl,hob,hsb,how,hT,hcl,hfit,hcc,hback⟩:=HO1.out.focus (i:=l.length-1) (e:=aC.tr dk[l.length-1]) (by rw [List.getElem?_map,List.getElem?_eq_getElem hil];rfl) (by intro x hx;obtain⟨y,_,rfl⟩:=List.mem_map.1 hx;exact aC.tr_len _)
    have HOBb:=Lib.hid hob
    have HSB:=Lib.hid hsb
    have hfit2:=hfit (by omega)
    have hfz:off+i*2+(l.length-i)*2≤arr0.size:=by omega
    have HDL:=Lib.hid hdl
    clear hob hsb how hT hcl hfit hcc hback hil hfit2 hdl
    obtain⟨hzl,hzm⟩:=akI (.int .i64 0) (.int .i64 0) (l.length-i)
    have hz33: ∀w,(zeroValue 52).run Tryz.prog w= .ok (.agg #[.int .i64 0,.int .i64 0]) w:=fun w=>rfl
    have hcl: ∀ty,(Builtin.clear_ #[198] ty #[.slice (some ⟨b,off+i*2,none⟩) (l.length-i) (cap-i)]).run Tryz.prog wr= .ok (.tuple #[]) (wr.setRow b (splice arr0 (off+i*2) (Builtin.zeroCells #[.int .i64 0,.int .i64 0] (l.length-i)).toList)):=fun ty=>
     YS 198 52 ty (.agg #[.int .i64 0,.int .i64 0]) Tryz.underlying198 hz33 b (off+i*2) (l.length-i) (cap-i) E0 arr0 wr HOBb.out (by omega) _ rfl (by rw [hzl];exact hfz) (fun v hv=>by rcases hzm v hv with rfl|rfl<;>rfl)
    have HFZ:=Lib.hid hfz
    have HZL:=Lib.hid hzl
    clear hzm hz33 hfz hzl
    generalize(Builtin.zeroCells #[.int .i64 0,.int .i64 0] (l.length-i)).toList=zs at*
    go_wp2_with fail
    go_ret
    have hob5:OB (wr.setRow b (splice arr0 (off+i*2) zs)) b E0 (splice arr0 (off+i*2) zs):=setRow_heap wr b arr0 _ E0 _ HOBb.out
    refine⟨_,rfl,HC1.out.trans ?_,?_⟩
    ·exact⟨rfl,rfl,rfl,by simp,fun k _ hk=>setRow_other wr b k _ (fun e=>hk (by rw [e];exact HSB.out))⟩
    ·have hd:=HD1.out.low
     rw [List.take_length] at hd
     rw [← hd,List.map_take]
     have hh:=HO1.out.head (i:=i) (by have:=HDL.out;simp;omega)
     have:=HDL.out
     refine hh.cellsSame HOBb.out hob5 (fun q j hq hj=>?_) (fun e he=>?_) (fun e he=>?_)
     ·have hq2:q<i:=by rw [List.length_take] at hq;omega
      rw [GV (by rw [HZL.out];exact HFZ.out),if_pos (by omega)]
     ·obtain⟨y,_,rfl⟩:=List.mem_map.1 (List.mem_of_mem_take he)
      exact aC.tr_len _
     ·obtain⟨y,_,rfl⟩:=List.mem_map.1 (List.mem_of_mem_take he)
      exact V8 _
end Go.Proofs.YtfcoaagbccmahaaGreat

namespace Go.Proofs.YtfcoaagbccmahaaGreat
instance:TC aC:=⟨aC.cs,aC.trs,2,aC.trs_at,aC.trs_len,fun l=>by rw [aC.trs_map];exact List.map_congr_left fun x _=>aC.tr_cs x,fun _=>rfl⟩
instance(l:List aC):RL (aC.trs l) aC l:=⟨rfl⟩
abbrev cX(l:List aC):PV:= .t (.row 2 (aC.trs l))
abbrev fT(l:List aC)(r:Nat):PV:= .acc 2 (aC.trs l) r
instance:TC aA:=⟨aA.cs,aA.trs,3,aA.trs_at,aA.trs_len,fun l=>by rw [aA.trs_map];exact List.map_congr_left fun x _=>aA.tr_cs x,fun _=>rfl⟩
instance(l:List aA):RL (aA.trs l) aA l:=⟨rfl⟩
abbrev aR(l:List aA):PV:= .t (.row 3 (aA.trs l))
abbrev gM(l:List aA)(r:Nat):PV:= .acc 3 (aA.trs l) r
instance:TC aL:=⟨aL.cs,aL.trs,9,aL.trs_at,aL.trs_len,fun l=>by rw [aL.trs_map];exact List.map_congr_left fun x _=>aL.tr_cs x,fun _=>rfl⟩
instance(l:List aL):RL (aL.trs l) aL l:=⟨rfl⟩
abbrev iP(l:List aL):PV:= .t (.row 9 (aL.trs l))
abbrev aqC(l:List aL)(r:Nat):PV:= .acc 9 (aL.trs l) r
instance:TC bS:=⟨bS.cs,bS.trs,11,bS.trs_at,bS.trs_len,fun l=>by rw [bS.trs_map];exact List.map_congr_left fun x _=>bS.tr_cs x,fun _=>rfl⟩
instance(l:List bS):RL (bS.trs l) bS l:=⟨rfl⟩
abbrev sE(l:List bS):PV:= .t (.row 11 (bS.trs l))
abbrev aqX(l:List bS)(r:Nat):PV:= .acc 11 (bS.trs l) r
instance:TC aG:=⟨aG.cs,aG.trs,4,aG.trs_at,aG.trs_len,fun l=>by rw [aG.trs_map];exact List.map_congr_left fun x _=>aG.tr_cs x,fun _=>rfl⟩
instance(l:List aG):RL (aG.trs l) aG l:=⟨rfl⟩
abbrev bY(l:List aG):PV:= .t (.row 4 (aG.trs l))
abbrev abM(l:List aG)(r:Nat):PV:= .acc 4 (aG.trs l) r
instance:TC aV:=⟨aV.cs,aV.trs,4,aV.trs_at,aV.trs_len,fun l=>by rw [aV.trs_map];exact List.map_congr_left fun x _=>aV.tr_cs x,fun _=>rfl⟩
instance(l:List aV):RL (aV.trs l) aV l:=⟨rfl⟩
abbrev V7(l:List aV):PV:= .t (.row 4 (aV.trs l))
abbrev abN(l:List aV)(r:Nat):PV:= .acc 4 (aV.trs l) r
instance:TC aQ:=⟨aQ.cs,aQ.trs,11,aQ.trs_at,aQ.trs_len,fun l=>by rw [aQ.trs_map];exact List.map_congr_left fun x _=>aQ.tr_cs x,fun _=>rfl⟩
instance(l:List aQ):RL (aQ.trs l) aQ l:=⟨rfl⟩
abbrev mS(l:List aQ):PV:= .t (.row 11 (aQ.trs l))
abbrev UB(l:List aQ)(r:Nat):PV:= .acc 11 (aQ.trs l) r
instance:TC aD:=⟨aD.cs,aD.trs,2,aD.trs_at,aD.trs_len,fun l=>by rw [aD.trs_map];exact List.map_congr_left fun x _=>aD.tr_cs x,fun _=>rfl⟩
instance(l:List aD):RL (aD.trs l) aD l:=⟨rfl⟩
abbrev dF(l:List aD):PV:= .t (.row 2 (aD.trs l))
abbrev zO(l:List aD)(r:Nat):PV:= .acc 2 (aD.trs l) r
instance:TC aF:=⟨aF.cs,aF.trs,16,aF.trs_at,aF.trs_len,fun l=>by rw [aF.trs_map];exact List.map_congr_left fun x _=>aF.tr_cs x,fun _=>rfl⟩
instance(l:List aF):RL (aF.trs l) aF l:=⟨rfl⟩
abbrev gC(l:List aF):PV:= .t (.row 16 (aF.trs l))
abbrev lT(l:List aF)(r:Nat):PV:= .acc 16 (aF.trs l) r
instance:TC aU:=⟨aU.cs,aU.trs,5,aU.trs_at,aU.trs_len,fun l=>by rw [aU.trs_map];exact List.map_congr_left fun x _=>aU.tr_cs x,fun _=>rfl⟩
instance(l:List aU):RL (aU.trs l) aU l:=⟨rfl⟩
abbrev Q7(l:List aU):PV:= .t (.row 5 (aU.trs l))
abbrev A2(l:List aU)(r:Nat):PV:= .acc 5 (aU.trs l) r
instance:TC aN:=⟨aN.cs,aN.trs,3,aN.trs_at,aN.trs_len,fun l=>by rw [aN.trs_map];exact List.map_congr_left fun x _=>aN.tr_cs x,fun _=>rfl⟩
instance(l:List aN):RL (aN.trs l) aN l:=⟨rfl⟩
abbrev pW(l:List aN):PV:= .t (.row 3 (aN.trs l))
abbrev nG(l:List aN)(r:Nat):PV:= .acc 3 (aN.trs l) r
instance:TC aI:=⟨aI.cs,aI.trs,12,aI.trs_at,aI.trs_len,fun l=>by rw [aI.trs_map];exact List.map_congr_left fun x _=>aI.tr_cs x,fun _=>rfl⟩
instance(l:List aI):RL (aI.trs l) aI l:=⟨rfl⟩
abbrev nO(l:List aI):PV:= .t (.row 12 (aI.trs l))
abbrev nI(l:List aI)(r:Nat):PV:= .acc 12 (aI.trs l) r
instance:TC aP:=⟨aP.cs,aP.trs,16,aP.trs_at,aP.trs_len,fun l=>by rw [aP.trs_map];exact List.map_congr_left fun x _=>aP.tr_cs x,fun _=>rfl⟩
instance(l:List aP):RL (aP.trs l) aP l:=⟨rfl⟩
abbrev JR(l:List aP):PV:= .t (.row 16 (aP.trs l))
abbrev nH(l:List aP)(r:Nat):PV:= .acc 16 (aP.trs l) r
instance:TC aM:=⟨aM.cs,aM.trs,6,aM.trs_at,aM.trs_len,fun l=>by rw [aM.trs_map];exact List.map_congr_left fun x _=>aM.tr_cs x,fun _=>rfl⟩
instance(l:List aM):RL (aM.trs l) aM l:=⟨rfl⟩
abbrev aO(l:List aM):PV:= .t (.row 6 (aM.trs l))
abbrev s4(l:List aM)(r:Nat):PV:= .acc 6 (aM.trs l) r
instance:TC aE:=⟨aE.cs,aE.trs,1,aE.trs_at,aE.trs_len,fun l=>by rw [aE.trs_map];exact List.map_congr_left fun x _=>aE.tr_cs x,fun _=>rfl⟩
instance(l:List aE):RL (aE.trs l) aE l:=⟨rfl⟩
instance:TC aB:=⟨aB.cs,aB.trs,2,aB.trs_at,aB.trs_len,fun l=>by rw [aB.trs_map];exact List.map_congr_left fun x _=>aB.tr_cs x,fun _=>rfl⟩
instance(l:List aB):RL (aB.trs l) aB l:=⟨rfl⟩
abbrev bH(l:List aB):PV:= .t (.row 2 (aB.trs l))
abbrev eF(l:List aB)(r:Nat):PV:= .acc 2 (aB.trs l) r
instance:TC aJ:=⟨aJ.cs,aJ.trs,6,aJ.trs_at,aJ.trs_len,fun l=>by rw [aJ.trs_map];exact List.map_congr_left fun x _=>aJ.tr_cs x,fun _=>rfl⟩
instance(l:List aJ):RL (aJ.trs l) aJ l:=⟨rfl⟩
abbrev bO(l:List aJ):PV:= .t (.row 6 (aJ.trs l))
abbrev fP(l:List aJ)(r:Nat):PV:= .acc 6 (aJ.trs l) r
instance:TC aK:=⟨aK.cs,aK.trs,4,aK.trs_at,aK.trs_len,fun l=>by rw [aK.trs_map];exact List.map_congr_left fun x _=>aK.tr_cs x,fun _=>rfl⟩
instance(l:List aK):RL (aK.trs l) aK l:=⟨rfl⟩
abbrev fJ(l:List aK):PV:= .t (.row 4 (aK.trs l))
abbrev lS(l:List aK)(r:Nat):PV:= .acc 4 (aK.trs l) r
instance:TC aH:=⟨aH.cs,aH.trs,5,aH.trs_at,aH.trs_len,fun l=>by rw [aH.trs_map];exact List.map_congr_left fun x _=>aH.tr_cs x,fun _=>rfl⟩
instance(l:List aH):RL (aH.trs l) aH l:=⟨rfl⟩
abbrev fM(l:List aH):PV:= .t (.row 5 (aH.trs l))
abbrev rY(l:List aH)(r:Nat):PV:= .acc 5 (aH.trs l) r
instance:TC cO:=⟨cO.cs,cO.trs,3,cO.trs_at,cO.trs_len,fun l=>by rw [cO.trs_map];exact List.map_congr_left fun x _=>cO.tr_cs x,fun _=>rfl⟩
instance(l:List cO):RL (cO.trs l) cO l:=⟨rfl⟩
instance:TC bG:=⟨bG.cs,bG.trs,2,bG.trs_at,bG.trs_len,fun l=>by rw [bG.trs_map];exact List.map_congr_left fun x _=>bG.tr_cs x,fun _=>rfl⟩
instance(l:List bG):RL (bG.trs l) bG l:=⟨rfl⟩
abbrev bM(x:aA):List PV:= [pI x.aB5,pS x.aB3,aR x.aB4]
abbrev jB(x:aL):List PV:= [pI x.aB5,pS x.aCa,pS x.aB3,pI x.aCL,pI x.aB7.aB5,pS x.aB7.aB3,aR x.aB7.aB4,iP x.aB4,sE x.aCo]
abbrev dL(x:aG):List PV:= [pS x.aCa,pI x.aB7.aB5,pS x.aB7.aB3,aR x.aB7.aB4]
abbrev aiA(x:aF):List PV:= [pS x.aB3,aR x.aCn,pI x.aCl.aB5,pS x.aCl.aB3,aR x.aCl.aB4,pB x.aCC,rS x.aCg,pI x.aCd.aB5,pS x.aCd.aCa,pS x.aCd.aB3,pI x.aCd.aCL,pI x.aCd.aB7.aB5,pS x.aCd.aB7.aB3,aR x.aCd.aB7.aB4,iP x.aCd.aB4,sE x.aCd.aCo]
abbrev sU(x:aU):List PV:= [pS x.aB3,rS x.aCc,pB x.aCA,pB x.aCj,gC x.aCp]
abbrev jF(x:aN):List PV:= [pS x.aB3,rS x.aCg,dF x.aB8]
abbrev c8(x:aI):List PV:= [pS x.aCa,rS x.aCg,pI x.aCh.aB5,pS x.aCh.aB3,aR x.aCh.aB4,bY x.aCk,pB x.aCv,pB x.aCx,pI x.aCj.aB5,pS x.aCj.aB3,aR x.aCj.aB4,mS x.aCu]
abbrev AI(x:aP):List PV:= [pS x.aB3,rS x.aCg,bY x.aCk,V7 x.aCn,pI x.aCl.aB5,pS x.aCl.aB3,aR x.aCl.aB4,pI x.aCd.aB5,pS x.aCd.aCa,pS x.aCd.aB3,pI x.aCd.aCL,pI x.aCd.aB7.aB5,pS x.aCd.aB7.aB3,aR x.aCd.aB7.aB4,iP x.aCd.aB4,sE x.aCd.aCo]
abbrev eW(x:aM):List PV:= [pS x.aB3,rS x.aCE,Q7 x.aCi,pW x.aCb,nO x.aCe,JR x.aCr]
abbrev t5(x:aH):List PV:= [pI x.aB5,pI x.aCL,pI x.aCt.aCf,pI x.aCt.aCt,fM x.aB4]
end Go.Proofs.YtfcoaagbccmahaaGreat

namespace Go.Proofs.YtfcoaagbccmahaaGreat
abbrev D7:ByteArray:=⟨#[40,99,97,108,108,32,98,111,116,104,32,40,99,97,108,108,32,105,100,32,40,99,97,108,108,32,105,100,32,40,110,101,119,32,116,97,103,32,50,41,41,41,41]⟩
abbrev cZ:ByteArray:=⟨(List.append [32,40,105,110,115,116,32,115,104,111,119,32,40,41,32,105,110,116,32,40,41,32,40,41,32,40,41,32,40,109,32,40,120,41,32,120,41,41,32,40,105,110,115] [116,32,115,104,111,119,32,40,41,32,98,111,111,108,32,40,41,32,40,41,32,40,41,32,40,109,32,40,120,41,32,40,105,102,32,120,32,49,32,48,41,41,41]).toArray⟩
abbrev D8:ByteArray:=⟨(List.append [40,108,101,116,32,122,32,40,109,101,116,104,111,100,32,97,100,100,32,112,108,117,115,32,40,110,101,119,32,98,111,120,32,49] [41,32,40,110,101,119,32,98,111,120,32,50,41,41,32,40,99,97,115,101,32,122,32,40,98,111,120,32,110,32,110,41,41,41]).toArray⟩
abbrev fV:ByteArray:=⟨(List.append [32,40,105,110,115,116,32,101,113,32,40,97,41,32,40,98,111,120,32,39,97,41,32,40,40,101,113,32,39,97,41,41,32,40,41,32,40,41,32,40,115,97,109,101,32,40,120,32,121,41,32,40,99] [97,115,101,32,120,32,40,98,111,120,32,112,32,40,99,97,115,101,32,121,32,40,98,111,120,32,113,32,40,109,101,116,104,111,100,32,101,113,32,115,97,109,101,32,112,32,113,41,41,41,41,41,41,41]).toArray⟩
abbrev D9:ByteArray:=⟨#[40,99,97,108,108,32,98,111,116,104,32,40,110,101,119,32,112,97,105,114,32,51,32,116,114,117,101,41,41]⟩
abbrev oV:ByteArray:=⟨#[32,40,102,110,32,109,97,105,110,32,40,41,32,40,41,32,40,41,32,105,110,116,32]⟩
abbrev NX:ByteArray:=⟨(List.append [32,40,105,110,115,116,32,115,104,111,119,32,40,41,32,40,108,105,115,116,32,116,97,103,41,32,40,41,32,40,41,32,40,41,32,40,109,32,40,120,41] [32,52,41,41,32,40,105,110,115,116,32,115,104,111,119,32,40,41,32,116,97,103,32,40,41,32,40,41,32,40,41,32,40,109,32,40,120,41,32,53,41,41]).toArray⟩
abbrev EA:ByteArray:=⟨(List.append [32,40,102,110,32,103,114,111,119,32,40,97,41,32,40,40,115,104,111,119,32,39,97,41,41,32,40,40,110,32,105,110,116,41,32,40,120,32,39,97,41,41,32,105,110,116,32,40,105,102,32,40,60,32,110,32] [49,41,32,40,109,101,116,104,111,100,32,115,104,111,119,32,109,32,120,41,32,40,99,97,108,108,32,103,114,111,119,32,40,45,32,110,32,49,41,32,40,110,101,119,32,112,97,105,114,32,120,32,120,41,41,41,41]).toArray⟩
abbrev NY:ByteArray:=⟨(List.append [32,40,105,110,115,116,32,101,113,32,40,41,32,116,97,103,32,40,41,32,40,41,32,40,41,32,40,115,97,109,101,32,40,120,32,121,41,32,116,114,117,101,41,41,32] [40,105,110,115,116,32,111,114,100,32,40,41,32,116,97,103,32,40,41,32,40,41,32,40,41,32,40,108,101,115,115,32,40,120,32,121,41,32,102,97,108,115,101,41,41]).toArray⟩
abbrev EB:ByteArray:=⟨(List.append [40,109,101,116,104,111,100,32,115,104,111,119,32,109,32,40,110,101,119,32,99,111,110,115,32,49,32,40,110,101,119,32,99,111] [110,115,32,50,32,40,116,104,101,32,40,108,105,115,116,32,105,110,116,41,32,40,110,101,119,32,110,105,108,41,41,41,41,41]).toArray⟩
abbrev EC:ByteArray:=⟨#[40,99,97,108,108,32,98,111,116,104,32,53,41]⟩
abbrev ED:ByteArray:=⟨#[40,43,32,40,99,97,108,108,32,105,100,32,52,41,32,40,109,101,116,104,111,100,32,115,104,111,119,32,109,32,40,110,101,119,32,116,97,103,32,55,41,41,41]⟩
abbrev EE:ByteArray:=⟨#[40,105,102,32,40,109,101,116,104,111,100,32,111,114,100,32,108,101,115,115,32,49,32,50,41,32,40,99,97,108,108,32,98,111,116,104,32,116,114,117,101,41,32,48,41]⟩
abbrev EF:ByteArray:=⟨(List.append [40,109,101,116,104,111,100,32,115,104,111,119,32,109,32,40,110,101,119,32,99,111,110,115,32,40,110,101,119,32,116,97] [103,32,49,41,32,40,116,104,101,32,40,108,105,115,116,32,116,97,103,41,32,40,110,101,119,32,110,105,108,41,41,41,41]).toArray⟩
abbrev NZ:ByteArray:=⟨#[32,40,105,110,115,116,32,111,114,100,32,40,41,32,116,97,103,32,40,41,32,40,41,32,40,41,32,40,108,101,115,115,32,40,120,32,121,41,32,116,114,117,101,41,41]⟩
abbrev EG:ByteArray:=⟨#[40,109,101,116,104,111,100,32,115,104,111,119,32,109,32,40,110,101,119,32,110,105,108,41,41]⟩
abbrev cM:ByteArray:=⟨(List.append [40,112,97,99,107,97,103,101,32,99,111,114,101,32,40,41,32,40,116,114,97,105,116,32,115,104,111,119,32,40,41,32,40,41,32,40,109,32,40,41,32,105,110,116,41,32,40,116,119,111,32,40,39,115,101] [108,102,41,32,105,110,116,32,40,120,32,121,41,32,40,43,32,40,109,101,116,104,111,100,32,115,104,111,119,32,109,32,120,41,32,40,109,101,116,104,111,100,32,115,104,111,119,32,109,32,121,41,41,41,41]).toArray⟩
abbrev k8:ByteArray:=⟨(List.append (List.append [32,40,105,110,115,116,32,97,100,100,32,40,97,41,32,40,98,111,120,32,39,97,41,32,40,40,97,100,100,32,39,97,41,41,32] [40,41,32,40,40,98,111,120,32,40,97,115,115,111,99,32,97,100,100,32,39,97,41,41,41,32,40,112,108,117,115,32,40,120,32]) (List.append [121,41,32,40,99,97,115,101,32,120,32,40,98,111,120,32,112,32,40,99,97,115,101,32,121,32,40,98,111,120,32,113,32,40,110] [101,119,32,98,111,120,32,40,109,101,116,104,111,100,32,97,100,100,32,112,108,117,115,32,112,32,113,41,41,41,41,41,41,41,41])).toArray⟩
abbrev dX:ByteArray:=⟨(List.append [32,40,105,110,115,116,32,115,104,111,119,32,40,97,32,98,41,32,40,112,97,105,114,32,39,97,32,39,98,41,32,40,40,115,104,111,119,32,39,97,41,32,40,115,104,111,119,32,39,98,41,41,32,40,41,32,40,41,32,40,109,32,40] [120,41,32,40,99,97,115,101,32,120,32,40,112,97,105,114,32,121,32,122,32,40,45,32,40,109,101,116,104,111,100,32,115,104,111,119,32,109,32,121,41,32,40,109,101,116,104,111,100,32,115,104,111,119,32,109,32,122,41,41,41,41,41,41]).toArray⟩
abbrev EH:ByteArray:=⟨#[40,109,101,116,104,111,100,32,115,104,111,119,32,109,32,40,112,97,99,107,32,115,104,111,119,32,51,41,41]⟩
abbrev jQ:ByteArray:=⟨(List.append [32,40,105,110,115,116,32,115,104,111,119,32,40,97,41,32,40,108,105,115,116,32,39,97,41,32,40,40,115,104,111,119,32,39,97,41,41,32,40,41,32,40,41,32,40,109,32,40,120,41,32,40,99,97,115,101,32,120,32,40] [110,105,108,32,48,41,32,40,99,111,110,115,32,104,32,116,32,40,43,32,40,109,101,116,104,111,100,32,115,104,111,119,32,109,32,104,41,32,40,109,101,116,104,111,100,32,115,104,111,119,32,109,32,116,41,41,41,41,41,41]).toArray⟩
abbrev oY:ByteArray:=⟨(List.append [32,40,102,110,32,105,100,32,40,97,41,32,40,41,32,40,40,120,32,39,97,41,41,32,39,97,32,120,41,32,40,102,110,32,98,111,116,104,32,40,97,41,32,40,40] [115,104,111,119,32,39,97,41,41,32,40,40,120,32,39,97,41,41,32,105,110,116,32,40,109,101,116,104,111,100,32,115,104,111,119,32,116,119,111,32,120,32,120,41,41]).toArray⟩
abbrev N0:ByteArray:=⟨#[32,40,105,110,115,116,32,115,104,111,119,32,40,41,32,116,97,103,32,40,41,32,40,41,32,40,41,32,40,109,32,40,120,41,32,40,99,97,115,101,32,120,32,40,116,97,103,32,110,32,110,41,32,40,110,111,110,101,32,48,41,41,41,41]⟩
abbrev cU:ByteArray:=⟨(List.append [32,40,100,97,116,97,32,108,105,115,116,32,40,97,41,32,40,110,105,108,41,32,40,99,111,110,115,32,39,97,32,40,108,105,115,116,32,39,97,41,41,41,32,40,100,97,116,97,32,112,97,105,114,32,40,97,32,98,41] [32,40,112,97,105,114,32,39,97,32,39,98,41,41,32,40,100,97,116,97,32,98,111,120,32,40,97,41,32,40,98,111,120,32,39,97,41,41,32,40,100,97,116,97,32,117,110,105,116,32,40,41,32,40,117,110,105,116,41,41]).toArray⟩
abbrev N1:ByteArray:=⟨(List.append [32,40,102,110,32,108,101,110,32,40,97,41,32,40,41,32,40,40,120,32,40,108,105,115,116,32,39,97,41,41,41,32,105,110,116,32,40,99,97,115,101] [32,120,32,40,110,105,108,32,48,41,32,40,99,111,110,115,32,104,32,116,32,40,43,32,49,32,40,99,97,108,108,32,108,101,110,32,116,41,41,41,41,41]).toArray⟩
abbrev N2:ByteArray:=⟨#[32,40,105,110,115,116,32,115,104,111,119,32,40,97,41,32,39,97,32,40,40,101,113,32,39,97,41,41,32,40,41,32,40,41,32,40,109,32,40,120,41,32,49,41,41]⟩
abbrev N3:ByteArray:=⟨#[32,40,105,110,115,116,32,115,104,111,119,32,40,41,32,116,97,103,32,40,41,32,40,41,32,40,41,32,40,109,32,40,120,41,32,40,99,97,115,101,32,120,32,40,110,111,110,101,32,48,41,32,40,116,97,103,32,110,32,110,41,41,41,41]⟩
abbrev iN:ByteArray:=⟨#[32,40,105,110,115,116,32,97,100,100,32,40,41,32,105,110,116,32,40,41,32,40,41,32,40,105,110,116,41,32,40,112,108,117,115,32,40,120,32,121,41,32,40,43,32,120,32,121,41,41,41]⟩
abbrev cN:ByteArray:=⟨(List.append (List.append [32,40,116,114,97,105,116,32,101,113,32,40,41,32,40,41,32,40,115,97,109,101,32,40,39,115,101,108,102,41,32,98,111,111,108,41,41,32,40] [116,114,97,105,116,32,111,114,100,32,40,101,113,41,32,40,41,32,40,108,101,115,115,32,40,39,115,101,108,102,41,32,98,111,111,108,41,41,32]) (List.append [40,116,114,97,105,116,32,97,100,100,32,40,41,32,40,97,115,115,111,99,41,32,40,112,108,117,115,32,40,39,115,101,108,102,41,32,40,97,115] [115,111,99,32,97,100,100,32,39,115,101,108,102,41,41,41,32,40,116,114,97,105,116,32,115,101,110,100,32,40,41,32,40,97,117,116,111,41,41])).toArray⟩
abbrev N4:ByteArray:=⟨(List.append [32,40,102,110,32,115,117,109,32,40,97,41,32,40,40,97,100,100,32,39,97,41,41,32,40,40,120,32,39,97,41,32,40,121,32,39,97,41] [41,32,40,97,115,115,111,99,32,97,100,100,32,39,97,41,32,40,109,101,116,104,111,100,32,97,100,100,32,112,108,117,115,32,120,32,121,41,41]).toArray⟩
abbrev eP:ByteArray:=⟨#[40,112,97,99,107,97,103,101,32,97,112,112,32,40,99,111,114,101,41,32,40,100,97,116,97,32,116,97,103,32,40,41,32,40,116,97,103,32,105,110,116,41,32,40,110,111,110,101,41,41]⟩
abbrev eQ:ByteArray:=⟨(List.append [32,40,105,110,115,116,32,101,113,32,40,41,32,105,110,116,32,40,41,32,40,41,32,40,41,32,40,115,97,109,101,32,40,120,32,121,41,32,40,61,32,120,32,121,41,41,41] [32,40,105,110,115,116,32,111,114,100,32,40,41,32,105,110,116,32,40,41,32,40,41,32,40,41,32,40,108,101,115,115,32,40,120,32,121,41,32,40,60,32,120,32,121,41,41,41]).toArray⟩
abbrev jR:ByteArray:=⟨(List.append (List.append [32,40,105,110,115,116,32,115,104,111,119,32,40,97,41,32,40,108,105,115,116,32,39,97,41,32,40,41,32,40,100,101,102,97,117,108] [116,41,32,40,41,32,40,109,32,40,120,41,32,55,41,41,32,40,105,110,115,116,32,115,104,111,119,32,40,41,32,40,108,105,115,116,32]) (List.append [105,110,116,41,32,40,41,32,40,41,32,40,41,32,40,109,32,40,120,41,32,40,99,97,115,101,32,120,32,40,110,105,108,32,48,41,32] [40,99,111,110,115,32,104,32,116,32,40,43,32,104,32,40,109,101,116,104,111,100,32,115,104,111,119,32,109,32,116,41,41,41,41,41,41])).toArray⟩
abbrev N5:ByteArray:=⟨#[32,40,105,110,115,116,32,115,104,111,119,32,40,41,32,105,110,116,32,40,41,32,40,41,32,40,41,32,40,109,32,40,120,41,32,57,41,41]⟩
abbrev s_:ByteArray:=⟨#[]⟩
abbrev s_0:ByteArray:=⟨#[48]⟩
abbrev s_A:ByteArray:=⟨#[65]⟩
abbrev fW:ByteArray:=⟨#[97]⟩
abbrev fC:ByteArray:=⟨#[97,100,100]⟩
abbrev jD:ByteArray:=⟨#[97,115,115,111,99]⟩
abbrev BU:ByteArray:=⟨#[97,117,116,111]⟩
abbrev CZ:ByteArray:=⟨#[98]⟩
abbrev eD:ByteArray:=⟨#[98,111,111,108]⟩
abbrev o6:ByteArray:=⟨#[98,111,120]⟩
abbrev s_c:ByteArray:=⟨#[99]⟩
abbrev RY:ByteArray:=⟨#[99,97,108,108]⟩
abbrev zA:ByteArray:=⟨#[99,97,115,101]⟩
abbrev cG:ByteArray:=⟨#[99,111,110,115]⟩
abbrev gF:ByteArray:=⟨#[99,111,114,101]⟩
abbrev RZ:ByteArray:=⟨#[100,97,116,97]⟩
abbrev wO:ByteArray:=⟨#[100,101,102,97,117,108,116]⟩
abbrev zM:ByteArray:=⟨#[100,121,110]⟩
abbrev xX:ByteArray:=⟨#[101,113]⟩
abbrev s_f:ByteArray:=⟨#[102]⟩
abbrev l8:ByteArray:=⟨#[102,97,108,115,101]⟩
abbrev amN:ByteArray:=⟨#[102,110]⟩
abbrev s_g:ByteArray:=⟨#[103]⟩
abbrev s_h:ByteArray:=⟨#[104]⟩
abbrev GC:ByteArray:=⟨#[105,102]⟩
abbrev R0:ByteArray:=⟨#[105,110,115,116]⟩
abbrev eG:ByteArray:=⟨#[105,110,116]⟩
abbrev G5:ByteArray:=⟨#[108,101,116]⟩
abbrev cH:ByteArray:=⟨#[108,105,115,116]⟩
abbrev eT:ByteArray:=⟨#[109]⟩
abbrev o7:ByteArray:=⟨#[109,101,116,104,111,100]⟩
abbrev G6:ByteArray:=⟨#[110,101,119]⟩
abbrev fX:ByteArray:=⟨#[110,105,108]⟩
abbrev WY:ByteArray:=⟨#[111,110,101]⟩
abbrev jL:ByteArray:=⟨#[111,114,100]⟩
abbrev s_p:ByteArray:=⟨#[112]⟩
abbrev zB:ByteArray:=⟨#[112,97,99,107]⟩
abbrev aaU:ByteArray:=⟨#[112,97,99,107,97,103,101]⟩
abbrev lY:ByteArray:=⟨#[112,97,105,114]⟩
abbrev s_q:ByteArray:=⟨#[113]⟩
abbrev j9:ByteArray:=⟨#[115,101,108,102]⟩
abbrev bJ:ByteArray:=⟨#[115,104,111,119]⟩
abbrev s_t:ByteArray:=⟨#[116]⟩
abbrev aaV:ByteArray:=⟨#[116,104,101]⟩
abbrev JU:ByteArray:=⟨#[116,114,97,105,116]⟩
abbrev qM:ByteArray:=⟨#[116,114,117,101]⟩
abbrev fK:ByteArray:=⟨#[116,119,105,99,101]⟩
abbrev gG:ByteArray:=⟨#[117,110,105,116]⟩
abbrev eN:ByteArray:=⟨#[120]⟩
abbrev sJ:ByteArray:=⟨#[121]⟩
abbrev am4:ByteArray:=⟨#[10]⟩
abbrev am5:ByteArray:=⟨#[39]⟩
abbrev CD:ByteArray:=⟨#[41]⟩
abbrev PM:ByteArray:=⟨#[42]⟩
abbrev CE:ByteArray:=⟨#[43]⟩
abbrev HK:ByteArray:=⟨#[45]⟩
abbrev PN:ByteArray:=⟨#[60]⟩
abbrev PO:ByteArray:=⟨#[61]⟩
end Go.Proofs.YtfcoaagbccmahaaGreat

namespace Go.Proofs.YtfcoaagbccmahaaGreat
open Go.RowKit Go.WalkArith Go.IntWalk Go.WideShapes
def I6(a:Int):UInt8:=UInt8.ofNat (a%256).toNat
theorem ad6(a:Int):IntKind.wrap .u8 a=((I6 a).toNat:Int):=by
 unfold I6 IntKind.wrap
 simp [IntKind.bits,IntKind.signed]
 omega
def bytesStr(l:List UInt8):ByteArray:=⟨l.toArray⟩
theorem YB(l:List UInt8):(bytesStr l).size=l.length:=by simp [bytesStr,ByteArray.size]
theorem YA(l:List UInt8):strOfNums (l.map fun b=>(b.toNat:Int))=bytesStr l:=by
 unfold strOfNums bytesStr
 congr 2
 rw [List.map_map]
 conv=>rhs;rw [← List.map_id l]
 apply List.map_congr_left
 intro b _
 simp
section
variable {P:Program} {C:oP} {n:Nat} {s:AS} {o:Oper}
theorem bB.quoI{T yT:TypeId}{x y:Operand}{a b:Int}(ho:o.op= .binOp .quo T x y yT)(hd:bI o.dst n=true)(hx:s.ev x=some (.t (.leaf (.int .i64 a))))(hy:s.ev y=some (.t (.leaf (.int .i64 b))))(hb:b≠0):
 bB P C n o s (s.putO o.dst (.t (.leaf (.int .i64 (aX (a.tdiv b)))))):=bB.bin ho hd hx hy (fun w=>by simp [eqGuard,binOp,Op.intDiv,hb,aX]) (wf_wrap .i64 _)
theorem bB.remI{T yT:TypeId}{x y:Operand}{a b:Int}(ho:o.op= .binOp .rem T x y yT)(hd:bI o.dst n=true)(hx:s.ev x=some (.t (.leaf (.int .i64 a))))(hy:s.ev y=some (.t (.leaf (.int .i64 b))))(hb:b≠0):
 bB P C n o s (s.putO o.dst (.t (.leaf (.int .i64 (a.tmod b))))):=
 bB.quiet (cT hd) fun m ac w h=>by
  obtain⟨h1,h3⟩:=cF.leaf_eq (h.eval hx)
  have h2:=(cF.leaf_eq (h.eval hy)).1
  have h4: -9223372036854775808≤a∧a≤9223372036854775807:=by
   have h5:(Lit.int .i64 a).wf=true:=h3
   simpa [Lit.wf,IntKind.min,IntKind.max,IntKind.bits,IntKind.signed] using h5
  have h6:(a.tmod b).natAbs≤a.natAbs:=by rw [Int.natAbs_tmod];exact Nat.mod_le _ _
  have h7:0≤a→0≤a.tmod b:=fun h=>Int.tmod_nonneg b h
  have h8:a≤0→a.tmod b≤0:=fun h=>by have:=Int.tmod_nonneg b (show 0≤ -a by omega);rw [Int.neg_tmod] at this;omega
  refine⟨.int .i64 (a.tmod b),?_,cF.leaf (wf_i64 (by omega))⟩
  unfold execOp
  simp [ho,h1,h2,eqGuard,binOp,Op.intDiv,hb]
theorem bB.convU8{S T:TypeId}{x:Operand}{k:IntKind}{a:Int}(ho:o.op= .convert S T x)(hd:bI o.dst n=true)(hx:s.ev x=some (.t (.leaf (.int k a))))(hS: ∃k',P.underlying S=some (.int k'))(hT:P.underlying T=some (.int .u8)):
 bB P C n o s (s.putO o.dst (.t (.leaf (.int .u8 ((I6 a).toNat:Int))))):=
 bB.quiet (cT hd) fun m ac w h=>⟨.int .u8 ((I6 a).toNat:Int),by
  have h3:=(cF.leaf_eq (h.eval hx)).1
  obtain⟨k',hS⟩:=hS
  unfold execOp
  simp [ho,h3,convert,run_underlying hS,run_underlying hT,Conv.intToInt,ad6],cF.leaf (by rw [← ad6];exact wf_wrap .u8 a)⟩
theorem bB.subU8{T yT:TypeId}{x y:Operand}{a b:Int}(ho:o.op= .binOp .sub T x y yT)(hd:bI o.dst n=true)(hx:s.ev x=some (.t (.leaf (.int .u8 a))))(hy:s.ev y=some (.t (.leaf (.int .u8 b)))):
 bB P C n o s (s.putO o.dst (.t (.leaf (.int .u8 ((I6 (a-b)).toNat:Int))))):=by
 rw [← ad6]
 exact bB.subW ho hd hx hy
theorem bB.bytesStr{S T e:TypeId}{x:Operand}{p:PV}{l:List UInt8}(ho:o.op= .convert S T x)(hd:bI o.dst n=true)(hx:s.ev x=some p)(hp:lX p=some (1,lC l))(hS:P.underlying S=some (.slice e))(he:P.underlying e=some (.int .u8))(hT:P.underlying T=some .string):
 bB P C n o s (s.putO o.dst (.t (.leaf (.string (bytesStr l))))):=
 bB.quiet (cT hd) fun m ac w h=>by
  have h1:=xU hp (h.eval hx)
  obtain⟨a0,cap0,hv0,hl0,hm0⟩:=h1.shape
  rw [rB] at hl0
  have hsz:sT (.string (Go.Proofs.YtfcoaagbccmahaaGreat.bytesStr l)):=by show(Go.Proofs.YtfcoaagbccmahaaGreat.bytesStr l).size≤maxLen;rw [YB];omega
  refine⟨.string (Go.Proofs.YtfcoaagbccmahaaGreat.bytesStr l),?_,cF.leaf hsz⟩
  generalize hv:ac.eval x=v at*
  cases h1 with
  |row c q1 q2 q3 q4=>
   have keyAll: ∀(a:Option Addr) (cap:Nat) (q3:lC l≠ []→ ∃b off,a=some ⟨b,off,none⟩∧b<w.heap.size∧ ∀(i:Nat) (e:List Tr),(lC l)[i]?=some e→ ∀(j:Nat) (d:Tr),e[j]?=some d→kP C.av s.st m b (off+i*1+j)∧w.cell? ⟨b,off+i*1+j,none⟩=some (c i j)),(convert S T (.slice a (lC l).length cap)).run P w= .ok (.string (Go.Proofs.YtfcoaagbccmahaaGreat.bytesStr l)) w:=fun a cap q3=>by
    by_cases hne:l= []
    ·subst hne
     have hlen:(lC []).length=0:=rfl
     rw [hlen]
     cases a with
     |none=>exact run_convert_bytes_nil (P:=P) w S e hS he 0 cap T hT
     |some a=>
      obtain⟨b,off,sp⟩:=a
      have hld:(loadCells ⟨b,off,sp⟩ 0).run P w= .ok (([]:List Int).map (Value.int .u8)).toArray w:=by simp [loadCells,loadCellsFrom]
      rw [run_convert_bytes_string w S T e _ 0 cap hS he hT,run_bytesToString w _ 0 cap [] hld]
      rfl
    ·obtain⟨b,off,ha,hb,hc⟩:=q3 (by intro h0;apply hne;have:=congrArg List.length h0;rw [rB] at this;exact List.eq_nil_of_length_eq_zero this)
     subst ha
     have:=run_convert_bytes_arg (P:=P) w S e hS he b off (lC l).length cap (l.map fun b=>(b.toNat:Int)) (by simp [rB]) (fun i hi=>by
      rw [rB] at hi
      have h4:=(hc i _ (A4 hi) 0 (.leaf (.int .u8 ((l[i]).toNat:Int))) rfl).2
      have h5:=(q4 i _ (A4 hi) 0 (.leaf (.int .u8 ((l[i]).toNat:Int))) rfl).rep.leaf_eq.1
      rw [Nat.mul_one,Nat.add_zero] at h4
      rw [h4,h5]
      simp [hi]) T hT
     rw [YA] at this
     exact this
   unfold execOp
   simp only [ho,hv]
   rw [Sem.run_bind,keyAll _ _ q3]
   rfl
end
end Go.Proofs.YtfcoaagbccmahaaGreat

namespace Go.Proofs.YtfcoaagbccmahaaGreat.W
set_option maxRecDepth 100000
set_option maxHeartbeats 40000000
noncomputable section
open Tryz Go.RowKit Go.Proofs
attribute [local irreducible] lt
def Y3(fu:Nat)(ps:ByteArray)(pE:UInt8):((LB)×Int×Int)→Option (LR ((LB)×Int×Int) ((LB))):=fun(v4,v2,v3)=>sw (decide (v3≤(ps.size:Int))) (sw (decide (v3=(ps.size:Int))) (gd ((0:Int)≤v2∧(v2:Int)≤v3∧(v3:Int)≤(ps.size:Int)) (gd ((v4).length+(([(ps.extract (v2:Int).toNat (v3:Int).toNat)]:LB)).length≤68719476736) (some (.next ((v4++([(ps.extract (v2:Int).toNat (v3:Int).toNat)]:LB)),(aX (v3+1)),(aX (v3+1))))))) (gd (0≤v3∧(v3).toNat<(ps).size) (sw (decide ((((FL ps ((v3).toNat)).toNat:Int):Int)=(pE.toNat:Int))) (gd ((0:Int)≤v2∧(v2:Int)≤v3∧(v3:Int)≤(ps.size:Int)) (gd ((v4).length+(([(ps.extract (v2:Int).toNat (v3:Int).toNat)]:LB)).length≤68719476736) (some (.next ((v4++([(ps.extract (v2:Int).toNat (v3:Int).toNat)]:LB)),(aX (v3+1)),(aX (v3+1))))))) (some (.next (v4,v2,(aX (v3+1)))))))) (some (.brk (v4,v2,v3)))
def F9(fu:Nat)(ps:ByteArray)(pE:UInt8):Option ((LB)):=so (loopW (Y3 fu ps pE) fu (([]),0,0)) fun(v4,v2,v3)=>some v4
theorem Y4(fu:Nat)(ps:ByteArray)(pE:UInt8)(r:(LB))(H:F9 fu ps pE=some r):bR Tryz.prog 96 [pS ps,pU pE] (rS r):=by
 refine qJ func96 H (fun C hC H=>?_)
 refine gQ 6 ?_;refine q1 (qE ([]:LB)) ?_;refine gQ 11 ?_;refine gL 5 (bV _) (fun hl6=>?_)
 refine SR (σ:=(LB)×Int×Int) (fun(v4,v2,v3)=>⟨[(0,pS ps),(1,pU pE),(4,.nil),(5,aS v4 0),(6,pI v2),(7,pI v3)],⟨[],[⟨9,1,aY (v4),false⟩]⟩⟩) (fun(v4,v2,v3)=>⟨[(4,.nil),(5,aS v4 0)],⟨[],[⟨9,1,aY (v4),false⟩]⟩⟩) (eK H) ?_ ?_
 ·rintro k5 ⟨v4,v2,v3⟩ H
  refine gQ 5 ?_;refine q1 (bB.lenS rfl rfl rfl Tryz.underlying9) ?_;refine gQ 2 ?_;refine bC H (fun h7 H=>?_) (fun h7 H=>?_)
  ·refine gQ 7 ?_;refine q1 (bB.lenS rfl rfl rfl Tryz.underlying9) ?_;refine gQ 2 ?_;refine dH 19 H (fun g8 H=>?_) fun g8 H=>?_
   ·refine gQ 14 ?_;refine cC H fun z9 H=>(q1 (bB.sliceS (l:=v2) (k:=v3) rfl rfl rfl rfl rfl z9 Tryz.underlying9) (q1 (iF ([(ps.extract (v2:Int).toNat (v3:Int).toNat)]:LB)) (cC H fun z10 H=>(q1 (lG z10) ?_))))
    exact gE 12
   refine gQ 2 ?_;refine cC H fun z11 H=>(qg g8 (bB.indexSI (y:=v3) rfl rfl rfl rfl z11.1 z11.2 Tryz.underlying9) ?_)
   refine gQ 4 ?_;refine bC H (fun h12 H=>?_) (fun h12 H=>?_)
   ·refine gQ 6 ?_;refine cC H fun z13 H=>(q1 (bB.sliceS (l:=v2) (k:=v3) rfl rfl rfl rfl rfl z13 Tryz.underlying9) (q1 (iF ([(ps.extract (v2:Int).toNat (v3:Int).toNat)]:LB)) (cC H fun z14 H=>(q1 (lG z14) ?_))))
    exact gE 12
   exact gE 6
  exact gE 0
 rintro⟨v4,v2,v3⟩ H
 exact gE 5
def XI(fu:Nat)(pr:dG):Int→Option (LR Int dG):=fun v1=>sw (decide (v1<(pr.aCM.size:Int))) (gd (0≤v1∧(v1).toNat<(pr.aCM).size) (sw (decide ((((FL pr.aCM ((v1).toNat)).toNat:Int):Int)=32)) (some (.next (aX (v1+1)))) (sw (decide ((((FL pr.aCM ((v1).toNat)).toNat:Int):Int)=10)) (some (.next (aX (v1+1)))) (some (.brk v1))))) (some (.brk v1))
def AV(fu:Nat)(pr:dG):Option dG:=so (loopW (XI fu pr) fu pr.aCB) fun v1=>some (dG.mk pr.aCM v1 pr.aCw pr.aCz pr.aCD)
theorem M6(fu:Nat)(pr:dG)(r:dG)(H:AV fu pr=some r):b7 Tryz.prog 172 [.ptr 0 0] ⟨[some ⟨220,[pS pr.aCM,pI pr.aCB,pI pr.aCw,pI pr.aCz,pB pr.aCD]⟩],[]⟩ (fun q t=>q=(.tup [])∧t=⟨[some ⟨220,[pS r.aCM,pI r.aCB,pI r.aCw,pI r.aCz,pB r.aCD]⟩],[]⟩):=by
 refine qJ func172 H (fun C hC H=>?_)
 refine SR (σ:=Int) (fun v1=>⟨[(0,.ptr 0 0)],⟨[some ⟨220,[pS pr.aCM,pI v1,pI pr.aCw,pI pr.aCz,pB pr.aCD]⟩],[]⟩⟩) (fun v1=>⟨[],⟨[some ⟨220,[pS pr.aCM,pI v1,pI pr.aCw,pI pr.aCz,pB pr.aCD]⟩],[]⟩⟩) (eK H) ?_ ?_
 ·rintro k2 v1 H
  refine gQ 2 ?_
  rcases oQ (decide (v1<(pr.aCM.size:Int))) with g3|g3
  ·have H:=sZ H g3
   refine cC H fun z4 H=>?_
   rcases oQ (decide ((((FL pr.aCM ((v1).toNat)).toNat:Int):Int)=32)) with g5|g5
   ·have H:=sZ H g5
    refine dW (dI [0] bF (dI [2] uL (dI [3] bZ (dD [4] eE (dI [0] bF (dI [6] uL (dI [7] bZ (dD [8] eE (dI [9] (bB.lenS rfl rfl rfl Tryz.underlying9) (dI [5,10] rLt (dI [11] bF (dI (hg:=bD g3) [0] bF (dI (hg:=bD g3) [13] uL ?_)))))))))))))
    refine dI (hg:=bD g3) [14] bZ (dD (hg:=bD g3) [15] eE (dI (hg:=bD g3) [0] bF (dI (hg:=bD g3) [17] uL (dI (hg:=bD g3) [18] bZ (dD (hg:=bD g3) [19] eE (dI (hg:=bD g3) [16,20] (bB.indexSI (y:=v1) rfl rfl rfl rfl z4.1 z4.2 Tryz.underlying9) (dI (hg:=bD g3) [21] rEq (dI (hg:=bD g3) [22] bF ?_))))))))
    iterate 10 refine NH g5 ?_
    refine dI (hg:=bD g3) [23] (DV g5) (dI [12,34] (DV g3) (dN ?_))
    exact gE 14
   have H:=sY H g5
   refine dW (dI [0] bF (dI [2] uL (dI [3] bZ (dD [4] eE (dI [0] bF (dI [6] uL (dI [7] bZ (dD [8] eE (dI [9] (bB.lenS rfl rfl rfl Tryz.underlying9) (dI [5,10] rLt (dI [11] bF (dI (hg:=bD g3) [0] bF (dI (hg:=bD g3) [13] uL ?_)))))))))))))
   refine dI (hg:=bD g3) [14] bZ (dD (hg:=bD g3) [15] eE (dI (hg:=bD g3) [0] bF (dI (hg:=bD g3) [17] uL (dI (hg:=bD g3) [18] bZ (dD (hg:=bD g3) [19] eE (dI (hg:=bD g3) [16,20] (bB.indexSI (y:=v1) rfl rfl rfl rfl z4.1 z4.2 Tryz.underlying9) (dI (hg:=bD g3) [21] rEq (dI (hg:=bD g3) [22] bF (dI (hg:=bD g5) [0] bF (dI (hg:=bD g5) [24] uL (dI (hg:=bD g5) [25] bZ (dD (hg:=bD g5) [26] eE (dI (hg:=bD g5) [0] bF ?_)))))))))))))
   refine dI (hg:=bD g5) [28] uL (dI (hg:=bD g5) [29] bZ (dD (hg:=bD g5) [30] eE (dI (hg:=bD g5) [27,31] (bB.indexSI (y:=v1) rfl rfl rfl rfl z4.1 z4.2 Tryz.underlying9) (dI (hg:=bD g5) [32] rEq (dI (hg:=bD g3) [23,33] (F5 g5) (dI [12,34] (DV g3) (dN ?_)))))))
   refine bC H (fun h6 H=>gE 13) fun h6 H=>?_;exact gE 0
  have H:=sY H g3
  refine dW (dI [0] bF (dI [2] uL (dI [3] bZ (dD [4] eE (dI [0] bF (dI [6] uL (dI [7] bZ (dD [8] eE (dI [9] (bB.lenS rfl rfl rfl Tryz.underlying9) (dI [5,10] rLt (dI [11] bF ?_)))))))))))
  iterate 11 refine NH g3 ?_
  iterate 10 refine dSu ?_
  refine NH g3 (dI [12] (F5 g3) (dN ?_))
  exact gE 1
 rintro v1 H
 cases vI H
 exact qe (ps:= []) ⟨rfl,rfl⟩ trivial
def JZ(fu:Nat)(px:UInt8):Option Bool:=sw (decide ((px.toNat:Int)≥97)) (sw (decide ((px.toNat:Int)≤122)) (some true) (sw (decide ((px.toNat:Int)≥48)) (sw (decide ((px.toNat:Int)≤57)) (some true) (sw (decide ((px.toNat:Int)=39)) (some true) (sw (decide ((px.toNat:Int)=45)) (some true) (sw (decide ((px.toNat:Int)=43)) (some true) (sw (decide ((px.toNat:Int)=42)) (some true) (sw (decide ((px.toNat:Int)=60)) (some true) (sw (decide ((px.toNat:Int)=61)) (some true) (some (decide ((px.toNat:Int)=46)))))))))) (sw (decide ((px.toNat:Int)=39)) (some true) (sw (decide ((px.toNat:Int)=45)) (some true) (sw (decide ((px.toNat:Int)=43)) (some true) (sw (decide ((px.toNat:Int)=42)) (some true) (sw (decide ((px.toNat:Int)=60)) (some true) (sw (decide ((px.toNat:Int)=61)) (some true) (some (decide ((px.toNat:Int)=46))))))))))) (sw (decide ((px.toNat:Int)≥48)) (sw (decide ((px.toNat:Int)≤57)) (some true) (sw (decide ((px.toNat:Int)=39)) (some true) (sw (decide ((px.toNat:Int)=45)) (some true) (sw (decide ((px.toNat:Int)=43)) (some true) (sw (decide ((px.toNat:Int)=42)) (some true) (sw (decide ((px.toNat:Int)=60)) (some true) (sw (decide ((px.toNat:Int)=61)) (some true) (some (decide ((px.toNat:Int)=46)))))))))) (sw (decide ((px.toNat:Int)=39)) (some true) (sw (decide ((px.toNat:Int)=45)) (some true) (sw (decide ((px.toNat:Int)=43)) (some true) (sw (decide ((px.toNat:Int)=42)) (some true) (sw (decide ((px.toNat:Int)=60)) (some true) (sw (decide ((px.toNat:Int)=61)) (some true) (some (decide ((px.toNat:Int)=46))))))))))
theorem XF(fu:Nat)(px:UInt8)(r:Bool)(H:JZ fu px=some r):bR Tryz.prog 196 [pU px] (pB r):=by
 refine qJ func196 H (fun C hC H=>?_)
 refine gQ 9 ?_;refine dH 5 H (fun g1 H=>?_) fun g1 H=>?_
 ·refine gQ 4 ?_;refine dH 9 H (fun g2 H=>gE 37) fun g2 H=>?_;refine gQ 3 ?_;refine dH 12 H (fun g3 H=>?_) fun g3 H=>?_
  ·refine gQ 5 ?_;refine dH 17 H (fun g4 H=>gE 29) fun g4 H=>?_;refine gQ 4 ?_;refine dH 21 H (fun g5 H=>gE 25) fun g5 H=>?_;refine gQ 4 ?_;refine dH 25 H (fun g6 H=>gE 21) fun g6 H=>?_;refine gQ 4 ?_;refine dH 29 H (fun g7 H=>gE 17) fun g7 H=>?_;refine gQ 4 ?_;refine dH 33 H (fun g8 H=>gE 13) fun g8 H=>?_;refine gQ 4 ?_;refine dH 37 H (fun g9 H=>gE 9) fun g9 H=>?_;refine gQ 4 ?_;refine dH 41 H (fun g10 H=>gE 5) fun g10 H=>?_;exact gE 5
  refine gQ 9 ?_;refine dH 21 H (fun g11 H=>gE 25) fun g11 H=>?_;refine gQ 4 ?_;refine dH 25 H (fun g12 H=>gE 21) fun g12 H=>?_;refine gQ 4 ?_;refine dH 29 H (fun g13 H=>gE 17) fun g13 H=>?_;refine gQ 4 ?_;refine dH 33 H (fun g14 H=>gE 13) fun g14 H=>?_;refine gQ 4 ?_;refine dH 37 H (fun g15 H=>gE 9) fun g15 H=>?_;refine gQ 4 ?_;refine dH 41 H (fun g16 H=>gE 5) fun g16 H=>?_;exact gE 5
 refine gQ 7 ?_;refine dH 12 H (fun g17 H=>?_) fun g17 H=>?_
 ·refine gQ 5 ?_;refine dH 17 H (fun g18 H=>gE 29) fun g18 H=>?_;refine gQ 4 ?_;refine dH 21 H (fun g19 H=>gE 25) fun g19 H=>?_;refine gQ 4 ?_;refine dH 25 H (fun g20 H=>gE 21) fun g20 H=>?_;refine gQ 4 ?_;refine dH 29 H (fun g21 H=>gE 17) fun g21 H=>?_;refine gQ 4 ?_;refine dH 33 H (fun g22 H=>gE 13) fun g22 H=>?_;refine gQ 4 ?_;refine dH 37 H (fun g23 H=>gE 9) fun g23 H=>?_;refine gQ 4 ?_;refine dH 41 H (fun g24 H=>gE 5) fun g24 H=>?_;exact gE 5
 refine gQ 9 ?_;refine dH 21 H (fun g25 H=>gE 25) fun g25 H=>?_;refine gQ 4 ?_;refine dH 25 H (fun g26 H=>gE 21) fun g26 H=>?_;refine gQ 4 ?_;refine dH 29 H (fun g27 H=>gE 17) fun g27 H=>?_;refine gQ 4 ?_;refine dH 33 H (fun g28 H=>gE 13) fun g28 H=>?_;refine gQ 4 ?_;refine dH 37 H (fun g29 H=>gE 9) fun g29 H=>?_;refine gQ 4 ?_;refine dH 41 H (fun g30 H=>gE 5) fun g30 H=>?_;exact gE 5
abbrev AU:=dG→Option (aB×dG)
def J3(m:AU):Prop:= ∀(pA:dG) (r:aB×dG),m pA=some r→b7 Tryz.prog 171 [.ptr 0 0] ⟨[some ⟨220,[pS pA.aCM,pI pA.aCB,pI pA.aCw,pI pA.aCz,pB pA.aCD]⟩],[]⟩ (fun q t=>q=((aB.pv r.1):PV)∧t=⟨[some ⟨220,[pS r.2.aCM,pI r.2.aCB,pI r.2.aCw,pI r.2.aCz,pB r.2.aCD]⟩],[]⟩)
def XG(fu:Nat)(p3:AU)(pA x2:dG):Int→Option (LR Int (aB×dG)):=fun v5=>sw (decide (v5<(x2.aCM.size:Int))) (gd (0≤v5∧(v5).toNat<(x2.aCM).size) (bd (JZ fu (FL x2.aCM ((v5).toNat))) fun x10=>sw x10 (some (.next (aX (v5+1)))) (some (.brk v5)))) (some (.brk v5))
def XH(fu:Nat)(p3:AU)(pA x2:dG)(v5:Int):(ByteArray×Int×Int×Int×Bool×(List aB))→Option (LR (ByteArray×Int×Int×Int×Bool×(List aB)) (aB×dG)):=fun(v17,v18,v19,v20,v21,v23)=>sw (!(v21)) (bd (AV fu (dG.mk v17 v18 v19 v20 v21)) fun x27=>sw (decide (x27.aCB<(x27.aCM.size:Int))) (gd (0≤x27.aCB∧(x27.aCB).toNat<(x27.aCM).size) (sw (decide ((((FL x27.aCM ((x27.aCB).toNat)).toNat:Int):Int)=41)) (some (.ret ((aB.mk s_ v23),(dG.mk x27.aCM (aX (x27.aCB+1)) (aX (x27.aCw-1)) x27.aCz x27.aCD)))) (bd (p3 x27) fun(x32,x33)=>gd ((v23).length+(([x32]:List aB)).length≤68719476736) (some (.next (x33.aCM,x33.aCB,x33.aCw,x33.aCz,x33.aCD,(v23++([x32]:List aB)))))))) (bd (p3 x27) fun(x36,x37)=>gd ((v23).length+(([x36]:List aB)).length≤68719476736) (some (.next (x37.aCM,x37.aCB,x37.aCw,x37.aCz,x37.aCD,(v23++([x36]:List aB))))))) (some (.brk (v17,v18,v19,v20,v21,v23)))
def J2(fu:Nat)(p3:AU)(pA:dG):Option (aB×dG):=bd (AV fu pA) fun x2=>sw (decide (x2.aCB≥(x2.aCM.size:Int))) (some ((aB.mk s_ []),(dG.mk x2.aCM x2.aCB x2.aCw (aX (x2.aCz+1)) true))) (sw (decide ((aX (x2.aCz+1):Int)>900)) (some ((aB.mk s_ []),(dG.mk x2.aCM x2.aCB x2.aCw (aX (x2.aCz+1)) true))) (so (loopW (XG fu p3 pA x2) fu x2.aCB) fun v5=>sw (decide (v5>x2.aCB)) (gd ((0:Int)≤x2.aCB∧(x2.aCB:Int)≤v5∧(v5:Int)≤(x2.aCM.size:Int)) (some ((aB.mk (x2.aCM.extract (x2.aCB:Int).toNat (v5:Int).toNat) []),(dG.mk x2.aCM v5 x2.aCw (aX (x2.aCz+1)) x2.aCD)))) (gd (0≤v5∧(v5).toNat<(x2.aCM).size) (sw (!decide ((((FL x2.aCM ((v5).toNat)).toNat:Int):Int)=40)) (some ((aB.mk s_ []),(dG.mk x2.aCM v5 x2.aCw (aX (x2.aCz+1)) true))) (sw (decide (x2.aCw=14)) (some ((aB.mk s_ []),(dG.mk x2.aCM v5 x2.aCw (aX (x2.aCz+1)) true))) (so (loopW (XH fu p3 pA x2 v5) fu (x2.aCM,(aX (v5+1)),(aX (x2.aCw+1)),(aX (x2.aCz+1)),x2.aCD,([]))) fun(v17,v18,v19,v20,v21,v23)=>some ((aB.mk s_ v23),(dG.mk v17 v18 v19 v20 v21))))))))
theorem adO(fu:Nat)(p3:AU)(p9:J3 p3):J3 (J2 fu p3):=by
 intro pA r H
 refine qJ func171 H (fun C hC H=>?_)
 refine gQ 7 ?_;refine bK H fun x2 z1 H=>(q1 (eU [0] [] func172 (M6 fu pA _ z1)) ?_)
 refine gQ 15 ?_
 rcases oQ (decide (x2.aCB≥(x2.aCM.size:Int))) with g3|g3
 ·have H:=sZ H g3
  refine dW (dI [0] bF (dI [15] uL (dI [16] bZ (dD [17] eE (dI [0] bF (dI [19] uL (dI [20] bZ (dD [21] eE (dI [22] (bB.lenS rfl rfl rfl Tryz.underlying9) (dI [18,23] rGe (dI [24] bF ?_)))))))))))
  iterate 5 refine NH g3 ?_
  refine dI [25] (DV g3) (dN ?_)
  exact gE 13
 have H:=sY H g3
 refine dW (dI [0] bF (dI [15] uL (dI [16] bZ (dD [17] eE (dI [0] bF (dI [19] uL (dI [20] bZ (dD [21] eE (dI [22] (bB.lenS rfl rfl rfl Tryz.underlying9) (dI [18,23] rGe (dI [24] bF (dI (hg:=bD g3) [0] bF (dI (hg:=bD g3) [26] uL ?_)))))))))))))
 refine dI (hg:=bD g3) [27] bZ (dD (hg:=bD g3) [28] eE (dI (hg:=bD g3) [29] rGt (dI [25,30] (F5 g3) (dN ?_))))
 refine bC H (fun h4 H=>gE 12) fun h4 H=>?_;refine gQ 10 ?_;refine SR (σ:=Int) (fun v5=>⟨[(0,.ptr 0 0),(2,.ptr 1 0),(3,pI x2.aCB)],⟨[some ⟨220,[pS x2.aCM,pI v5,pI x2.aCw,pI (aX (x2.aCz+1)),pB x2.aCD]⟩,some ⟨189,[pS s_,.nil]⟩],[]⟩⟩) (fun v5=>⟨[(0,.ptr 0 0),(2,.ptr 1 0),(3,pI x2.aCB)],⟨[some ⟨220,[pS x2.aCM,pI v5,pI x2.aCw,pI (aX (x2.aCz+1)),pB x2.aCD]⟩,some ⟨189,[pS s_,.nil]⟩],[]⟩⟩) (eK H) ?_ ?_
 ·rintro k6 v5 H
  refine gQ 2 ?_
  rcases oQ (decide (v5<(x2.aCM.size:Int))) with g7|g7
  ·have H:=sZ H g7
   refine cC H fun z8 H=>(bK H fun x10 z9 H=>(dW (dI [0] bF (dI [40] uL (dI [41] bZ (dD [42] eE (dI [0] bF (dI [44] uL (dI [45] bZ (dD [46] eE (dI [47] (bB.lenS rfl rfl rfl Tryz.underlying9) (dI [43,48] rLt (dI [49] bF ?_)))))))))))))
   refine dI (hg:=bD g7) [0] bF (dI (hg:=bD g7) [51] uL (dI (hg:=bD g7) [52] bZ (dD (hg:=bD g7) [53] eE (dI (hg:=bD g7) [0] bF (dI (hg:=bD g7) [55] uL (dI (hg:=bD g7) [56] bZ (dD (hg:=bD g7) [57] eE (dI (hg:=bD g7) [54,58] (bB.indexSI (y:=v5) rfl rfl rfl rfl z8.1 z8.2 Tryz.underlying9) (dI (hg:=bD g7) [59] (bE func196 (XF fu (FL x2.aCM ((v5).toNat)) _ z9)) (dI [50,60] (DV g7) (dN ?_)))))))))))
   refine bC H (fun h11 H=>gE 13) fun h11 H=>?_;exact gE 0
  have H:=sY H g7
  refine dW (dI [0] bF (dI [40] uL (dI [41] bZ (dD [42] eE (dI [0] bF (dI [44] uL (dI [45] bZ (dD [46] eE (dI [47] (bB.lenS rfl rfl rfl Tryz.underlying9) (dI [43,48] rLt (dI [49] bF ?_)))))))))))
  iterate 10 refine NH g7 ?_
  refine dI [50] (F5 g7) (dN ?_)
  exact gE 1
 rintro v5 H
 refine gQ 10 ?_;refine bC H (fun h12 H=>?_) (fun h12 H=>?_)
 ·refine qS (cC H fun z13 H=>(dW (dI [0] bF (dI [76] uL (dI [77] bZ (dD [78] eE (dI [3] bF (dI [0] bF (dI [81] uL (dI [82] bZ (dD [83] eE (dI [79,80,84] (bB.sliceS (l:=x2.aCB) (k:=v5) rfl rfl rfl rfl rfl z13 Tryz.underlying9) (dI [85] rW ?_)))))))))))))
  refine kU [2,86] jO (dN ?_)
  exact gE 0
 refine gQ 3 ?_;refine cC H fun z14 H=>?_
 rcases oQ (!decide ((((FL x2.aCM ((v5).toNat)).toNat:Int):Int)=40)) with g15|g15
 ·have H:=sZ H g15
  refine dW (dI [0] bF (dI [87] uL (dI [88] bZ (dD [89] eE (dI [0] bF (dI [91] uL (dI [92] bZ (dD [93] eE (dI [90,94] (bB.indexSI (y:=v5) rfl rfl rfl rfl z14.1 z14.2 Tryz.underlying9) (dI [95] rNe (dI [96] bF ?_)))))))))))
  iterate 5 refine NH g15 ?_
  refine dI [97] (DV g15) (dN ?_)
  exact gE 13
 have H:=sY H g15
 refine dW (dI [0] bF (dI [87] uL (dI [88] bZ (dD [89] eE (dI [0] bF (dI [91] uL (dI [92] bZ (dD [93] eE (dI [90,94] (bB.indexSI (y:=v5) rfl rfl rfl rfl z14.1 z14.2 Tryz.underlying9) (dI [95] rNe (dI [96] bF (dI (hg:=bD g15) [0] bF (dI (hg:=bD g15) [98] uL ?_)))))))))))))
 refine dI (hg:=bD g15) [99] bZ (dD (hg:=bD g15) [100] eE (dI (hg:=bD g15) [101] rEq (dI [97,102] (F5 g15) (dN ?_))))
 refine bC H (fun h16 H=>gE 12) fun h16 H=>?_;refine gQ 32 ?_;refine cQ.wk (Wk.regBox (k:=2) (j:=1) 189 2 (by decide) rfl rfl) ?_;refine SR (σ:=ByteArray×Int×Int×Int×Bool×(List aB)) (fun(v17,v18,v19,v20,v21,v23)=>⟨[(0,.ptr 0 0),(2,.ptr 1 0),(4,.ptr 2 0)],⟨[some ⟨220,[pS v17,pI v18,pI v19,pI v20,pB v21]⟩,some ⟨189,[pS s_,.nil]⟩,some ⟨189,[pS s_,eF v23 0]⟩],[⟨189,2,aB.trs (v23),false⟩]⟩⟩) (fun(v17,v18,v19,v20,v21,v23)=>⟨[(2,.ptr 1 0),(4,.ptr 2 0)],⟨[some ⟨220,[pS v17,pI v18,pI v19,pI v20,pB v21]⟩,some ⟨189,[pS s_,.nil]⟩,some ⟨189,[pS s_,eF v23 0]⟩],[⟨189,2,aB.trs (v23),false⟩]⟩⟩) (eK H) ?_ ?_
 ·rintro k24 ⟨v17,v18,v19,v20,v21,v23⟩ H
  refine gQ 9 ?_;refine bC H (fun h25 H=>?_) (fun h25 H=>?_)
  ·refine gQ 5 ?_;refine bK H fun x27 z26 H=>(q1 (eU [0] [] func172 (M6 fu (dG.mk v17 v18 v19 v20 v21) _ z26)) ?_)
   refine gQ 3 ?_
   rcases oQ (decide (x27.aCB<(x27.aCM.size:Int))) with g28|g28
   ·have H:=sZ H g28
    refine cC H fun z29 H=>(dW (dI [0] bF (dI [132] uL (dI [133] bZ (dD [134] eE (dI [0] bF (dI [136] uL (dI [137] bZ (dD [138] eE (dI [139] (bB.lenS rfl rfl rfl Tryz.underlying9) (dI [135,140] rLt (dI [141] bF (dI (hg:=bD g28) [0] bF ?_)))))))))))))
    refine dI (hg:=bD g28) [143] uL (dI (hg:=bD g28) [144] bZ (dD (hg:=bD g28) [145] eE (dI (hg:=bD g28) [0] bF (dI (hg:=bD g28) [147] uL (dI (hg:=bD g28) [148] bZ (dD (hg:=bD g28) [149] eE (dI (hg:=bD g28) [146,150] (bB.indexSI (y:=x27.aCB) rfl rfl rfl rfl z29.1 z29.2 Tryz.underlying9) (dI (hg:=bD g28) [151] rEq (dI [142,152] (DV g28) (dN ?_))))))))))
    refine bC H (fun h30 H=>?_) (fun h30 H=>?_)
    ·refine gQ 26 ?_;refine q1 (bW [pS s_,eF v23 0]) ?_;exact gE 2
    refine cQ.skip (dP H fun x32 x33 z31 H=>(cC H fun z34 H=>(dW (dI [4] bZ (dB [171] 0 1 uK (dI [0] bF (dE [173] (eU [0] [] func171 (p9 x27 _ z31)) (dI [174] (iF ([x32]:List aB)) (dE [172,175] (lG z34) (dI [4] bZ (kU [177,176] jO (dN ?_))))))))))))
    exact gE 0
   have H:=sY H g28
   refine dW (dI [0] bF (dI [132] uL (dI [133] bZ (dD [134] eE (dI [0] bF (dI [136] uL (dI [137] bZ (dD [138] eE (dI [139] (bB.lenS rfl rfl rfl Tryz.underlying9) (dI [135,140] rLt (dI [141] bF ?_)))))))))))
   iterate 10 refine NH g28 ?_
   refine dI [142] (F5 g28) (dN ?_)
   refine gQ 2 ?_;refine dP H fun x36 x37 z35 H=>(cC H fun z38 H=>(dW (dI [4] bZ (dB [171] 0 1 uK (dI [0] bF (dE [173] (eU [0] [] func171 (p9 x27 _ z35)) (dI [174] (iF ([x36]:List aB)) (dE [172,175] (lG z38) (dI [4] bZ (kU [177,176] jO (dN ?_)))))))))))
   exact gE 0
  exact gE 0
 rintro⟨v17,v18,v19,v20,v21,v23⟩ H
 refine gQ 2 ?_;refine q1 (bW [pS s_,eF v23 0]) ?_;exact gE 2
def sO:Nat→dG→Option (aB×dG)
 |0,_=>none
 |fu+1,pA=>J2 fu (sO fu) pA
theorem ag6(fu:Nat):J3 (sO fu):=by
 induction fu with
 |zero=>exact(fun pA r H=>by simp only [sO] at H;cases H)
 |succ fu ih=>exact(fun pA r H=>by simp only [sO] at H;exact adO fu (sO fu) ih pA r H)
theorem ajX(fu:Nat):J3 (sO fu):=(ag6 fu)
abbrev AT:=aB→Int→Option Int
def J1(m:AT):Prop:= ∀(px:aB) (p6:Int) (r:Int),m px p6=some r→bR Tryz.prog 197 [(aB.pv px),pI p6] (pI r:PV)
def ajT(fu:Nat)(p4:AT)(px:aB)(p6:Int):Nat→Int→Option (LR Int Int):=fun i1 v2=>sw (decide (v2≥0)) (bd (p4 (aT px.aB6 i1) v2) fun x7=>some (.next x7)) (some (.brk v2))
def SB(fu:Nat)(p4:AT)(px:aB)(p6:Int):Option Int:=so (loopN (ajT fu p4 px p6) (px.aB6.length-0) 0 (aX (p6-1))) fun v2=>some v2
theorem adN(fu:Nat)(p4:AT)(pC:J1 p4):J1 (SB fu p4):=by
 intro px p6 r H
 refine qJ func197 H (fun C hC H=>?_)
 refine gQ 2 ?_;refine q1 (eX ([pS px.aB9,bH px.aB6])) ?_;refine gQ 13 ?_;refine cQ.fact (cI 0 1 rfl rfl rfl (aB.trs_len _)) (fun hl3=>?_)
 refine bU (σ:=Int) (fun i1 v2=>⟨[(1,pI v2),(2,.ptr 0 0),(4,pI 0),(5,pN i1)],⟨[some ⟨189,[pS px.aB9,bH px.aB6]⟩],[]⟩⟩) (fun v2=>⟨[(1,pI v2),(4,pI 0)],⟨[some ⟨189,[pS px.aB9,bH px.aB6]⟩],[]⟩⟩) (eK H) ?_ ?_
 ·rintro i1 v2 H
  refine gQ 9 ?_;refine AL.splitB 13 rfl (fun g4=>?_) (fun g4=>?_)
  ·have g4l:=wK g4
   have H:=lnT g4l H
   have g4n:=AO g4
   refine gQ 4 ?_;refine bC H (fun h5 H=>?_) (fun h5 H=>?_)
   ·refine gQ 8 ?_;refine q1 (iI (aB.cs (aT px.aB6 i1))) (q1 bF (bK H fun x7 z6 H=>(q1 (bE func197 (pC (aT px.aB6 i1) v2 _ z6)) ?_)))
    exact gE 7
   exact gE 0
  have H:=lnE (wJ g4) H
  exact gE 5
 rintro v2 H
 exact gE 5
def qB:Nat→aB→Int→Option Int
 |0,_,_=>none
 |fu+1,px,p6=>SB fu (qB fu) px p6
theorem ag5(fu:Nat):J1 (qB fu):=by
 induction fu with
 |zero=>exact(fun px p6 r H=>by simp only [qB] at H;cases H)
 |succ fu ih=>exact(fun px p6 r H=>by simp only [qB] at H;exact adN fu (qB fu) ih px p6 r H)
theorem ajV(fu:Nat):J1 (qB fu):=(ag5 fu)
def sK(fu:Nat)(px pF pG:Int):Option Bool:=sw (decide (px≥pF)) (some (decide (px≤pG))) (some false)
theorem yD(fu:Nat)(px:Int)(pF:Int)(pG:Int)(r:Bool)(H:sK fu px pF pG=some r):bR Tryz.prog 64 [pI px,pI pF,pI pG] (pB r):=by
 refine qJ func64 H (fun C hC H=>?_)
 refine gQ 10 ?_;refine dH 10 H (fun g1 H=>gE 6) fun g1 H=>?_;exact gE 6
def TV(fu:Nat)(ps:ByteArray):Nat→Unit→Option (LR Unit Bool):=fun i1 _=>gd (i1<(ps).size) (bd (JZ fu (FL ps i1)) fun x6=>sw (!(x6)) (some (.ret false)) (some (.next ())))
def BM(fu:Nat)(ps:ByteArray):Option Bool:=so (loopN (TV fu ps) (ps.size-0) 0 ()) fun _=>bd (sK fu (ps.size:Int) 1 12) fun x9=>some x9
theorem TW(fu:Nat)(ps:ByteArray)(r:Bool)(H:BM fu ps=some r):bR Tryz.prog 214 [pS ps] (pB r):=by
 refine qJ func214 H (fun C hC H=>?_)
 refine gQ 9 ?_;refine szF 0 (fun hl2=>?_)
 refine bU (σ:=Unit) (fun i1 _=>⟨[(0,pS ps),(2,pB false),(3,pN i1)],⟨[],[]⟩⟩) (fun _=>⟨[(0,pS ps),(2,pB false)],⟨[],[]⟩⟩) (eK H) ?_ ?_
 ·rintro i1 ⟨⟩ H
  refine gQ 5 ?_;refine q1 (bB.lenS rfl rfl rfl Tryz.underlying9) ?_;refine gQ 2 ?_;refine cS H (fun h3 h3l H=>?_) (fun h3 H=>?_)
  ·have h3n:i1<ps.size:=by have:=of_decide_eq_true h3;omega
   refine gQ 7 ?_;refine cC H fun z4 H=>(q1 (bB.indexS (k:=i1) rfl rfl rfl rfl z4 Tryz.underlying9) (bK H fun x6 z5 H=>(q1 (bE func196 (XF fu (FL ps i1) _ z5)) ?_)))
   refine gQ 2 ?_;refine bC H (fun h7 H=>gE 4) fun h7 H=>?_;exact gE 6
  exact gE 0
 rintro⟨⟩ H
 refine gQ 3 ?_;refine q1 (bB.lenS rfl rfl rfl Tryz.underlying9) (bK H fun x9 z8 H=>(q1 (bE func64 (yD fu (ps.size:Int) 1 12 _ z8)) ?_))
 exact gE 2
abbrev AR:=aB→Option Bool
def J0(m:AR):Prop:= ∀(px:aB) (r:Bool),m px=some r→bR Tryz.prog 198 [(aB.pv px)] (pB r:PV)
def ajQ(fu:Nat)(p5:AR)(px:aB):Nat→Unit→Option (LR Unit Bool):=fun i5 _=>bd (p5 (aT px.aB6 i5)) fun x9=>sw (!(x9)) (some (.ret false)) (some (.next ()))
def SA(fu:Nat)(p5:AR)(px:aB):Option Bool:=sw (!decide (px.aB9=s_)) (bd (BM fu px.aB9) fun x3=>sw x3 (some (decide ((px.aB6.length:Int)=0))) (some false)) (so (loopN (ajQ fu p5 px) (px.aB6.length-0) 0 ()) fun _=>some true)
theorem adM(fu:Nat)(p5:AR)(pD:J0 p5):J0 (SA fu p5):=by
 intro px r H
 refine qJ func198 H (fun C hC H=>?_)
 refine gQ 2 ?_;refine q1 (eX ([pS px.aB9,bH px.aB6])) ?_;refine gQ 9 ?_;refine bC H (fun h1 H=>?_) (fun h1 H=>?_)
 ·refine gQ 4 ?_;refine bK H fun x3 z2 H=>(q1 (bE func214 (TW fu px.aB9 _ z2)) (q1 bF ?_))
  refine dH 10 H (fun g4 H=>gE 7) fun g4 H=>?_;exact gE 7
 refine gQ 6 ?_;refine cQ.fact (cI 0 1 rfl rfl rfl (aB.trs_len _)) (fun hl6=>?_)
 refine bU (σ:=Unit) (fun i5 _=>⟨[(1,.ptr 0 0),(2,pB false),(3,pN i5)],⟨[some ⟨189,[pS px.aB9,bH px.aB6]⟩],[]⟩⟩) (fun _=>⟨[(2,pB false)],⟨[some ⟨189,[pS px.aB9,bH px.aB6]⟩],[]⟩⟩) (eK H) ?_ ?_
 ·rintro i5 ⟨⟩ H
  refine gQ 9 ?_;refine cS H (fun h7 h7l H=>?_) (fun h7 H=>?_)
  ·refine gQ 9 ?_;refine q1 (iI (aB.cs (aT px.aB6 i5))) (bK H fun x9 z8 H=>(q1 (bE func198 (pD (aT px.aB6 i5) _ z8)) ?_))
   refine gQ 2 ?_;refine bC H (fun h10 H=>gE 4) fun h10 H=>?_;exact gE 6
  exact gE 0
 rintro⟨⟩ H
 exact gE 4
def qA:Nat→aB→Option Bool
 |0,_=>none
 |fu+1,px=>SA fu (qA fu) px
theorem ag4(fu:Nat):J0 (qA fu):=by
 induction fu with
 |zero=>exact(fun px r H=>by simp only [qA] at H;cases H)
 |succ fu ih=>exact(fun px r H=>by simp only [qA] at H;exact adM fu (qA fu) ih px r H)
theorem ajS(fu:Nat):J0 (qA fu):=(ag4 fu)
def PF(fu:Nat)(pa pb:Int):Option Int:=sw (decide (pa>pb)) (some pa) (some pb)
theorem aaX(fu:Nat)(pa:Int)(pb:Int)(r:Int)(H:PF fu pa pb=some r):bR Tryz.prog 215 [pI pa,pI pb] (pI r):=by
 refine qJ func215 H (fun C hC H=>?_)
 refine gQ 11 ?_;refine bC H (fun h1 H=>gE 5) fun h1 H=>?_;exact gE 6
abbrev pY:=aB→Option Int
def xD(m:pY):Prop:= ∀(px:aB) (r:Int),m px=some r→bR Tryz.prog 199 [(aB.pv px)] (pI r:PV)
def WT(fu:Nat)(p1:pY)(px:aB):Nat→Int→Option (LR Int Int):=fun i2 v3=>bd (p1 (aT px.aB6 i2)) fun x7=>bd (PF fu v3 x7) fun x9=>some (.next x9)
def DQ(fu:Nat)(p1:pY)(px:aB):Option Int:=sw (!decide (px.aB9=s_)) (some 0) (so (loopN (WT fu p1 px) (px.aB6.length-0) 0 0) fun v3=>some (aX (v3+1)))
theorem RP(fu:Nat)(p1:pY)(p7:xD p1):xD (DQ fu p1):=by
 intro px r H
 refine qJ func199 H (fun C hC H=>?_)
 refine gQ 2 ?_;refine q1 (eX ([pS px.aB9,bH px.aB6])) ?_;refine gQ 9 ?_;refine bC H (fun h1 H=>gE 4) fun h1 H=>?_;refine gQ 10 ?_;refine cQ.fact (cI 0 1 rfl rfl rfl (aB.trs_len _)) (fun hl4=>?_)
 refine bU (σ:=Int) (fun i2 v3=>⟨[(1,.ptr 0 0),(2,pI 0),(3,pI v3),(4,pN i2)],⟨[some ⟨189,[pS px.aB9,bH px.aB6]⟩],[]⟩⟩) (fun v3=>⟨[(2,pI 0),(3,pI v3)],⟨[some ⟨189,[pS px.aB9,bH px.aB6]⟩],[]⟩⟩) (eK H) ?_ ?_
 ·rintro i2 v3 H
  refine gQ 9 ?_;refine cS H (fun h5 h5l H=>?_) (fun h5 H=>?_)
  ·refine gQ 9 ?_;refine q1 (iI (aB.cs (aT px.aB6 i2))) (bK H fun x7 z6 H=>(q1 (bE func199 (p7 (aT px.aB6 i2) _ z6)) (bK H fun x9 z8 H=>(q1 (bE func215 (aaX fu v3 x7 _ z8)) ?_))))
   exact gE 7
  exact gE 0
 rintro v3 H
 exact gE 6
def jA:Nat→aB→Option Int
 |0,_=>none
 |fu+1,px=>DQ fu (jA fu) px
theorem T3(fu:Nat):xD (jA fu):=by
 induction fu with
 |zero=>exact(fun px r H=>by simp only [jA] at H;cases H)
 |succ fu ih=>exact(fun px r H=>by simp only [jA] at H;exact RP fu (jA fu) ih px r H)
theorem WV(fu:Nat):xD (jA fu):=(T3 fu)
def iJ(fu:Nat)(px:aB):Option Bool:=bd (qB fu px 900) fun x2=>sw (decide (x2≥0)) (bd (qA fu px) fun x5=>sw x5 (bd (jA fu px) fun x8=>some (decide (x8≤14))) (some false)) (some false)
theorem c9(fu:Nat)(px:aB)(r:Bool)(H:iJ fu px=some r):bR Tryz.prog 173 [(aB.pv px)] (pB r):=by
 refine qJ func173 H (fun C hC H=>?_)
 refine gQ 2 ?_;refine q1 (eX ([pS px.aB9,bH px.aB6])) ?_;refine gQ 4 ?_;refine q1 (bW [pS px.aB9,bH px.aB6]) (bK H fun x2 z1 H=>(q1 (bE func197 (ajV fu px 900 _ z1)) ?_))
 refine gQ 2 ?_;refine dH 6 H (fun g3 H=>?_) fun g3 H=>?_
 ·refine qg g3 (bW [pS px.aB9,bH px.aB6]) (bK H fun x5 z4 H=>(qg g3 (bE func198 (ajS fu px _ z4)) ?_))
  refine gQ 2 ?_;refine dH 10 H (fun g6 H=>?_) fun g6 H=>?_
  ·refine qg g6 (bW [pS px.aB9,bH px.aB6]) (bK H fun x8 z7 H=>(qg g6 (bE func199 (WV fu px _ z7)) ?_))
   exact gE 4
  exact gE 6
 exact gE 10
def xC(fu:Nat)(ps:ByteArray):Option (aB×Bool):=bd (sO fu (dG.mk ps 0 0 0 false)) fun(x2,x3)=>bd (AV fu x3) fun x5=>sw (x5.aCD) (some ((aB.mk s_ []),false)) (sw (!decide (x5.aCB=(ps.size:Int))) (some ((aB.mk s_ []),false)) (bd (iJ fu x2) fun x9=>sw (!(x9)) (some ((aB.mk s_ []),false)) (some (x2,true))))
theorem WR(fu:Nat)(ps:ByteArray)(r:aB×Bool)(H:xC fu ps=some r):bR Tryz.prog 145 [pS ps] (.tup [(aB.pv r.1),pB r.2]):=by
 refine qJ func145 H (fun C hC H=>?_)
 refine gQ 9 ?_;refine q1 (eX ([pS ps,pI 0,pI 0,pI 0,pB false])) ?_;refine gQ 5 ?_;refine dP H fun x2 x3 z1 H=>(q1 (eU [1] [] func171 (ajX fu (dG.mk ps 0 0 0 false) _ z1)) ?_)
 refine gQ 6 ?_;refine bK H fun x5 z4 H=>(q1 (eU [1] [] func172 (M6 fu x3 _ z4)) ?_)
 refine gQ 9 ?_;refine dH 17 H (fun g6 H=>gE 21) fun g6 H=>?_;refine qg g6 bF (qg g6 uL ?_)
 refine gQ 3 ?_;refine qg g6 (bB.lenS rfl rfl rfl Tryz.underlying9) ?_;refine gQ 3 ?_;refine dH 26 H (fun g7 H=>gE 12) fun g7 H=>?_;refine qg g7 (bW [pS x2.aB9,bH x2.aB6]) (bK H fun x9 z8 H=>(qg g7 (bE func173 (c9 fu x2 _ z8)) ?_))
 refine gQ 3 ?_;refine bC H (fun h10 H=>gE 6) fun h10 H=>?_;refine gQ 3 ?_;refine q1 (bW [pS x2.aB9,bH x2.aB6]) ?_;exact gE 3
def ag3(fu:Nat)(p0:List aB):Nat→((LB))→Option (LR ((LB)) ((LB)×Bool)):=fun i1 v3=>sw (decide ((aT p0 i1).aB9=s_)) (some (.ret (([]),false))) (gd ((v3).length+(([((aT p0 i1).aB9)]:LB)).length≤68719476736) (some (.next (v3++([((aT p0 i1).aB9)]:LB)))))
def B5(fu:Nat)(p0:List aB):Option ((LB)×Bool):=so (loopN (ag3 fu p0) (p0.length-0) 0 ([])) fun v3=>some (v3,true)
theorem I3(fu:Nat)(p0:List aB)(r:(LB)×Bool)(H:B5 fu p0=some r):bR Tryz.prog 174 [bH p0] (.tup [rS r.1,pB r.2]):=by
 refine qJ func174 H (fun C hC H=>?_)
 refine gQ 7 ?_;refine q1 (qE ([]:LB)) ?_;refine gQ 7 ?_;refine gL 0 (aB.trs_len _) (fun hl4=>?_)
 refine bU (σ:=(LB)) (fun i1 v3=>⟨[(0,bH p0),(2,.nil),(3,pB false),(4,aS v3 0),(5,pN i1)],⟨[],[⟨9,1,aY (v3),false⟩]⟩⟩) (fun v3=>⟨[(2,.nil),(3,pB false),(4,aS v3 0)],⟨[],[⟨9,1,aY (v3),false⟩]⟩⟩) (eK H) ?_ ?_
 ·rintro i1 v3 H
  refine gQ 8 ?_;refine cS H (fun h5 h5l H=>?_) (fun h5 H=>?_)
  ·refine gQ 13 ?_;refine bC H (fun h6 H=>?_) (fun h6 H=>?_)
   ·refine gQ 2 ?_;refine q1 (qE ([]:LB)) ?_;exact gE 3
   refine gQ 8 ?_;refine q1 (iF ([((aT p0 i1).aB9)]:LB)) (cC H fun z7 H=>(q1 (lG z7) ?_))
   exact gE 7
  exact gE 0
 rintro v3 H
 exact gE 6
def cB(fu:Nat)(ps:ByteArray):Option aB:=some (aB.mk ps [])
theorem b5(fu:Nat)(ps:ByteArray)(r:aB)(H:cB fu ps=some r):bR Tryz.prog 239 [pS ps] ((aB.pv r)):=by
 refine qJ func239 H (fun C hC H=>?_)
 exact gE 10
def ag7(fu:Nat)(p0:LB):Nat→((List aB))→Option (LR ((List aB)) ((List aB))):=fun i1 v3=>bd (cB fu (aT p0 i1)) fun x7=>gd ((v3).length+(([x7]:List aB)).length≤68719476736) (some (.next (v3++([x7]:List aB))))
def GP(fu:Nat)(p0:LB):Option ((List aB)):=so (loopN (ag7 fu p0) (p0.length-0) 0 ([])) fun v3=>some v3
theorem S6(fu:Nat)(p0:LB)(r:(List aB))(H:GP fu p0=some r):bR Tryz.prog 254 [rS p0] (bH r):=by
 refine qJ func254 H (fun C hC H=>?_)
 refine gQ 6 ?_;refine q1 (qE ([]:List aB)) ?_;refine gQ 7 ?_;refine gL 0 (bV _) (fun hl4=>?_)
 refine bU (σ:=(List aB)) (fun i1 v3=>⟨[(0,rS p0),(2,.nil),(3,eF v3 0),(4,pN i1)],⟨[],[⟨189,2,aB.trs (v3),false⟩]⟩⟩) (fun v3=>⟨[(2,.nil),(3,eF v3 0)],⟨[],[⟨189,2,aB.trs (v3),false⟩]⟩⟩) (eK H) ?_ ?_
 ·rintro i1 v3 H
  refine gQ 8 ?_;refine cS H (fun h5 h5l H=>?_) (fun h5 H=>?_)
  ·refine gQ 9 ?_;refine bK H fun x7 z6 H=>(q1 (bE func239 (b5 fu (aT p0 i1) _ z6)) (q1 (iF ([x7]:List aB)) (cC H fun z8 H=>(q1 (lG z8) ?_))))
   exact gE 7
  exact gE 0
 rintro v3 H
 exact gE 5
def aa0(m:(List aB)→Option aB):Prop:= ∀(p0:List aB) (r:aB),m p0=some r→AY Tryz.prog 238 [bH p0] ⟨[],[]⟩ [] 189 2 (aB.trs (r.aB6)) (fun k=> .agg [pS r.aB9,eF r.aB6 k])
theorem GO{m:(List aB)→Option aB}(h:aa0 m)(p0:List aB)(r:aB)(H:m p0=some r):bR Tryz.prog 238 [bH p0] ((aB.pv r):PV):=(h p0 r H).plain (fun _=>jN) (hp:=VX)
def mI(fu:Nat)(p0:List aB):Option aB:=gd (([]:List aB).length+(p0).length≤68719476736) (some (aB.mk s_ (([])++p0)))
theorem nE(fu:Nat):aa0 (mI fu):=by
 intro p0 r H
 unfold AY
 refine qJ func238 H (fun C hC H=>?_)
 refine gQ 6 ?_;refine q1 (qE ([]:List aB)) (q1 bF (cC H fun z1 H=>(q1 (lG z1) ?_)))
 refine gQ 3 ?_;refine cQ.ret ?_
 obtain rfl:_=r:=(vI H:)
 exact V6 (st':=⟨[],[⟨189,2,aB.trs (([])++p0),false⟩]⟩) ⟨0,rfl,rfl,rfl⟩ (hr:=⟨⟨_,_,_,rfl,rfl,as8.h,rfl,rfl⟩,trivial⟩)
abbrev pX:=aB→aB→Option Bool
def w9(m:pX):Prop:= ∀(pa:aB) (pb:aB) (r:Bool),m pa pb=some r→bR Tryz.prog 221 [(aB.pv pa),(aB.pv pb)] (pB r:PV)
def WG(fu:Nat)(p2:pX)(pa pb:aB):Nat→Unit→Option (LR Unit Bool):=fun i3 _=>gd (i3<(pb.aB6).length) (bd (p2 (aT pa.aB6 i3) (aT pb.aB6 i3)) fun x8=>sw (!(x8)) (some (.ret false)) (some (.next ())))
def DO(fu:Nat)(p2:pX)(pa pb:aB):Option Bool:=sw (!decide (pa.aB9=pb.aB9)) (some false) (sw (!decide ((pa.aB6.length:Int)=(pb.aB6.length:Int))) (some false) (so (loopN (WG fu p2 pa pb) (pa.aB6.length-0) 0 ()) fun _=>some true))
theorem RE(fu:Nat)(p2:pX)(p8:w9 p2):w9 (DO fu p2):=by
 intro pa pb r H
 refine qJ func221 H (fun C hC H=>?_)
 refine gQ 2 ?_;refine q1 (eX ([pS pa.aB9,bH pa.aB6])) (q1 (eX ([pS pb.aB9,bH pb.aB6])) ?_)
 refine gQ 11 ?_;refine dH 11 H (fun g1 H=>gE 14) fun g1 H=>?_;refine gQ 9 ?_;refine bC H (fun h2 H=>gE 4) fun h2 H=>?_;refine gQ 6 ?_;refine gL 13 (aB.trs_len _) (fun hl4=>?_)
 refine bU (σ:=Unit) (fun i3 _=>⟨[(2,.ptr 0 0),(3,.ptr 1 0),(4,pB false),(5,pN i3)],⟨[some ⟨189,[pS pa.aB9,bH pa.aB6]⟩,some ⟨189,[pS pb.aB9,bH pb.aB6]⟩],[]⟩⟩) (fun _=>⟨[(4,pB false)],⟨[some ⟨189,[pS pa.aB9,bH pa.aB6]⟩,some ⟨189,[pS pb.aB9,bH pb.aB6]⟩],[]⟩⟩) (eK H) ?_ ?_
 ·rintro i3 ⟨⟩ H
  refine gQ 9 ?_;refine cS H (fun h5 h5l H=>?_) (fun h5 H=>?_)
  ·refine gQ 4 ?_;refine cC H fun z6 H=>(bK H fun x8 z7 H=>(dW (dI [2] bZ (dD [27] eE (dI [5] bF (dI [28,29] qF (dI [30] (iI (aB.cs (aT pa.aB6 i3))) (dI [3] bZ (dD [32] eE (dI [5] bF (dI [33,34] qF (dI [35] (iI (aB.cs (aT pb.aB6 i3))) (dI [31,36] (bE func221 (p8 (aT pa.aB6 i3) (aT pb.aB6 i3) _ z7)) ?_)))))))))))))
   refine dI [37] JS (dN ?_)
   refine bC H (fun h9 H=>gE 4) fun h9 H=>?_;exact gE 6
  exact gE 0
 rintro⟨⟩ H
 exact gE 4
def fN:Nat→aB→aB→Option Bool
 |0,_,_=>none
 |fu+1,pa,pb=>DO fu (fN fu) pa pb
theorem TT(fu:Nat):w9 (fN fu):=by
 induction fu with
 |zero=>exact(fun pa pb r H=>by simp only [fN] at H;cases H)
 |succ fu ih=>exact(fun pa pb r H=>by simp only [fN] at H;exact RE fu (fN fu) ih pa pb r H)
theorem u9(fu:Nat):w9 (fN fu):=(TT fu)
end
end Go.Proofs.YtfcoaagbccmahaaGreat.W
