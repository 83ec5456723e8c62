/- Words, rules and walks of several kinds, laid together. No conditions but those that each theorem states. -/
import Derived.Test.YtfcoaagbccmahaaGreatQhb9f3bfe2
import Derived.Test.YtfcoaagbccmahaaGreatProg
import Derived.Laws.MakeOwn
import Derived.Laws.BytesArg
set_option linter.unusedSimpArgs false
set_option linter.unusedVariables false
namespace Go.Proofs.YtfcoaagbccmahaaGreat
open Go.RowKit Go.Proofs
instance sh3:SH Tryz.prog 3 (false,1):=⟨by kernel_rfl⟩
instance sz3:SZ Tryz.prog 3 1:=⟨by kernel_rfl⟩
instance zr3:ZR Tryz.prog 3 [.t (.leaf (.int .i64 0))]:=⟨by kernel_rfl⟩
instance sh4:SH Tryz.prog 4 (false,1):=⟨by kernel_rfl⟩
instance sz4:SZ Tryz.prog 4 1:=⟨by kernel_rfl⟩
instance zr4:ZR Tryz.prog 4 [.t (.leaf (.bool false))]:=⟨by kernel_rfl⟩
instance sh5:SH Tryz.prog 5 (false,1):=⟨by kernel_rfl⟩
instance sz5:SZ Tryz.prog 5 1:=⟨by kernel_rfl⟩
instance zr5:ZR Tryz.prog 5 [.t (.leaf (.int .u8 0))]:=⟨by kernel_rfl⟩
instance sh9:SH Tryz.prog 9 (false,1):=⟨by kernel_rfl⟩
instance sz9:SZ Tryz.prog 9 1:=⟨by kernel_rfl⟩
instance zr9:ZR Tryz.prog 9 [.t (.leaf (.string ⟨#[]⟩))]:=⟨by kernel_rfl⟩
instance apT:SH Tryz.prog 22 (false,1):=⟨by kernel_rfl⟩
instance aqI:SZ Tryz.prog 22 1:=⟨by kernel_rfl⟩
instance ahB:EL Tryz.prog 22 (5,1,1):=⟨by kernel_rfl⟩
instance arC:ZE Tryz.prog 5 1:=⟨by kernel_rfl⟩
instance arJ:ZR Tryz.prog 22 [.nil]:=⟨by kernel_rfl⟩
instance apU:SH Tryz.prog 24 (false,1):=⟨by kernel_rfl⟩
instance aqJ:SZ Tryz.prog 24 1:=⟨by kernel_rfl⟩
instance aoG:EL Tryz.prog 24 (141,6,136):=⟨by kernel_rfl⟩
instance arD:ZE Tryz.prog 141 6:=⟨by kernel_rfl⟩
instance arK:ZR Tryz.prog 24 [.nil]:=⟨by kernel_rfl⟩
instance VY:SH Tryz.prog 26 (true,1):=⟨by kernel_rfl⟩
instance aqK:SZ Tryz.prog 26 1:=⟨by kernel_rfl⟩
instance arL:ZR Tryz.prog 26 [.nil]:=⟨by kernel_rfl⟩
instance aoU:MB Tryz.prog 26 [(0,1)]:=⟨by kernel_rfl⟩
instance apV:SH Tryz.prog 27 (false,1):=⟨by kernel_rfl⟩
instance aqL:SZ Tryz.prog 27 1:=⟨by kernel_rfl⟩
instance af3:EL Tryz.prog 27 (32,4,64):=⟨by kernel_rfl⟩
instance akU:ZE Tryz.prog 32 4:=⟨by kernel_rfl⟩
instance arM:ZR Tryz.prog 27 [.nil]:=⟨by kernel_rfl⟩
instance apW:SH Tryz.prog 28 (false,1):=⟨by kernel_rfl⟩
instance aqM:SZ Tryz.prog 28 1:=⟨by kernel_rfl⟩
instance adD:EL Tryz.prog 28 (30,3,48):=⟨by kernel_rfl⟩
instance ahY:ZE Tryz.prog 30 3:=⟨by kernel_rfl⟩
instance arN:ZR Tryz.prog 28 [.nil]:=⟨by kernel_rfl⟩
instance EH:SH Tryz.prog 30 (true,3):=⟨by kernel_rfl⟩
instance ahS:SZ Tryz.prog 30 3:=⟨by kernel_rfl⟩
instance arO:ZR Tryz.prog 30 [.t (.leaf (.int .i64 0)),.t (.leaf (.string ⟨#[]⟩)),.nil]:=⟨by kernel_rfl⟩
instance aoV:MB Tryz.prog 30 [(0,1),(1,1),(2,1)]:=⟨by kernel_rfl⟩
instance ae9:SH Tryz.prog 32 (true,4):=⟨by kernel_rfl⟩
instance aqN:SZ Tryz.prog 32 4:=⟨by kernel_rfl⟩
instance akV:ZR Tryz.prog 32 [.t (.leaf (.string ⟨#[]⟩)),.t (.leaf (.int .i64 0)),.t (.leaf (.string ⟨#[]⟩)),.nil]:=⟨by kernel_rfl⟩
instance aoW:MB Tryz.prog 32 [(0,1),(1,3)]:=⟨by kernel_rfl⟩
instance apX:SH Tryz.prog 36 (false,1):=⟨by kernel_rfl⟩
instance aqO:SZ Tryz.prog 36 1:=⟨by kernel_rfl⟩
instance X6:EL Tryz.prog 36 (9,1,16):=⟨by kernel_rfl⟩
instance afH:ZE Tryz.prog 9 1:=⟨by kernel_rfl⟩
instance arP:ZR Tryz.prog 36 [.nil]:=⟨by kernel_rfl⟩
instance apY:SH Tryz.prog 37 (false,1):=⟨by kernel_rfl⟩
instance aqP:SZ Tryz.prog 37 1:=⟨by kernel_rfl⟩
instance aeV:EL Tryz.prog 37 (46,2,40):=⟨by kernel_rfl⟩
instance arE:ZE Tryz.prog 46 2:=⟨by kernel_rfl⟩
instance arQ:ZR Tryz.prog 37 [.nil]:=⟨by kernel_rfl⟩
instance apZ:SH Tryz.prog 39 (true,3):=⟨by kernel_rfl⟩
instance aqQ:SZ Tryz.prog 39 3:=⟨by kernel_rfl⟩
instance arR:ZR Tryz.prog 39 [.t (.leaf (.string ⟨#[]⟩)),.nil,.nil]:=⟨by kernel_rfl⟩
instance aoX:MB Tryz.prog 39 [(0,1),(1,1),(2,1)]:=⟨by kernel_rfl⟩
instance ap0:SH Tryz.prog 42 (false,1):=⟨by kernel_rfl⟩
instance aqR:SZ Tryz.prog 42 1:=⟨by kernel_rfl⟩
instance aoH:EL Tryz.prog 42 (44,4,64):=⟨by kernel_rfl⟩
instance arF:ZE Tryz.prog 44 4:=⟨by kernel_rfl⟩
instance arS:ZR Tryz.prog 42 [.nil]:=⟨by kernel_rfl⟩
instance ap1:SH Tryz.prog 44 (true,4):=⟨by kernel_rfl⟩
instance aqS:SZ Tryz.prog 44 4:=⟨by kernel_rfl⟩
instance arT:ZR Tryz.prog 44 [.t (.leaf (.string ⟨#[]⟩)),.t (.leaf (.int .i64 0)),.t (.leaf (.string ⟨#[]⟩)),.nil]:=⟨by kernel_rfl⟩
instance aoY:MB Tryz.prog 44 [(0,1),(1,3)]:=⟨by kernel_rfl⟩
instance ap2:SH Tryz.prog 46 (true,2):=⟨by kernel_rfl⟩
instance aqT:SZ Tryz.prog 46 2:=⟨by kernel_rfl⟩
instance akW:ZR Tryz.prog 46 [.t (.leaf (.string ⟨#[]⟩)),.nil]:=⟨by kernel_rfl⟩
instance aoZ:MB Tryz.prog 46 [(0,1),(1,1)]:=⟨by kernel_rfl⟩
instance ap3:SH Tryz.prog 48 (false,1):=⟨by kernel_rfl⟩
instance aqU:SZ Tryz.prog 48 1:=⟨by kernel_rfl⟩
instance aoI:EL Tryz.prog 48 (99,6,96):=⟨by kernel_rfl⟩
instance arG:ZE Tryz.prog 99 6:=⟨by kernel_rfl⟩
instance arU:ZR Tryz.prog 48 [.nil]:=⟨by kernel_rfl⟩
instance ap4:SH Tryz.prog 52 (true,2):=⟨by kernel_rfl⟩
instance aqV:SZ Tryz.prog 52 2:=⟨by kernel_rfl⟩
instance arV:ZR Tryz.prog 52 [.t (.leaf (.int .i64 0)),.t (.leaf (.int .i64 0))]:=⟨by kernel_rfl⟩
instance ao0:MB Tryz.prog 52 [(0,1),(1,1)]:=⟨by kernel_rfl⟩
instance ap5:SH Tryz.prog 53 (false,1):=⟨by kernel_rfl⟩
instance aqW:SZ Tryz.prog 53 1:=⟨by kernel_rfl⟩
instance aoJ:EL Tryz.prog 53 (55,5,56):=⟨by kernel_rfl⟩
instance arH:ZE Tryz.prog 55 5:=⟨by kernel_rfl⟩
instance arW:ZR Tryz.prog 53 [.nil]:=⟨by kernel_rfl⟩
instance ap6:SH Tryz.prog 55 (true,5):=⟨by kernel_rfl⟩
instance aqX:SZ Tryz.prog 55 5:=⟨by kernel_rfl⟩
instance arX:ZR Tryz.prog 55 [.t (.leaf (.int .i64 0)),.t (.leaf (.int .i64 0)),.t (.leaf (.int .i64 0)),.t (.leaf (.int .i64 0)),.nil]:=⟨by kernel_rfl⟩
instance ao1:MB Tryz.prog 55 [(0,1),(1,1),(2,2),(4,1)]:=⟨by kernel_rfl⟩
instance ap7:SH Tryz.prog 58 (false,1):=⟨by kernel_rfl⟩
instance aqY:SZ Tryz.prog 58 1:=⟨by kernel_rfl⟩
instance ap8:SH Tryz.prog 60 (false,1):=⟨by kernel_rfl⟩
instance aqZ:SZ Tryz.prog 60 1:=⟨by kernel_rfl⟩
instance ap9:SH Tryz.prog 64 (false,1):=⟨by kernel_rfl⟩
instance aq0:SZ Tryz.prog 64 1:=⟨by kernel_rfl⟩
instance aoK:EL Tryz.prog 64 (3,1,8):=⟨by kernel_rfl⟩
instance arI:ZE Tryz.prog 3 1:=⟨by kernel_rfl⟩
instance arY:ZR Tryz.prog 64 [.nil]:=⟨by kernel_rfl⟩
instance aqA:SH Tryz.prog 68 (true,3):=⟨by kernel_rfl⟩
instance aq1:SZ Tryz.prog 68 3:=⟨by kernel_rfl⟩
instance arZ:ZR Tryz.prog 68 [.nil,.nil,.nil]:=⟨by kernel_rfl⟩
instance ao2:MB Tryz.prog 68 [(0,1),(1,1),(2,1)]:=⟨by kernel_rfl⟩
instance aqB:SH Tryz.prog 75 (false,1):=⟨by kernel_rfl⟩
instance aq2:SZ Tryz.prog 75 1:=⟨by kernel_rfl⟩
instance aqC:SH Tryz.prog 80 (false,1):=⟨by kernel_rfl⟩
instance aq3:SZ Tryz.prog 80 1:=⟨by kernel_rfl⟩
instance aqD:SH Tryz.prog 84 (false,1):=⟨by kernel_rfl⟩
instance aq4:SZ Tryz.prog 84 1:=⟨by kernel_rfl⟩
instance aqF:SH Tryz.prog 92 (false,1):=⟨by kernel_rfl⟩
instance aq5:SZ Tryz.prog 92 1:=⟨by kernel_rfl⟩
instance aqG:SH Tryz.prog 99 (true,6):=⟨by kernel_rfl⟩
instance aq6:SZ Tryz.prog 99 6:=⟨by kernel_rfl⟩
instance ar0:ZR Tryz.prog 99 [.t (.leaf (.string ⟨#[]⟩)),.t (.leaf (.int .i64 0)),.t (.leaf (.string ⟨#[]⟩)),.nil,.t (.leaf (.int .i64 0)),.nil]:=⟨by kernel_rfl⟩
instance ao3:MB Tryz.prog 99 [(0,4),(4,1),(5,1)]:=⟨by kernel_rfl⟩
instance alU:SH Tryz.prog 124 (false,1):=⟨by kernel_rfl⟩
instance amR:SZ Tryz.prog 124 1:=⟨by kernel_rfl⟩
instance alV:SH Tryz.prog 131 (false,1):=⟨by kernel_rfl⟩
instance amS:SZ Tryz.prog 131 1:=⟨by kernel_rfl⟩
instance alW:SH Tryz.prog 133 (true,3):=⟨by kernel_rfl⟩
instance amT:SZ Tryz.prog 133 3:=⟨by kernel_rfl⟩
instance anU:ZR Tryz.prog 133 [.nil,.t (.leaf (.int .i64 0)),.t (.leaf (.int .i64 0))]:=⟨by kernel_rfl⟩
instance alD:MB Tryz.prog 133 [(0,1),(1,1),(2,1)]:=⟨by kernel_rfl⟩
instance alY:SH Tryz.prog 136 (false,1):=⟨by kernel_rfl⟩
instance amU:SZ Tryz.prog 136 1:=⟨by kernel_rfl⟩
instance afN:EL Tryz.prog 136 (156,5,72):=⟨by kernel_rfl⟩
instance anL:ZE Tryz.prog 156 5:=⟨by kernel_rfl⟩
instance anV:ZR Tryz.prog 136 [.nil]:=⟨by kernel_rfl⟩
instance alZ:SH Tryz.prog 137 (false,1):=⟨by kernel_rfl⟩
instance amV:SZ Tryz.prog 137 1:=⟨by kernel_rfl⟩
instance afO:EL Tryz.prog 137 (39,3,64):=⟨by kernel_rfl⟩
instance anM:ZE Tryz.prog 39 3:=⟨by kernel_rfl⟩
instance anW:ZR Tryz.prog 137 [.nil]:=⟨by kernel_rfl⟩
instance al0:SH Tryz.prog 138 (false,1):=⟨by kernel_rfl⟩
instance amW:SZ Tryz.prog 138 1:=⟨by kernel_rfl⟩
instance ak2:EL Tryz.prog 138 (163,12,192):=⟨by kernel_rfl⟩
instance anN:ZE Tryz.prog 163 12:=⟨by kernel_rfl⟩
instance anX:ZR Tryz.prog 138 [.nil]:=⟨by kernel_rfl⟩
instance al1:SH Tryz.prog 139 (false,1):=⟨by kernel_rfl⟩
instance amX:SZ Tryz.prog 139 1:=⟨by kernel_rfl⟩
instance ak3:EL Tryz.prog 139 (213,16,280):=⟨by kernel_rfl⟩
instance anO:ZE Tryz.prog 213 16:=⟨by kernel_rfl⟩
instance anY:ZR Tryz.prog 139 [.nil]:=⟨by kernel_rfl⟩
instance al2:SH Tryz.prog 141 (true,6):=⟨by kernel_rfl⟩
instance amY:SZ Tryz.prog 141 6:=⟨by kernel_rfl⟩
instance anZ:ZR Tryz.prog 141 [.t (.leaf (.string ⟨#[]⟩)),.nil,.nil,.nil,.nil,.nil]:=⟨by kernel_rfl⟩
instance alE:MB Tryz.prog 141 [(0,1),(1,1),(2,1),(3,1),(4,1),(5,1)]:=⟨by kernel_rfl⟩
instance al3:SH Tryz.prog 145 (true,2):=⟨by kernel_rfl⟩
instance amZ:SZ Tryz.prog 145 2:=⟨by kernel_rfl⟩
instance an0:ZR Tryz.prog 145 [.nil,.nil]:=⟨by kernel_rfl⟩
instance alF:MB Tryz.prog 145 [(0,1),(1,1)]:=⟨by kernel_rfl⟩
instance al4:SH Tryz.prog 154 (false,1):=⟨by kernel_rfl⟩
instance am0:SZ Tryz.prog 154 1:=⟨by kernel_rfl⟩
instance M2:EL Tryz.prog 154 (237,16,264):=⟨by kernel_rfl⟩
instance ahW:ZE Tryz.prog 237 16:=⟨by kernel_rfl⟩
instance an1:ZR Tryz.prog 154 [.nil]:=⟨by kernel_rfl⟩
instance al5:SH Tryz.prog 156 (true,5):=⟨by kernel_rfl⟩
instance am1:SZ Tryz.prog 156 5:=⟨by kernel_rfl⟩
instance an2:ZR Tryz.prog 156 [.t (.leaf (.string ⟨#[]⟩)),.nil,.t (.leaf (.bool false)),.t (.leaf (.bool false)),.nil]:=⟨by kernel_rfl⟩
instance alG:MB Tryz.prog 156 [(0,1),(1,1),(2,1),(3,1),(4,1)]:=⟨by kernel_rfl⟩
instance al6:SH Tryz.prog 161 (false,1):=⟨by kernel_rfl⟩
instance am2:SZ Tryz.prog 161 1:=⟨by kernel_rfl⟩
instance adC:EL Tryz.prog 161 (242,11,184):=⟨by kernel_rfl⟩
instance anP:ZE Tryz.prog 242 11:=⟨by kernel_rfl⟩
instance an3:ZR Tryz.prog 161 [.nil]:=⟨by kernel_rfl⟩
instance al7:SH Tryz.prog 163 (true,12):=⟨by kernel_rfl⟩
instance am3:SZ Tryz.prog 163 12:=⟨by kernel_rfl⟩
instance an4:ZR Tryz.prog 163 [.t (.leaf (.string ⟨#[]⟩)),.nil,.t (.leaf (.int .i64 0)),.t (.leaf (.string ⟨#[]⟩)),.nil,.nil,.t (.leaf (.bool false)),.t (.leaf (.bool false)),.t (.leaf (.int .i64 0)),.t (.leaf (.string ⟨#[]⟩)),.nil,.nil]:=⟨by kernel_rfl⟩
instance alH:MB Tryz.prog 163 [(0,1),(1,1),(2,3),(5,1),(6,1),(7,1),(8,3),(11,1)]:=⟨by kernel_rfl⟩
instance al8:SH Tryz.prog 187 (false,1):=⟨by kernel_rfl⟩
instance am4:SZ Tryz.prog 187 1:=⟨by kernel_rfl⟩
instance wM:EL Tryz.prog 187 (189,2,40):=⟨by kernel_rfl⟩
instance anQ:ZE Tryz.prog 189 2:=⟨by kernel_rfl⟩
instance an5:ZR Tryz.prog 187 [.nil]:=⟨by kernel_rfl⟩
instance ahR:SH Tryz.prog 189 (true,2):=⟨by kernel_rfl⟩
instance am5:SZ Tryz.prog 189 2:=⟨by kernel_rfl⟩
instance RT:ZR Tryz.prog 189 [.t (.leaf (.string ⟨#[]⟩)),.nil]:=⟨by kernel_rfl⟩
instance alI:MB Tryz.prog 189 [(0,1),(1,1)]:=⟨by kernel_rfl⟩
instance al9:SH Tryz.prog 194 (false,1):=⟨by kernel_rfl⟩
instance am6:SZ Tryz.prog 194 1:=⟨by kernel_rfl⟩
instance amA:SH Tryz.prog 198 (false,1):=⟨by kernel_rfl⟩
instance am7:SZ Tryz.prog 198 1:=⟨by kernel_rfl⟩
instance ak4:EL Tryz.prog 198 (52,2,16):=⟨by kernel_rfl⟩
instance anR:ZE Tryz.prog 52 2:=⟨by kernel_rfl⟩
instance an6:ZR Tryz.prog 198 [.nil]:=⟨by kernel_rfl⟩
instance amB:SH Tryz.prog 201 (false,1):=⟨by kernel_rfl⟩
instance am8:SZ Tryz.prog 201 1:=⟨by kernel_rfl⟩
instance amC:SH Tryz.prog 207 (false,1):=⟨by kernel_rfl⟩
instance am9:SZ Tryz.prog 207 1:=⟨by kernel_rfl⟩
instance ahA:EL Tryz.prog 207 (245,4,64):=⟨by kernel_rfl⟩
instance ahX:ZE Tryz.prog 245 4:=⟨by kernel_rfl⟩
instance an7:ZR Tryz.prog 207 [.nil]:=⟨by kernel_rfl⟩
instance amD:SH Tryz.prog 208 (false,1):=⟨by kernel_rfl⟩
instance anA:SZ Tryz.prog 208 1:=⟨by kernel_rfl⟩
instance ak5:EL Tryz.prog 208 (211,9,144):=⟨by kernel_rfl⟩
instance anS:ZE Tryz.prog 211 9:=⟨by kernel_rfl⟩
instance an8:ZR Tryz.prog 208 [.nil]:=⟨by kernel_rfl⟩
instance amE:SH Tryz.prog 209 (false,1):=⟨by kernel_rfl⟩
instance anB:SZ Tryz.prog 209 1:=⟨by kernel_rfl⟩
instance ak6:EL Tryz.prog 209 (262,11,184):=⟨by kernel_rfl⟩
instance anT:ZE Tryz.prog 262 11:=⟨by kernel_rfl⟩
instance an9:ZR Tryz.prog 209 [.nil]:=⟨by kernel_rfl⟩
instance amF:SH Tryz.prog 211 (true,9):=⟨by kernel_rfl⟩
instance anC:SZ Tryz.prog 211 9:=⟨by kernel_rfl⟩
instance aoA:ZR Tryz.prog 211 [.t (.leaf (.int .i64 0)),.t (.leaf (.string ⟨#[]⟩)),.t (.leaf (.string ⟨#[]⟩)),.t (.leaf (.int .i64 0)),.t (.leaf (.int .i64 0)),.t (.leaf (.string ⟨#[]⟩)),.nil,.nil,.nil]:=⟨by kernel_rfl⟩
instance alJ:MB Tryz.prog 211 [(0,1),(1,1),(2,1),(3,1),(4,3),(7,1),(8,1)]:=⟨by kernel_rfl⟩
instance amG:SH Tryz.prog 213 (true,16):=⟨by kernel_rfl⟩
instance anD:SZ Tryz.prog 213 16:=⟨by kernel_rfl⟩
instance aoB:ZR Tryz.prog 213 [.t (.leaf (.string ⟨#[]⟩)),.nil,.nil,.nil,.t (.leaf (.int .i64 0)),.t (.leaf (.string ⟨#[]⟩)),.nil,.t (.leaf (.int .i64 0)),.t (.leaf (.string ⟨#[]⟩)),.t (.leaf (.string ⟨#[]⟩)),.t (.leaf (.int .i64 0)),.t (.leaf (.int .i64 0)),.t (.leaf (.string ⟨#[]⟩)),.nil,.nil,.nil]:=⟨by kernel_rfl⟩
instance alK:MB Tryz.prog 213 [(0,1),(1,1),(2,1),(3,1),(4,3),(7,9)]:=⟨by kernel_rfl⟩
instance amH:SH Tryz.prog 218 (false,1):=⟨by kernel_rfl⟩
instance anE:SZ Tryz.prog 218 1:=⟨by kernel_rfl⟩
instance amI:SH Tryz.prog 220 (true,5):=⟨by kernel_rfl⟩
instance anF:SZ Tryz.prog 220 5:=⟨by kernel_rfl⟩
instance aoC:ZR Tryz.prog 220 [.t (.leaf (.string ⟨#[]⟩)),.t (.leaf (.int .i64 0)),.t (.leaf (.int .i64 0)),.t (.leaf (.int .i64 0)),.t (.leaf (.bool false))]:=⟨by kernel_rfl⟩
instance alL:MB Tryz.prog 220 [(0,1),(1,1),(2,1),(3,1),(4,1)]:=⟨by kernel_rfl⟩
instance amJ:SH Tryz.prog 228 (false,1):=⟨by kernel_rfl⟩
instance anG:SZ Tryz.prog 228 1:=⟨by kernel_rfl⟩
instance amK:SH Tryz.prog 237 (true,16):=⟨by kernel_rfl⟩
instance anH:SZ Tryz.prog 237 16:=⟨by kernel_rfl⟩
instance afU:ZR Tryz.prog 237 [.t (.leaf (.string ⟨#[]⟩)),.nil,.t (.leaf (.int .i64 0)),.t (.leaf (.string ⟨#[]⟩)),.nil,.t (.leaf (.bool false)),.nil,.t (.leaf (.int .i64 0)),.t (.leaf (.string ⟨#[]⟩)),.t (.leaf (.string ⟨#[]⟩)),.t (.leaf (.int .i64 0)),.t (.leaf (.int .i64 0)),.t (.leaf (.string ⟨#[]⟩)),.nil,.nil,.nil]:=⟨by kernel_rfl⟩
instance alM:MB Tryz.prog 237 [(0,1),(1,1),(2,3),(5,1),(6,1),(7,9)]:=⟨by kernel_rfl⟩
instance amL:SH Tryz.prog 242 (true,11):=⟨by kernel_rfl⟩
instance anI:SZ Tryz.prog 242 11:=⟨by kernel_rfl⟩
instance ahZ:ZR Tryz.prog 242 [.t (.leaf (.string ⟨#[]⟩)),.nil,.t (.leaf (.int .i64 0)),.t (.leaf (.string ⟨#[]⟩)),.t (.leaf (.string ⟨#[]⟩)),.t (.leaf (.int .i64 0)),.t (.leaf (.int .i64 0)),.t (.leaf (.string ⟨#[]⟩)),.nil,.nil,.nil]:=⟨by kernel_rfl⟩
instance alN:MB Tryz.prog 242 [(0,1),(1,1),(2,9)]:=⟨by kernel_rfl⟩
instance amM:SH Tryz.prog 245 (true,4):=⟨by kernel_rfl⟩
instance anJ:SZ Tryz.prog 245 4:=⟨by kernel_rfl⟩
instance aoD:ZR Tryz.prog 245 [.t (.leaf (.string ⟨#[]⟩)),.t (.leaf (.int .i64 0)),.t (.leaf (.string ⟨#[]⟩)),.nil]:=⟨by kernel_rfl⟩
instance alO:MB Tryz.prog 245 [(0,1),(1,3)]:=⟨by kernel_rfl⟩
instance amN:SH Tryz.prog 262 (true,11):=⟨by kernel_rfl⟩
instance anK:SZ Tryz.prog 262 11:=⟨by kernel_rfl⟩
instance aoE:ZR Tryz.prog 262 [.t (.leaf (.string ⟨#[]⟩)),.nil,.t (.leaf (.int .i64 0)),.t (.leaf (.string ⟨#[]⟩)),.t (.leaf (.string ⟨#[]⟩)),.t (.leaf (.int .i64 0)),.t (.leaf (.int .i64 0)),.t (.leaf (.string ⟨#[]⟩)),.nil,.nil,.nil]:=⟨by kernel_rfl⟩
instance alP:MB Tryz.prog 262 [(0,1),(1,1),(2,9)]:=⟨by kernel_rfl⟩
instance ajX:FO Tryz.prog 26 0 0:=⟨by kernel_rfl⟩
instance ajY:FO Tryz.prog 30 0 0:=⟨by kernel_rfl⟩
instance ajZ:FO Tryz.prog 30 1 1:=⟨by kernel_rfl⟩
instance aj0:FO Tryz.prog 30 2 2:=⟨by kernel_rfl⟩
instance aj1:FO Tryz.prog 32 0 0:=⟨by kernel_rfl⟩
instance aj2:FO Tryz.prog 32 1 1:=⟨by kernel_rfl⟩
instance aj3:FO Tryz.prog 39 0 0:=⟨by kernel_rfl⟩
instance aj4:FO Tryz.prog 39 1 1:=⟨by kernel_rfl⟩
instance aj5:FO Tryz.prog 39 2 2:=⟨by kernel_rfl⟩
instance aj6:FO Tryz.prog 44 0 0:=⟨by kernel_rfl⟩
instance aj7:FO Tryz.prog 44 1 1:=⟨by kernel_rfl⟩
instance aj8:FO Tryz.prog 46 0 0:=⟨by kernel_rfl⟩
instance aj9:FO Tryz.prog 46 1 1:=⟨by kernel_rfl⟩
instance akA:FO Tryz.prog 52 0 0:=⟨by kernel_rfl⟩
instance akB:FO Tryz.prog 52 1 1:=⟨by kernel_rfl⟩
instance akC:FO Tryz.prog 55 0 0:=⟨by kernel_rfl⟩
instance akD:FO Tryz.prog 55 1 1:=⟨by kernel_rfl⟩
instance akE:FO Tryz.prog 55 2 2:=⟨by kernel_rfl⟩
instance akF:FO Tryz.prog 55 3 4:=⟨by kernel_rfl⟩
instance akG:FO Tryz.prog 68 0 0:=⟨by kernel_rfl⟩
instance akH:FO Tryz.prog 68 1 1:=⟨by kernel_rfl⟩
instance akI:FO Tryz.prog 68 2 2:=⟨by kernel_rfl⟩
instance akJ:FO Tryz.prog 99 0 0:=⟨by kernel_rfl⟩
instance akK:FO Tryz.prog 99 1 4:=⟨by kernel_rfl⟩
instance akL:FO Tryz.prog 99 2 5:=⟨by kernel_rfl⟩
instance ah1:FO Tryz.prog 133 0 0:=⟨by kernel_rfl⟩
instance ah2:FO Tryz.prog 133 1 1:=⟨by kernel_rfl⟩
instance ah3:FO Tryz.prog 133 2 2:=⟨by kernel_rfl⟩
instance ah4:FO Tryz.prog 141 0 0:=⟨by kernel_rfl⟩
instance ah5:FO Tryz.prog 141 1 1:=⟨by kernel_rfl⟩
instance ah6:FO Tryz.prog 141 2 2:=⟨by kernel_rfl⟩
instance ah7:FO Tryz.prog 141 3 3:=⟨by kernel_rfl⟩
instance ah8:FO Tryz.prog 141 4 4:=⟨by kernel_rfl⟩
instance ah9:FO Tryz.prog 141 5 5:=⟨by kernel_rfl⟩
instance aiA:FO Tryz.prog 145 0 0:=⟨by kernel_rfl⟩
instance aiB:FO Tryz.prog 145 1 1:=⟨by kernel_rfl⟩
instance aiC:FO Tryz.prog 156 0 0:=⟨by kernel_rfl⟩
instance aiD:FO Tryz.prog 156 1 1:=⟨by kernel_rfl⟩
instance aiE:FO Tryz.prog 156 2 2:=⟨by kernel_rfl⟩
instance aiF:FO Tryz.prog 156 3 3:=⟨by kernel_rfl⟩
instance aiG:FO Tryz.prog 156 4 4:=⟨by kernel_rfl⟩
instance aiH:FO Tryz.prog 163 0 0:=⟨by kernel_rfl⟩
instance aiI:FO Tryz.prog 163 1 1:=⟨by kernel_rfl⟩
instance aiJ:FO Tryz.prog 163 2 2:=⟨by kernel_rfl⟩
instance aiK:FO Tryz.prog 163 3 5:=⟨by kernel_rfl⟩
instance aiL:FO Tryz.prog 163 4 6:=⟨by kernel_rfl⟩
instance aiM:FO Tryz.prog 163 5 7:=⟨by kernel_rfl⟩
instance aiN:FO Tryz.prog 163 6 8:=⟨by kernel_rfl⟩
instance aiO:FO Tryz.prog 163 7 11:=⟨by kernel_rfl⟩
instance aiP:FO Tryz.prog 189 0 0:=⟨by kernel_rfl⟩
instance aiQ:FO Tryz.prog 189 1 1:=⟨by kernel_rfl⟩
instance aiR:FO Tryz.prog 211 0 0:=⟨by kernel_rfl⟩
instance aiS:FO Tryz.prog 211 1 1:=⟨by kernel_rfl⟩
instance aiT:FO Tryz.prog 211 2 2:=⟨by kernel_rfl⟩
instance aiU:FO Tryz.prog 211 3 3:=⟨by kernel_rfl⟩
instance aiV:FO Tryz.prog 211 4 4:=⟨by kernel_rfl⟩
instance aiW:FO Tryz.prog 211 5 7:=⟨by kernel_rfl⟩
instance aiX:FO Tryz.prog 211 6 8:=⟨by kernel_rfl⟩
instance aiY:FO Tryz.prog 213 0 0:=⟨by kernel_rfl⟩
instance aiZ:FO Tryz.prog 213 1 1:=⟨by kernel_rfl⟩
instance ai0:FO Tryz.prog 213 2 2:=⟨by kernel_rfl⟩
instance ai1:FO Tryz.prog 213 3 3:=⟨by kernel_rfl⟩
instance ai2:FO Tryz.prog 213 4 4:=⟨by kernel_rfl⟩
instance ai3:FO Tryz.prog 213 5 7:=⟨by kernel_rfl⟩
instance ai4:FO Tryz.prog 220 0 0:=⟨by kernel_rfl⟩
instance ai5:FO Tryz.prog 220 1 1:=⟨by kernel_rfl⟩
instance ai6:FO Tryz.prog 220 2 2:=⟨by kernel_rfl⟩
instance ai7:FO Tryz.prog 220 3 3:=⟨by kernel_rfl⟩
instance ai8:FO Tryz.prog 220 4 4:=⟨by kernel_rfl⟩
instance ai9:FO Tryz.prog 237 0 0:=⟨by kernel_rfl⟩
instance ajA:FO Tryz.prog 237 1 1:=⟨by kernel_rfl⟩
instance ajB:FO Tryz.prog 237 2 2:=⟨by kernel_rfl⟩
instance ajC:FO Tryz.prog 237 3 5:=⟨by kernel_rfl⟩
instance ajD:FO Tryz.prog 237 4 6:=⟨by kernel_rfl⟩
instance ajE:FO Tryz.prog 237 5 7:=⟨by kernel_rfl⟩
instance ajF:FO Tryz.prog 242 0 0:=⟨by kernel_rfl⟩
instance ajG:FO Tryz.prog 242 1 1:=⟨by kernel_rfl⟩
instance ajH:FO Tryz.prog 242 2 2:=⟨by kernel_rfl⟩
instance ajI:FO Tryz.prog 245 0 0:=⟨by kernel_rfl⟩
instance ajJ:FO Tryz.prog 245 1 1:=⟨by kernel_rfl⟩
instance ajK:FO Tryz.prog 262 0 0:=⟨by kernel_rfl⟩
instance ajL:FO Tryz.prog 262 1 1:=⟨by kernel_rfl⟩
instance ajM:FO Tryz.prog 262 2 2:=⟨by kernel_rfl⟩
instance ajN:FQ Tryz.prog 189 0 (0,false,1):=⟨by kernel_rfl⟩
instance ajO:FQ Tryz.prog 189 1 (1,false,1):=⟨by kernel_rfl⟩
theorem ahF:Tryz.prog.follows .mixedOrders=true:=by kernel_rfl
end Go.Proofs.YtfcoaagbccmahaaGreat

namespace Go.Proofs.YtfcoaagbccmahaaGreat
open Go.RowKit Go.WalkArith Go.IntWalk Go.WideShapes
theorem fL.set{ok:Nat→Nat→Prop}{st:cM}{m:iF}{w:World}{q:PV}: ∀ {ps:List PV} {vs:List Value} {j:Nat},fL ok st m w ps vs→(∀v,vs[j]?=some v→RV ok st m w q v)→fL ok st m w (ps.set j q) vs
 | [],[],j,_,_=>by simp [fL]
 |p::ps,v::vs,0,h,k=>⟨k v rfl,h.2⟩
 |p::ps,v::vs,j+1,h,k=>⟨h.1,fL.set h.2 fun u hu=>k u (by simpa using hu)⟩
 | [],_::_,_,h,_=>h.elim
 |_::_,[],_,h,_=>h.elim
section
variable {P:Program} {C:lL} {n:Nat} {s:AS}
theorem Wk.regBox{k j:Nat}{bx:cL}(E sz:Nat)(hsz:0<sz)(hb:s.st.boxes[k]?=some (some bx))(hj:bx.cells[j]?=some .nil):
 Wk C n s ⟨s.env,(s.st.addRow ⟨E,sz,[],false⟩).setBox k ⟨bx.ty,bx.cells.set j (.acc sz [] s.st.rows.length)⟩⟩:=fun m a w h=>by
 have hE:=CV (row:=⟨E,sz,[],false⟩) h.sto
 have hS:=GO (row:=⟨E,sz,[],false⟩) h.sto hsz rfl
 have h1:=h.step hE hS
 have hb1:(s.st.addRow ⟨E,sz,[],false⟩).boxes[k]?=some (some bx):=hb
 obtain⟨vs,hob,hcs⟩:=hS.box k bx hb1
 have hc:fL (iZ C.av (s.st.addRow ⟨E,sz,[],false⟩) ⟨m.ρ,wC m.γ s.st.rows.length none⟩) (s.st.addRow ⟨E,sz,[],false⟩) ⟨m.ρ,wC m.γ s.st.rows.length none⟩ w (bx.cells.set j (.acc sz [] s.st.rows.length)) vs:=by
  refine fL.set hcs fun v hv=>?_
  obtain⟨u,hu,hr⟩:=hcs.get hj
  rw [hv] at hu
  cases hu
  obtain rfl:=(show v=_ from hr)
  exact⟨⟨E,sz,[],false⟩,by show(s.st.rows++ [_])[s.st.rows.length]?=_;simp,rfl,Nat.le_refl _,b5.nilRow _ _ _ _ (by unfold maxLen;omega),fun _=>by simp [bR,NS]⟩
 exact⟨_,h1.step (I7 hS hb1 rfl rfl rfl rfl fun _ _=>rfl) (O2 hS hb1 rfl rfl rfl rfl (fun _ _=>rfl) hob hc)⟩
end
end Go.Proofs.YtfcoaagbccmahaaGreat

namespace Go.Proofs.YtfcoaagbccmahaaGreat
open Go.RowKit Go.WalkArith Go.IntWalk Go.WideShapes
section
variable {P:Program} {C:lL} {n:Nat} {s:AS} {o:Oper}
theorem ae8{T:TypeId}(hT:P.underlying T=some .bool)(a b:Bool)(w:World):(Op.equalIn Op.maxDepth T (.bool a) (.bool b)).run P w= .ok (a==b) w:=by
 unfold Op.maxDepth Op.equalIn
 simp [run_underlying hT]
theorem a5.neqB{T yT:TypeId}{x y:Operand}{a b:Bool}(ho:o.op= .binOp .neq T x y yT)(hd:bA o.dst n=true)(hx:s.ev x=some (.t (.leaf (.bool a))))(hy:s.ev y=some (.t (.leaf (.bool b))))(hT:P.underlying T=some .bool):
 a5 P C n o s (s.putO o.dst (.t (.leaf (.bool (!decide (a=b)))))):=a5.bin ho hd hx hy (fun w=>by
  simp [eqGuard,binOp,Op.equal,ae8 hT]
  cases a<;>cases b<;>rfl) trivial
end
end Go.Proofs.YtfcoaagbccmahaaGreat

namespace Go.Proofs.YtfcoaagbccmahaaGreat
open Go.RowKit Go.WalkArith Go.IntWalk Go.WideShapes
inductive LR (σ β:Type) where
 |next (s:σ)
 |brk (s:σ)
 |ret (x:β)
def sw{α:Type}(b:Bool)(x y:α):α:=match b with
 |true=>x
 |false=>y
theorem GS{α:Type}{b:Bool}{x y z:α}(h:b=true)(k:x=z):sw b x y=z:=by rw [h];exact k
theorem ET{α:Type}{b:Bool}{x y z:α}(h:b=false)(k:y=z):sw b x y=z:=by rw [h];exact k
def lt{α β:Type}(x:α)(f:α→β):β:=f x
theorem YN{α β:Type}{x y:α}{f:α→β}{z:β}(h:y=x)(k:f y=z):lt x f=z:=by subst h;exact k
noncomputable def gd{α:Type}(p:Prop)(x:Option α):Option α:= @ite _ p (Classical.propDecidable p) x none
theorem rR{α:Type}{p:Prop}{x z:Option α}(h:p)(k:x=z):gd p x=z:=by unfold gd;rw [if_pos h];exact k
theorem gdF{α:Type}{p:Prop}{x:Option α}(h: ¬p):gd p x=none:=by unfold gd;rw [if_neg h]
def bd{α β:Type}(m:Option α)(f:α→Option β):Option β:=match m with
 |none=>none
 |some a=>f a
theorem wD{α β:Type}{m:Option α}{f:α→Option β}{a:α}{z:Option β}(h:m=some a)(k:f a=z):bd m f=z:=by rw [h];exact k
def so{σ β:Type}(m:Option (β⊕σ))(f:σ→Option β):Option β:=match m with
 |none=>none
 |some (.inl x)=>some x
 |some (.inr s)=>f s
theorem soR{σ β:Type}{m:Option (β⊕σ)}{f:σ→Option β}{s:σ}{z:Option β}(h:m=some (.inr s))(k:f s=z):so m f=z:=by rw [h];exact k
theorem soL{σ β:Type}{m:Option (β⊕σ)}{f:σ→Option β}{x:β}(h:m=some (.inl x)):so m f=some x:=by rw [h];rfl
def loopN{σ β:Type}(f:Nat→σ→Option (LR σ β)):Nat→Nat→σ→Option (β⊕σ)
 |0,_,s=>some (.inr s)
 |k+1,i,s=>match f i s with
  |none=>none
  |some (.next s')=>loopN f k (i+1) s'
  |some (.brk s')=>some (.inr s')
  |some (.ret x)=>some (.inl x)
def loopW{σ β:Type}(f:σ→Option (LR σ β)):Nat→σ→Option (β⊕σ)
 |0,_=>none
 |k+1,s=>match f s with
  |none=>none
  |some (.next s')=>loopW f k s'
  |some (.brk s')=>some (.inr s')
  |some (.ret x)=>some (.inl x)
section
variable {σ β:Type} {f:Nat→σ→Option (LR σ β)} {n i:Nat} {s s':σ} {x:β} {R:Option (β⊕σ)}
theorem vN(h:i<n)(hJ:R=loopN f (n-i) i s)(e:f i s=some (.next s')):R=loopN f (n-(i+1)) (i+1) s':=by
 rw [hJ,show n-i=(n-(i+1))+1 by omega,loopN,e]
theorem abY(h:i<n)(hJ:R=loopN f (n-i) i s)(e:f i s=some (.brk s')):R=some (.inr s'):=by
 rw [hJ,show n-i=(n-(i+1))+1 by omega,loopN,e]
theorem ab1(h:i<n)(hJ:R=loopN f (n-i) i s)(e:f i s=some (.ret x)):R=some (.inl x):=by
 rw [hJ,show n-i=(n-(i+1))+1 by omega,loopN,e]
theorem abZ(h:n≤i)(hJ:R=loopN f (n-i) i s):R=some (.inr s):=by
 rw [hJ,show n-i=0 by omega,loopN]
end
section
variable {σ β:Type} {f:σ→Option (LR σ β)} {k:Nat} {s s':σ} {x:β} {R:Option (β⊕σ)}
end
section
variable {P:Program} {C:lL} {n:Nat} {s:AS} {Q:Exit→AS→Prop}
def QC(C:lL)(n:Nat)(Q:Exit→AS→Prop):Prop:= ∀e s s',Wk C n s s'→Q e s'→Q e s
def NC(C:lL)(n:Nat)(N:AS→Prop):Prop:= ∀s s',Wk C n s s'→N s'→N s
theorem ahG{c:Code}:NC C n (cF P C n c Q):=fun _ _ h k=>cF.weak h k
theorem agL{N:AS→Prop}(hn:NC C n N)(hq:QC C n Q):QC C n (O5 N Q):=fun e s s' h k=>by
 cases e with
 |normal=>exact hn s s' h k
 |_=>exact hq _ s s' h k
theorem ae7{id:Nat}(hq:QC C n Q):QC C n (s9 id Q):=fun e s s' h k=>by
 cases e with
 |exit i=>
  simp only [s9] at k ⊢
  split
  ·rename_i hi;rw [if_pos hi] at k;exact hq _ s s' h k
  ·rename_i hi;rw [if_neg hi] at k;exact hq _ s s' h k
 |_=>exact hq _ s s' h k
theorem agK{fn:Func}{R:PV→cM→Prop}:QC C n (xB P C n fn R):=fun e s s' h k=>⟨k.1,fun m a w hr=>by
 obtain⟨m',h'⟩:=h m a w hr
 exact k.2 m' a w h'⟩
end
end Go.Proofs.YtfcoaagbccmahaaGreat

namespace Go.Proofs.YtfcoaagbccmahaaGreat
open Go.RowKit Go.WalkArith Go.IntWalk Go.WideShapes
section
variable {P:Program} {C:lL} {n:Nat} {s:AS} {o:Oper}
theorem a5.makeSlice{T E sz by_ N:Nat}{x y:Operand}(ho:o.op= .makeSlice T x y)(hd:bA o.dst n=true)(hx:s.ev x=some (.t (.leaf (.int .i64 (N:Int)))))(hy:s.ev y=some (.t (.leaf (.int .i64 (N:Int)))))
 (hT:elemOf? P T=some (E,sz,by_)) (hz:(P.info? E).bind (fun i=>i.zero.map (fun z=>z.cells.size))=some sz) (hsz:0<sz) (hb:by_*N≤281474976710656) (hN:N≤9223372036854775807):
 a5 P C n o s ((⟨s.env,s.st.addRow ⟨E,sz,[],true⟩⟩:AS).putO o.dst (.full sz N s.st.rows.length)):=
 a5.run hd (s1:=⟨s.env,s.st.addRow ⟨E,sz,[],true⟩⟩) (fun m a w h=>by
  obtain⟨i,hu,hi,hs,hby⟩:=elemOf?.spec hT
  have h1:=(b5.leaf_eq (h.eval hx)).1
  have h2:=(b5.leaf_eq (h.eval hy)).1
  cases hzz:i.zero with
  |none=>simp [hi,hzz] at hz
  |some z=>
   have hb':(i.bytes:Int)*(N:Int)≤281474976710656:=by
    rw [hby]
    have:((by_*N:Nat):Int)≤281474976710656:=by omega
    rwa [Int.natCast_mul] at this
   have hr:=run_make (P:=P) w T E i z hu hi hzz .i64 .i64 N N (by omega) (Int.le_refl _) hb' (by omega)
   simp only [Int.toNat_natCast] at hr
   refine⟨.slice (some ⟨w.heap.size,0,none⟩) N N,⟨m.ρ,wC m.γ s.st.rows.length (some (w.heap.size,N))⟩,_,?_,I6 (row:=⟨E,sz,[],true⟩) (c:=N) (cur:=madeCells z.cells (N*i.size)) h.sto,O1 (row:=⟨E,sz,[],true⟩) h.sto hsz rfl (by rw [size_madeCells,hs]) (by unfold maxLen;omega),?_⟩
   ·unfold execOp
    simp only [ho,h1,h2,Sem.run_bind,hr,Result.andThen_ok]
    rfl
   ·exact⟨⟨E,sz,[],true⟩,w.heap.size,by show(s.st.rows++ [_])[s.st.rows.length]?=_;simp,rfl,rfl,bR _ _ _,rfl⟩) rfl
theorem a5.indexFull{T E sz by_ N r k:Nat}{x i:Operand}(ho:o.op= .indexAddr T x i)(hd:bA o.dst n=true)(hx:s.ev x=some (.full sz N r))(hi:s.ev i=some (.t (.leaf (.int .i64 (k:Int)))))(hk:k<N)(hT:elemOf? P T=some (E,sz,by_)):
 a5 P C n o s (s.putO o.dst (.rptr r k)):=
 a5.quiet (cE hd) fun m a w h=>by
  obtain⟨row,g,h1,h2,h3,h4,h5⟩:=h.eval hx
  have h6:=(b5.leaf_eq (h.eval hi)).1
  refine⟨.pointer (some ⟨g,0+k*sz,none⟩),?_,row,g,N,h1,h3,h4,by rw [h2,Nat.zero_add]⟩
  unfold execOp
  simp only [ho,h5,h6,Sem.run_bind,run_indexAt' hT hk,Result.andThen_ok]
  rfl
theorem a5.storeRptr{T sz N r k:Nat}{x y:Operand}{row:mP}{p:PV}{e:List Tr}{es2:List (List Tr)}(j:Nat)(ho:o.op= .store T x y)(hx:s.ev x=some (.rptr r k))(hf:s.lk j=some (.full sz N r))(hrow:s.st.rows[r]?=some row)(hy:s.ev y=some p)(ht:rJ p=true)
 (hle:qA (rZ p) (e.map PV.t)) (hel:e.length=sz) (hflat:BG (e.map PV.t)=true) (hT:(P.info? T).map (·.size)=some sz) (hk:k=row.es.length) (hkN:k<N) (he2:row.es++ [e]=es2):
 a5 P C n o s ((⟨s.env,s.st.setRow r { row with es:=es2 }⟩:AS).delO o.dst):=
 a5.runU (s1:=⟨s.env,s.st.setRow r { row with es:=es2 }⟩) (fun m a w h=>by
  subst he2 hk
  obtain⟨vf,-,row0,g,q1,q2,q3,q4,q5⟩:=h.env j _ hf
  rw [hrow] at q1
  cases q1
  subst q2
  obtain⟨row1,g1,n1,p1,p3,p4,p5⟩:=h.eval hx
  rw [hrow] at p1
  cases p1
  rw [q4] at p4
  injection p4 with p4
  injection p4 with e1 e2
  subst e1 e2
  have hr:=qA.rv hle (CT (h.eval hy) (rJ.ne ht))
  have hl:(a.eval y).cells.toList.length=row.sz:=by have:=hr.length;rw [List.length_map,hel] at this;exact this.symm
  obtain⟨hpos,hlens,hplace⟩:=h.sto.row r row hrow
  rcases hplace with⟨z1,-⟩|⟨g',c',cur,z1,hob,hcs,hfit,hmax,hrep⟩
  ·rw [q4] at z1;cases z1
  rw [q4] at z1
  injection z1 with z1
  injection z1 with e1 e2
  subst e1 e2
  have hfitc:row.es.length*row.sz+row.sz≤cur.size:=by
   rw [hcs]
   have:=Nat.mul_le_mul_right row.sz (Nat.succ_le_of_lt hkN)
   rwa [Nat.succ_mul] at this
  have hrun:=AW (P:=P) (T:=T) (d:=row.es.length*row.sz) (v:=a.eval y) hob (by rw [hT,← hl];simp) (by have hq:(a.eval y).cells.size=row.sz:=(by simpa using hl);omega) (BG.one hflat hr)
  have hsp: ∀q:Nat,q<row.es.length*row.sz→(splice cur (row.es.length*row.sz) (a.eval y).cells.toList)[q]?=cur[q]?:=fun q hq=>by
   unfold Go.Proofs.YtfcoaagbccmahaaGreat.splice
   rw [List.getElem?_toArray,List.append_assoc,List.getElem?_append_left (by simp;omega),List.getElem?_take,if_pos hq,Array.getElem?_toList]
  have hG:MP C.av s.st m w r row [e] g N (splice cur (row.es.length*row.sz) (a.eval y).cells.toList) (w.setRow g (splice cur (row.es.length*row.sz) (a.eval y).cells.toList)):=by
   refine⟨hrow,rfl,rfl,rfl,by simp,fun b hb hne=>setRow_other w g b _ hne,setRow_heap w g cur _ _ _ hob,?_,by simp only [List.length_singleton];omega,hmax,fun e' he'=>?_,fun i e' hi j' d hd=>?_,fun i e' hi j' d hd=>?_,.inl ⟨N,cur,q4,hob,fun o ho=>hsp o ho⟩,fun _=>q4⟩
   ·unfold Go.Proofs.YtfcoaagbccmahaaGreat.splice
    simp only [List.size_toArray,List.length_append,List.length_take,List.length_drop,Array.length_toList,hl]
    omega
   ·have:e'=e:=by simpa using he'
    rw [this];exact hel
   ·cases hrep with
    |row cf r1 r2 r3 r4=>
     obtain⟨b',off',hbo,hb',r5⟩:=r3 (by rintro e0;rw [e0] at hi;simp at hi)
     injection hbo with hbo
     injection hbo with e1 e2 e3
     subst e1 e2
     have hc:=(r5 i e' hi j' d hd).2
     rw [hob.cell,Nat.zero_add] at hc
     refine⟨cf i j',?_,r4 i e' hi j' d hd⟩
     have hi1:=cR hi
     have hj1:j'<row.sz:=by rw [← hlens e' (List.mem_of_getElem? hi)];exact cR hd
     have hlt:i*row.sz+j'<row.es.length*row.sz:=by
      have:(i+1)*row.sz≤row.es.length*row.sz:=Nat.mul_le_mul_right _ hi1
      rw [Nat.succ_mul] at this
      omega
     rw [hsp _ hlt];exact hc
   ·obtain⟨rfl,rfl⟩:i=0∧e'=e:=by
     rcases i with _|i
     ·simp at hi;exact⟨rfl,hi.symm⟩
     ·simp at hi
    obtain⟨v,hv,hrv⟩:=hr.get (j:=j') (p:= .t d) (by rw [List.getElem?_map,hd];rfl)
    refine⟨v,?_,hrv⟩
    have hjl:=cR hv
    unfold Go.Proofs.YtfcoaagbccmahaaGreat.splice
    have htl:(cur.toList.take (row.es.length*row.sz)).length=row.es.length*row.sz:=by simp;omega
    rw [List.getElem?_toArray,Nat.add_zero,List.append_assoc,List.getElem?_append_right (by rw [htl];omega),htl,Nat.add_sub_cancel_left,List.getElem?_append_left hjl,hv]
  have hgm:wC m.γ r (some (g,N))=m.γ:=by
   funext q
   by_cases hqr:q=r
   ·subst hqr;rw [bR,q4]
   ·rw [c4 hqr]
  refine⟨_,_,?_,hG.ev h.sto,hG.sto h.sto⟩
  unfold execOp
  simp only [ho,p5,Instr.storeAt,Instr.sureAddr,Sem.run_bind,Sem.run_pure,Result.andThen_ok,hrun]) rfl
theorem Wk.full{i E sz N r:Nat}{es:List (List Tr)}{b:Bool}(hx:s.lk i=some (.full sz N r))(hrow:s.st.rows[r]?=some ⟨E,sz,es,b⟩)(hl:es.length=N):Wk C n s (s.put i (.t (.row sz es))):=fun m a w h=>by
 refine⟨m,h.dfr,h.tsz,h.sto,fun j q hq=>?_,h.ev⟩
 rw [AS.lk_put] at hq
 split at hq
 ·rename_i e
  subst e
  cases hq
  obtain⟨v,hv,row,g,q1,q2,q3,q4,q5⟩:=h.env j _ hx
  refine⟨v,hv,?_⟩
  rw [hrow] at q1
  cases q1
  obtain⟨-,-,hplace⟩:=h.sto.row r _ hrow
  rcases hplace with⟨z1,-⟩|⟨g',c',cur,z1,hob,hcs,hfit,hmax,hrep⟩
  ·rw [q4] at z1;cases z1
  rw [q4] at z1
  injection z1 with z1
  injection z1 with e1 e2
  subst e1 e2
  subst q5
  show b5 _ _ (.row sz es) _
  have:b5 (iZ C.av s.st m) w (.row sz es) (.slice (some ⟨g,0,none⟩) es.length N):=hrep
  rw [hl] at this
  exact this
 ·exact h.env j q hq
end
end Go.Proofs.YtfcoaagbccmahaaGreat

namespace Go.Proofs.YtfcoaagbccmahaaGreat
open Go.RowKit Go.WalkArith Go.IntWalk Go.WideShapes
def zF(v:ByteArray)(k:Nat):UInt8:=(v[k]?).getD 0
section
variable {P:Program} {C:lL} {n:Nat} {s:AS} {o:Oper}
theorem ahV(b:UInt8):oT (.int .u8 (b.toNat:Int)):=by
 have:=b.toNat_lt
 simp [oT,Lit.wf,IntKind.min,IntKind.max,IntKind.bits,IntKind.signed]
 omega
theorem a5.indexS{T:TypeId}{x i:Operand}{v:ByteArray}{k:Nat}(ho:o.op= .index T x i)(hd:bA o.dst n=true)(hx:s.ev x=some (.t (.leaf (.string v))))(hi:s.ev i=some (.t (.leaf (.int .i64 (k:Int)))))(hk:k<v.size)(hT:P.underlying T=some .string):
 a5 P C n o s (s.putO o.dst (.t (.leaf (.int .u8 ((zF v k).toNat:Int))))):=
 a5.quiet (cE hd) fun m a w h=>by
  have h1:=(b5.leaf_eq (h.eval hx)).1
  have h2:=(b5.leaf_eq (h.eval hi)).1
  refine⟨.int .u8 ((zF v k).toNat:Int),?_,b5.leaf (ahV _)⟩
  have h3:v[k]?=some v[k]:=by simp [hk]
  unfold execOp
  simp [ho,h1,h2,Instr.index,asIntOf,run_underlying hT,h3,zF]
theorem a5.indexSI{T:TypeId}{x i:Operand}{v:ByteArray}{y:Int}(ho:o.op= .index T x i)(hd:bA o.dst n=true)(hx:s.ev x=some (.t (.leaf (.string v))))(hi:s.ev i=some (.t (.leaf (.int .i64 y))))(h0:0≤y)(hk:y.toNat<v.size)(hT:P.underlying T=some .string):
 a5 P C n o s (s.putO o.dst (.t (.leaf (.int .u8 ((zF v y.toNat).toNat:Int))))):=
 a5.indexS (k:=y.toNat) ho hd hx (by rw [hi,Int.toNat_of_nonneg h0]) hk hT
def K0(s:AS):Option Operand→Option Int
 |none=>some 0
 |some x=>match s.ev x with
  |some (.t (.leaf (.int .i64 y)))=>some y
  |_=>none
def xF(s:AS)(len:Nat):Option Operand→Option Int
 |none=>some (len:Int)
 |some x=>match s.ev x with
  |some (.t (.leaf (.int .i64 y)))=>some y
  |_=>none
theorem X7{m:iF}{a:Act}{w:World}(h:RA C n s m a w){x:Operand}{y:Int}(hx:s.ev x=some (.t (.leaf (.int .i64 y)))):a.eval x= .int .i64 y:=(b5.leaf_eq (h.eval hx)).1
theorem K0.some'{x:Operand}{y:Int}(h:K0 s (some x)=some y):s.ev x=some (.t (.leaf (.int .i64 y))):=by
 unfold K0 at h
 simp only at h
 split at h
 ·rename_i z hz
  simp only [Option.some.injEq] at h
  rw [hz,h]
 ·cases h
theorem xF.some'{x:Operand}{y:Int}{len:Nat}(h:xF s len (some x)=some y):s.ev x=some (.t (.leaf (.int .i64 y))):=by
 unfold xF at h
 simp only at h
 split at h
 ·rename_i z hz
  simp only [Option.some.injEq] at h
  rw [hz,h]
 ·cases h
theorem NT{m:iF}{a:Act}{w:World}(h:RA C n s m a w){isS:Bool}{len cap:Nat}{lo hi:Option Operand}{l k:Int}(hlen:len≤cap)(h1:K0 s lo=some l)(h2:xF s len hi=some k)(h3:0≤l)(h4:l≤k)(h5:k≤(len:Int)):
 (Instr.sliceBounds isS len cap (lo.map a.eval) (hi.map a.eval) none).run P w= .ok (l.toNat,k.toNat,cap) w:=by
 have hk:0≤k:=by omega
 have hkc:k≤(cap:Int):=by omega
 have hlk:l≤(k.toNat:Int):=by omega
 cases lo with
 |none=>
  simp only [K0,Option.some.injEq] at h1
  subst h1
  cases hi with
  |none=>
   simp only [xF,Option.some.injEq] at h2
   subst h2
   simp [Instr.sliceBounds]
  |some y=>
   have e:=X7 h (xF.some' h2)
   simp [Instr.sliceBounds,Instr.sliceBound,e,asIntOf,hk,hkc]
 |some x=>
  have e:=X7 h (K0.some' h1)
  cases hi with
  |none=>
   simp only [xF,Option.some.injEq] at h2
   subst h2
   simp [Instr.sliceBounds,Instr.sliceBound,e,asIntOf,h3,h4]
  |some y=>
   have e2:=X7 h (xF.some' h2)
   have hm:max k 0=k:=Int.max_eq_left hk
   simp [Instr.sliceBounds,Instr.sliceBound,e,e2,asIntOf,hk,hkc,h3,hlk,hm,h4]
   try omega
theorem a5.sliceS{T:TypeId}{x:Operand}{lo hi:Option Operand}{v:ByteArray}{l k:Int}(ho:o.op= .slice T x lo hi none)(hd:bA o.dst n=true)(hx:s.ev x=some (.t (.leaf (.string v))))(h1:K0 s lo=some l)(h2:xF s v.size hi=some k)(h3:0≤l∧l≤k∧k≤(v.size:Int))(hT:P.underlying T=some .string):
 a5 P C n o s (s.putO o.dst (.t (.leaf (.string (v.extract l.toNat k.toNat))))):=
 a5.quiet (cE hd) fun m a w h=>by
  obtain⟨e,h6⟩:=b5.leaf_eq (h.eval hx)
  have h6:v.size≤maxLen:=h6
  refine⟨.string (v.extract l.toNat k.toNat),?_,b5.leaf ?_⟩
  ·have hb:=NT (P:=P) h (isS:=false) (Nat.le_refl v.size) h1 h2 h3.1 h3.2.1 h3.2.2
   unfold execOp
   simp [ho,e,Instr.sliceAt,Instr.slice,run_underlying hT,hb]
  ·show(v.extract l.toNat k.toNat).size≤maxLen
   rw [ByteArray.size_extract]
   omega
theorem b5.part{ok:Nat→Nat→Prop}{w:World}{sz:Nat}{es:List (List Tr)}{a:Option Addr}{cap l k:Nat}(h:b5 ok w (.row sz es) (.slice a es.length cap))(h1:l≤k)(h2:k≤es.length):b5 ok w (.row sz ((es.take k).drop l)) (.slice (if cap=l then a else a.map (·.add (l*sz))) (k-l) (cap-l)):=by
 cases h with
 |row c q1 q2 q3 q4=>
  have hlen:((es.take k).drop l).length=k-l:=by simp;omega
  have hget: ∀(i:Nat) e,((es.take k).drop l)[i]?=some e→es[l+i]?=some e:=fun i e he=>by
   rw [List.getElem?_drop,List.getElem?_take] at he
   split at he
   ·exact he
   ·cases he
  have:=b5.row (ok:=ok) (w:=w) (sz:=sz) (es:=(es.take k).drop l) (a:=if cap=l then a else a.map (·.add (l*sz))) (cap:=cap-l) (fun i j=>c (l+i) j) (by rw [hlen];omega) (by omega) (fun hne=>?_) (fun i e he j d hd=>q4 _ e (hget i e he) j d hd)
  ·rwa [hlen] at this
  ·have hkl:l<k:=by
    rcases Nat.lt_or_ge l k with h|h
    ·exact h
    ·exact absurd (List.length_eq_zero_iff.1 (by rw [hlen];omega)) hne
   obtain⟨b,off,rfl,hb,q5⟩:=q3 (by rintro rfl;simp at h2;omega)
   refine⟨b,off+l*sz,?_,hb,fun i e he j d hd=>?_⟩
   ·rw [if_neg (by omega)]
    have hadd:(⟨b,off,none⟩:Addr).add (l*sz)=⟨b,off+l*sz,none⟩:=by unfold Addr.add;split<;>simp_all
    simp [hadd]
   ·have:=q5 (l+i) e (hget i e he) j d hd
    rw [show off+l*sz+i*sz+j=off+(l+i)*sz+j by rw [Nat.add_mul];omega]
    exact this
theorem a5.sliceR{T E sz by_:Nat}{x:Operand}{lo hi:Option Operand}{p:PV}{es:List (List Tr)}{l k:Int}(ho:o.op= .slice T x lo hi none)(hd:bA o.dst n=true)(hx:s.ev x=some p)(hp:jK p=some (sz,es))(h1:K0 s lo=some l)(h2:xF s es.length hi=some k)(h3:0≤l∧l≤k∧k≤(es.length:Int))(hT:elemOf? P T=some (E,sz,by_)):
 a5 P C n o s (s.putO o.dst (.t (.row sz ((es.take k.toNat).drop l.toNat)))):=
 a5.quiet (cE hd) fun m a w h=>by
  have hr:=tC hp (h.eval hx)
  obtain⟨i,hu,hi',hs,-⟩:=elemOf?.spec hT
  obtain⟨ad,cap,hv,hlc,hcm⟩:=hr.shape
  rw [hv] at hr
  refine⟨_,?_,hr.part (l:=l.toNat) (k:=k.toNat) (by omega) (by omega)⟩
  have hb:=NT (P:=P) h (isS:=true) hlc h1 h2 h3.1 h3.2.1 h3.2.2
  unfold execOp
  simp [ho,hv,Instr.sliceAt,Instr.slice,run_underlying hu,hb,Go.sizeOf,typeInfo,hi',hs]
end
end Go.Proofs.YtfcoaagbccmahaaGreat

namespace Go.Proofs.YtfcoaagbccmahaaGreat
open Go.RowKit Go.Proofs
end Go.Proofs.YtfcoaagbccmahaaGreat

namespace Go.Proofs.YtfcoaagbccmahaaGreat
open Go.RowKit Go.WalkArith Go.IntWalk Go.WideShapes
instance:Inhabited ByteArray:=⟨⟨#[]⟩⟩
def aP{α:Type}[Inhabited α](l:List α)(k:Nat):α:=(l[k]?).getD default
theorem gL{α:Type}[Inhabited α]{l:List α}{k:Nat}(h:k<l.length):aP l k=l[k]:=by simp [aP,h]
theorem acN{l:List ByteArray}{k:Nat}(h:k<l.length):(aW l)[k]?=some [.leaf (.string (aP l k))]:=by rw [gL h];exact RQ h
theorem abU{l:List Int}{k:Nat}(h:k<l.length):(lQ l)[k]?=some [.leaf (.int .i64 (aP l k))]:=by rw [gL h];exact abV h
theorem X3{l:List UInt8}{k:Nat}(h:k<l.length):(iY l)[k]?=some [.leaf (.int .u8 ((aP l k).toNat:Int))]:=by rw [gL h];exact vG h
theorem wS{a b c:Nat}(h:a+b≤68719476736)(hc:c≤2048):(a+b)*c≤140737488355328:=by
 have:=Nat.mul_le_mul h hc
 omega
theorem XH(l:List ByteArray)(a b:Nat):((aW l).take b).drop a=aW ((l.take b).drop a):=by simp [aW,List.map_drop,List.map_take]
theorem a5.congrP{P:Program}{C:lL}{n:Nat}{s:AS}{o:Oper}{sz:Nat}{es es':List (List Tr)}(h:a5 P C n o s (s.putO o.dst (.t (.row sz es))))(e:es=es'):a5 P C n o s (s.putO o.dst (.t (.row sz es'))):=e ▸ h
theorem sE{a b:Nat}(h:decide ((a:Int)<(b:Int))=true):a<b:=uZ h
theorem sD{a b:Nat}(h:decide ((a:Int)<(b:Int))=false):b≤a:=ab3 h
theorem YQ{a:Nat}{b:Int}(h:decide ((a:Int)<b)=true):a<b.toNat:=by have:=of_decide_eq_true h;omega
theorem YP{a:Nat}{b:Int}(h:decide ((a:Int)<b)=false):b.toNat≤a:=by have:=of_decide_eq_false h;omega
def nI(s:cM)(fb0 fr0:List Nat)(pre:cM):List Nat→List (Option cL)→Prop
 | [],[]=>True
 |k::fb,some x::bs=>(∃y,s.boxes[k]?=some (some y)∧y.ty=x.ty∧qA y.cells (zV fb0 fr0 x.cells)∧k8 pre x.cells=true)∧nI s fb0 fr0 pre fb bs
 |_,_=>False
def q7(s:cM):List Nat→List mP→Prop
 | [],[]=>True
 |r::fr,row::rs=>s.rows[r]?=some row∧q7 s fr rs
 |_,_=>False
theorem nI.len{s pre:cM}{fb0 fr0:List Nat}: ∀ {fb:List Nat} {bs:List (Option cL)},nI s fb0 fr0 pre fb bs→fb.length=bs.length
 | [],[],_=>rfl
 |_::_,some _::_,h=>by simp [nI.len h.2]
 |_::_,none::_,h=>h.elim
 | [],_::_,h=>h.elim
 |_::_,[],h=>h.elim
theorem nI.get{s pre:cM}{fb0 fr0:List Nat}: ∀ {fb:List Nat} {bs:List (Option cL)},nI s fb0 fr0 pre fb bs→ ∀k,k<bs.length→ ∃x,bs[k]?=some (some x)∧ ∃y,s.boxes[fb.getD k 0]?=some (some y)∧y.ty=x.ty∧qA y.cells (zV fb0 fr0 x.cells)∧k8 pre x.cells=true
 | [],[],_,k,h=>by simp at h
 |_::_,some x::_,h,0,_=>⟨x,rfl,h.1⟩
 |_::_,some _::_,h,k+1,hk=>by simpa using nI.get h.2 k (by simpa using hk)
 |_::_,none::_,h,_,_=>h.elim
 | [],_::_,h,_,_=>h.elim
 |_::_,[],h,_,_=>h.elim
theorem q7.len{s:cM}: ∀ {fr:List Nat} {rs:List mP},q7 s fr rs→fr.length=rs.length
 | [],[],_=>rfl
 |_::_,_::_,h=>by simp [q7.len h.2]
 | [],_::_,h=>h.elim
 |_::_,[],h=>h.elim
theorem q7.get{s:cM}: ∀ {fr:List Nat} {rs:List mP},q7 s fr rs→ ∀k row,rs[k]?=some row→s.rows[fr.getD k 0]?=some row
 | [],[],_,k,_,h=>by simp at h
 |_::_,_::_,h,0,row,hr=>by simp at hr;subst hr;exact h.1
 |_::_,_::_,h,k+1,row,hr=>by simpa using q7.get h.2 k row (by simpa using hr)
 | [],_::_,h,_,_,_=>h.elim
 |_::_,[],h,_,_,_=>h.elim
theorem eX.of{s pre:cM}{fb fr:List Nat}(hb:nI s fb fr pre fb pre.boxes)(hr:q7 s fr pre.rows)(n1:fb.Nodup)(n2:fr.Nodup):eX s pre fb fr where
 fbl:=hb.len
 frl:=hr.len
 fbn:=n1
 frn:=n2
 all:=fun k hk=>by
  obtain⟨x,hx,-⟩:=hb.get k hk
  exact⟨x,hx⟩
 box:=fun k x hx=>by
  obtain⟨x',hx',h⟩:=hb.get k (List.getElem?_eq_some_iff.1 hx).1
  rw [hx] at hx'
  cases hx'
  exact h
 row:=hr.get
section
variable {P:Program} {C:lL} {n:Nat} {s:AS} {o:Oper}
theorem a5.callVPE{y:Operand}{f:FuncId}{fn:Func}{xs:List Operand}{ts:Array TypeId}{ps cs qs:List PV}{res:PV}{pre st' S:cM}(fb fr:List Nat)(ho:o.op= .call { callee:= .value y,args:=⟨xs⟩,argTypes:=ts })(hd:bA o.dst n=true)(hy:s.ev y=some (.fn f cs))(hf:P.funcs[f]?=some fn)(hnm:(fn.name== "runtime.NumGoroutine")=false)(hb:fn.body.isNone=false)
 (hx:xs.map s.ev=ps.map some) (hS:s.st=S) (hp:eX S pre fb fr) (hle:qA (ps++cs) (zV fb fr qs)) (hok:k8 pre qs=true) (hbl:st'.boxes.length=pre.boxes.length) (hrl:st'.rows.length=pre.rows.length) (hc:cJ P f qs pre (fun r t=>r=res∧t=st')):
 a5 P C n o s ((⟨s.env,S.over st' fb fr⟩:AS).putO o.dst (PV.ren fb fr res)):=by
 subst hS
 exact a5.enterP fb fr hd (fun m a w h=>by
  obtain⟨vs,h1,h2⟩:=h.eval hy
  refine⟨xs.map a.eval++vs,?_,fL.append (evL h hx) h2⟩
  have hcf:=iL (P:=P) hf hnm hb
  unfold execOp
  simp only [ho]
  simp [resolve,invoke,Deferred.ofValue,h1,hcf]) hp hle hok hbl hrl hc
theorem AL.skipP{ops:Array Oper}{rest:List Oper}{Q:Exit→AS→Prop}{j d:Nat}{b c e:Bool}(hg:o.guard=some (j,c))(hj:(ops[j]?).bind (·.dst)=some d)(hb:s.lk d=some (.t (.leaf (.bool b))))(hv:b=e)(hne:(e==c)=false)(hd:bA o.dst n=true)(h:AL P C n ops rest Q (s.putO o.dst (.tup []))):AL P C n ops (o::rest) Q s:=fun m a w hr=>
 wpList_step fun K hK=>by
  subst hv
  rw [if_neg (by simpa [Region.wanted,hg,hr.yielded hj hb] using hne)]
  exact hK _ _ (h m _ w (hr.put (cE hd) ⟨[],rfl,trivial⟩))
theorem AL.skipU{ops:Array Oper}{rest:List Oper}{Q:Exit→AS→Prop}{j d:Nat}{c:Bool}(hg:o.guard=some (j,c))(hj:(ops[j]?).bind (·.dst)=some d)(hb:s.lk d=some (.tup []))(hd:bA o.dst n=true)(h:AL P C n ops rest Q (s.putO o.dst (.tup []))):AL P C n ops (o::rest) Q s:=fun m a w hr=>
 wpList_step fun K hK=>by
  have hy:yielded ops a.tmps j=none:=by
   obtain⟨v,hv,vs,rfl,hl⟩:=hr.env d _ hb
   simp [Go.yielded,hj,hv]
  rw [if_neg (by simp [Region.wanted,hg,hy])]
  exact hK _ _ (h m _ w (hr.put (cE hd) ⟨[],rfl,trivial⟩))
theorem a5.buildSliceE{T E sz by_ len:Nat}{parts:Array (Nat×Operand)}{ps:List (Nat×List PV)}{zs cs:List PV}{es es':List (List Tr)}(ho:o.op= .buildSlice T len parts)(hd:bA o.dst n=true)(hT:elemOf? P T=some (E,sz,by_))(hz:fV P E=some zs)(hp:jR s parts.toList=some ps)
 (hc:nV (fun i=>some (i*sz,sz)) (List.replicate len zs).flatten ps=some cs) (hle:qA cs (es.flatten.map PV.t)) (hel:es.length=len) (hes: ∀e∈es,e.length=sz) (hsz:0<sz) (hzl:zs.length=sz) (hsm:len*sz≤16777216) (he:es=es'):
 a5 P C n o s (s.putO o.dst (.t (.row sz es'))):=he ▸ a5.buildSliceQ ho hd hT hz hp hc hle hel hes hsz hzl hsm
theorem a5.buildSliceA{T E sz by_ len:Nat}{parts:Array (Nat×Operand)}{ps:List (Nat×List PV)}{zs cs:List PV}{es es':List (List Tr)}(ho:o.op= .buildSlice T len parts)(hd:bA o.dst n=true)(hT:elemOf? P T=some (E,sz,by_))(hz:fV P E=some zs)(hp:jR s parts.toList=some ps)
 (hc:nV (fun i=>some (i*sz,sz)) (List.replicate len zs).flatten ps=some cs) (hle:qA cs (es.flatten.map PV.t)) (hel:es.length=len) (hes: ∀e∈es,e.length=sz) (hsz:0<sz) (hzl:zs.length=sz) (hsm:len*sz≤16777216) (he:es=es'):
 a5 P C n o s ((⟨s.env,s.st.addRow ⟨E,sz,es',false⟩⟩:AS).putO o.dst (.acc sz es' s.st.rows.length)):=he ▸ a5.buildSlice ho hd hT hz hp hc hle hel hes hsz hzl hsm
end
theorem dR{C:lL}{bs:List (Option cL)}{rs:List mP}{S:cM}(h:C.st=⟨bs,rs⟩)(hb: ∀k,k<bs.length→ ∃y,S.boxes[k]?=some (some y))(hl:rs.length≤S.rows.length):gR C.st S:=by
 rw [h]
 exact⟨fun k x hx=>hb k (List.getElem?_eq_some_iff.1 hx).1,fun k row hk=>⟨S.rows[k]'(Nat.lt_of_lt_of_le (List.getElem?_eq_some_iff.1 hk).1 hl),List.getElem?_eq_getElem _⟩⟩
theorem iX{S:cM}{x:cL}{bs:List (Option cL)}(h:S.boxes=some x::bs): ∀k,k<1→ ∃y,S.boxes[k]?=some (some y):=fun k hk=>by
 obtain rfl:k=0:=by omega
 exact⟨x,by rw [h];rfl⟩
theorem afZ{S:cM}{x y:cL}{bs:List (Option cL)}(h:S.boxes=some x::some y::bs): ∀k,k<2→ ∃y,S.boxes[k]?=some (some y):=fun k hk=>by
 rcases(by omega:k=0∨k=1) with rfl|rfl
 ·exact⟨x,by rw [h];rfl⟩
 ·exact⟨y,by rw [h];rfl⟩
theorem af0{S:cM}{x y z:cL}{bs:List (Option cL)}(h:S.boxes=some x::some y::some z::bs): ∀k,k<3→ ∃y,S.boxes[k]?=some (some y):=fun k hk=>by
 rcases(by omega:k=0∨k=1∨k=2) with rfl|rfl|rfl
 ·exact⟨x,by rw [h];rfl⟩
 ·exact⟨y,by rw [h];rfl⟩
 ·exact⟨z,by rw [h];rfl⟩
theorem afY{S:cM}: ∀k,k<0→ ∃y,S.boxes[k]?=some (some y):=fun k hk=>absurd hk (Nat.not_lt_zero _)
instance:Inhabited aO:=⟨.mk 0 0⟩
theorem aO.trs_at{l:List aO}{k:Nat}(h:k<l.length):(aO.trs l)[k]?=some (aP l k).cs:=by rw [gL h];exact aO.trs_cs h
instance:Inhabited aB:=⟨.mk ⟨#[]⟩ []⟩
theorem aB.trs_part(l:List aB)(a b:Nat):((aB.trs l).take b).drop a=aB.trs ((l.take b).drop a):=by rw [aB.trs_map,aB.trs_map,List.map_drop,List.map_take]
theorem aB.trs_at{l:List aB}{k:Nat}(h:k<l.length):(aB.trs l)[k]?=some (aP l k).cs:=by rw [gL h];exact aB.trs_cs h
instance:Inhabited aA:=⟨.mk 0 ⟨#[]⟩ []⟩
theorem aA.trs_part(l:List aA)(a b:Nat):((aA.trs l).take b).drop a=aA.trs ((l.take b).drop a):=by rw [aA.trs_map,aA.trs_map,List.map_drop,List.map_take]
theorem aA.trs_at{l:List aA}{k:Nat}(h:k<l.length):(aA.trs l)[k]?=some (aP l k).cs:=by rw [gL h];exact aA.trs_cs h
instance:Inhabited aN:=⟨.mk ⟨#[]⟩ default⟩
theorem aN.trs_at{l:List aN}{k:Nat}(h:k<l.length):(aN.trs l)[k]?=some (aP l k).cs:=by rw [gL h];exact aN.trs_cs h
instance:Inhabited aG:=⟨.mk 0 ⟨#[]⟩ ⟨#[]⟩ 0 default [] []⟩
theorem aG.trs_at{l:List aG}{k:Nat}(h:k<l.length):(aG.trs l)[k]?=some (aP l k).cs:=by rw [gL h];exact aG.trs_cs h
instance:Inhabited bH:=⟨.mk ⟨#[]⟩ [] default⟩
theorem bH.trs_at{l:List bH}{k:Nat}(h:k<l.length):(bH.trs l)[k]?=some (aP l k).cs:=by rw [gL h];exact bH.trs_cs h
instance:Inhabited aD:=⟨.mk ⟨#[]⟩ [] default false [] default⟩
theorem aD.trs_at{l:List aD}{k:Nat}(h:k<l.length):(aD.trs l)[k]?=some (aP l k).cs:=by rw [gL h];exact aD.trs_cs h
instance:Inhabited aQ:=⟨.mk ⟨#[]⟩ [] false false []⟩
theorem aQ.trs_at{l:List aQ}{k:Nat}(h:k<l.length):(aQ.trs l)[k]?=some (aP l k).cs:=by rw [gL h];exact aQ.trs_cs h
instance:Inhabited aC:=⟨.mk ⟨#[]⟩ []⟩
theorem aC.trs_part(l:List aC)(a b:Nat):((aC.trs l).take b).drop a=aC.trs ((l.take b).drop a):=by rw [aC.trs_map,aC.trs_map,List.map_drop,List.map_take]
theorem aC.trs_at{l:List aC}{k:Nat}(h:k<l.length):(aC.trs l)[k]?=some (aP l k).cs:=by rw [gL h];exact aC.trs_cs h
instance:Inhabited aI:=⟨.mk ⟨#[]⟩ [] []⟩
theorem aI.trs_at{l:List aI}{k:Nat}(h:k<l.length):(aI.trs l)[k]?=some (aP l k).cs:=by rw [gL h];exact aI.trs_cs h
instance:Inhabited aE:=⟨.mk ⟨#[]⟩ default⟩
theorem aE.trs_at{l:List aE}{k:Nat}(h:k<l.length):(aE.trs l)[k]?=some (aP l k).cs:=by rw [gL h];exact aE.trs_cs h
instance:Inhabited aM:=⟨.mk ⟨#[]⟩ [] default⟩
theorem aM.trs_at{l:List aM}{k:Nat}(h:k<l.length):(aM.trs l)[k]?=some (aP l k).cs:=by rw [gL h];exact aM.trs_cs h
instance:Inhabited aJ:=⟨.mk ⟨#[]⟩ [] default [] false false default []⟩
theorem aJ.trs_at{l:List aJ}{k:Nat}(h:k<l.length):(aJ.trs l)[k]?=some (aP l k).cs:=by rw [gL h];exact aJ.trs_cs h
instance:Inhabited aR:=⟨.mk ⟨#[]⟩ default⟩
theorem aR.trs_at{l:List aR}{k:Nat}(h:k<l.length):(aR.trs l)[k]?=some (aP l k).cs:=by rw [gL h];exact aR.trs_cs h
instance:Inhabited aL:=⟨.mk ⟨#[]⟩ [] [] [] default default⟩
theorem aL.trs_at{l:List aL}{k:Nat}(h:k<l.length):(aL.trs l)[k]?=some (aP l k).cs:=by rw [gL h];exact aL.trs_cs h
instance:Inhabited aK:=⟨.mk ⟨#[]⟩ [] [] [] [] []⟩
theorem aK.trs_at{l:List aK}{k:Nat}(h:k<l.length):(aK.trs l)[k]?=some (aP l k).cs:=by rw [gL h];exact aK.trs_cs h
instance:Inhabited aF:=⟨.mk []⟩
theorem aF.trs_at{l:List aF}{k:Nat}(h:k<l.length):(aF.trs l)[k]?=some (aP l k).cs:=by rw [gL h];exact aF.trs_cs h
instance:Inhabited rW:=⟨.mk default []⟩
instance:Inhabited a8:=⟨.mk 0 0 default []⟩
theorem a8.trs_at{l:List a8}{k:Nat}(h:k<l.length):(a8.trs l)[k]?=some (aP l k).cs:=by rw [gL h];exact a8.trs_cs h
instance:Inhabited aH:=⟨.mk default 0 []⟩
theorem aH.trs_at{l:List aH}{k:Nat}(h:k<l.length):(aH.trs l)[k]?=some (aP l k).cs:=by rw [gL h];exact aH.trs_cs h
instance:Inhabited cS:=⟨.mk ⟨#[]⟩ 0 0 0 false⟩
instance:Inhabited cA:=⟨.mk [] [] []⟩
theorem cA.trs_at{l:List cA}{k:Nat}(h:k<l.length):(cA.trs l)[k]?=some (aP l k).cs:=by rw [gL h];exact cA.trs_cs h
instance:Inhabited bJ:=⟨.mk default []⟩
theorem bJ.trs_at{l:List bJ}{k:Nat}(h:k<l.length):(bJ.trs l)[k]?=some (aP l k).cs:=by rw [gL h];exact bJ.trs_cs h
end Go.Proofs.YtfcoaagbccmahaaGreat

namespace Go.Proofs.YtfcoaagbccmahaaGreat
open Go.RowKit Go.WalkArith Go.IntWalk Go.WideShapes
section
variable {P:Program} {C:lL} {n:Nat} {s:AS} {o:Oper}
theorem a5.buildSliceB{T E sz by_ len:Nat}{parts:Array (Nat×Operand)}{ps:List (Nat×List PV)}{zs cs:List PV}(ho:o.op= .buildSlice T len parts)(hd:bA o.dst n=true)(hT:elemOf? P T=some (E,sz,by_))(hz:fV P E=some zs)(hp:jR s parts.toList=some ps)
 (hc:nV (fun i=>some (i*sz,sz)) (List.replicate len zs).flatten ps=some cs) (hcl:cs.length=len*sz) (hsz:0<sz) (hzl:zs.length=sz) (hsm:len*sz≤16777216):
 a5 P C n o s ((⟨s.env,s.st.addBox ⟨E,cs⟩⟩:AS).putO o.dst (.bsl s.st.boxes.length len)):=
 a5.run hd (s1:=⟨s.env,s.st.addBox ⟨E,cs⟩⟩) (fun m a w h=>by
  obtain⟨us,h1,h2,h3⟩:=a5.buildSlice_run ho hT hz hp hc hcl hsz hzl hsm h
  exact⟨_,_,_,h1,CU (x:=⟨E,cs⟩),GN (x:=⟨E,cs⟩) h.sto h2,⟨⟨E,cs⟩,by simp [cM.addBox]⟩,by simp [bR]⟩) rfl
theorem a5.buildSliceLE{T E sz by_ len:Nat}{parts:Array (Nat×Operand)}{ps:List (Nat×List PV)}{zs cs:List PV}{es es':List (List Tr)}(ho:o.op= .buildSlice T len parts)(hd:bA o.dst n=true)(hT:elemOf? P T=some (E,sz,by_))(hz:fV P E=some zs)(hp:jR s parts.toList=some ps)
 (hc:nV (fun i=>some (i*sz,sz)) (List.replicate len zs).flatten ps=some cs) (hle:qA cs (es.flatten.map PV.t)) (hel:es.length=len) (hes: ∀e∈es,e.length=sz) (hsz:0<sz) (hzl:zs.length=sz) (hsm:len*sz≤16777216) (he:es=es'):
 a5 P C n o s (s.putO o.dst (.lit sz es')):=he ▸ a5.buildSliceL ho hd hT hz hp hc hle hel hes hsz hzl hsm
theorem a5.indexB{T E sz by_ k N i:Nat}{x y:Operand}(ho:o.op= .indexAddr T x y)(hd:bA o.dst n=true)(hx:s.ev x=some (.bsl k N))(hy:s.ev y=some (.t (.leaf (.int .i64 (i:Int)))))(hi:i<N)(hT:elemOf? P T=some (E,sz,by_)):
 a5 P C n o s (s.putO o.dst (.ptr k (i*sz))):=
 a5.quiet (cE hd) fun m a w h=>by
  obtain⟨hb,hv⟩:=h.eval hx
  have h6:=(b5.leaf_eq (h.eval hy)).1
  refine⟨.pointer (some ⟨m.ρ k,0+i*sz,none⟩),?_,hb,by rw [Nat.zero_add]⟩
  unfold execOp
  simp only [ho,hv,h6,Sem.run_bind,run_indexAt' hT hi,Result.andThen_ok]
  rfl
theorem EI{T E sz by_:Nat}{x y:Operand}{es1 es2:List (List Tr)}{p:PV}(ho:o.op= .call { callee:= .builtin .append,args:= #[x,y],argTypes:= #[T,T] })
 (hx:s.ev x=some (.lit sz es1)) (hy:s.ev y=some p) (hp:jK p=some (sz,es2)) (h1: ∀e∈es1,e.length=sz) (h2: ∀e∈es2,e.length=sz) (hne:es2≠ []) (hsz:0<sz)
 (hT:elemOf? P T=some (E,sz,by_)) (hz:(P.info? E).bind (fun i=>i.zero.map (fun z=>z.cells.size))=some sz) (hb:0<by_) (hlen:(es1.length+es2.length)*by_≤140737488355328) {m:iF} {a:Act} {w:World} (h:RA C n s m a w):
 ∃c cur w1,(execOp a.eval o).run P w= .ok (.value (.slice (some ⟨w.heap.size,0,none⟩) (es1.length+es2.length) c)) w1∧GQ w w1∧OB w1 w.heap.size E cur∧es1.length+es2.length≤c∧c≤maxLen∧
  (∀q e,(es1++es2)[q]?=some e→ ∀j d,e[j]?=some d→ ∃v,cur[q*sz+j]?=some v∧b5 (iZ C.av s.st m) w d v):=by
 obtain⟨i,hu,hi,hs,hby⟩:=elemOf?.spec hT
 obtain⟨hr1,ad,hv1⟩:=h.eval hx
 have hr2:=tC hp (h.eval hy)
 obtain⟨b,off,c2,news,hv2,hnl,hnews,hone,hnd⟩:=hr2.news h2 hne hsz
 have hpos2:0<es2.length:=List.length_pos_iff.2 hne
 have hlen:(es1.length+es2.length)*i.bytes≤140737488355328:=by rw [hby];exact hlen
 have h63:es1.length+es2.length≤140737488355328:=Nat.le_trans (Nat.le_mul_of_pos_right _ (by omega)) hlen
 have hrun: ∀v w1,(Builtin.append_ #[T,T] o.type #[a.eval x,a.eval y]).run P w= .ok v w1→(execOp a.eval o).run P w= .ok (.value v) w1:=fun v w1 hr=>by
  unfold execOp
  simp only [ho,resolve,invoke,builtin,Sem.run_bind,Sem.run_pure,Result.andThen_ok,List.map_toArray,List.map_cons,List.map_nil,hr]
 cases hzz:i.zero with
 |none=>simp [hi,hzz] at hz
 |some z=>
  have fin: ∀(olds:List Value) (cur:Array Value) (Z:List Value),cur.toList=olds++news++Z→olds.length=es1.length*sz→(∀i e,es1[i]?=some e→ ∀j d,e[j]?=some d→ ∃v,olds[i*sz+j]?=some v∧b5 (iZ C.av s.st m) w d v)→
   ∀q e,(es1++es2)[q]?=some e→ ∀j d,e[j]?=some d→ ∃v,cur[q*sz+j]?=some v∧b5 (iZ C.av s.st m) w d v:=fun olds cur Z hcur hol hod q e hq j d hj=>by
   rw [← Array.getElem?_toList,hcur,List.append_assoc]
   by_cases hlt:q<es1.length
   ·rw [List.getElem?_append_left hlt] at hq
    obtain⟨v,hv,hr⟩:=hod q e hq j d hj
    exact⟨v,by rw [List.getElem?_append_left (cR hv)];exact hv,hr⟩
   ·rw [List.getElem?_append_right (by omega)] at hq
    obtain⟨v,hv,hr⟩:=hnd _ e hq j d hj
    refine⟨v,?_,hr⟩
    have e1:q*sz+j=es1.length*sz+((q-es1.length)*sz+j):=by
     rw [← Nat.add_assoc,← Nat.add_mul]
     congr 2
     omega
    rw [e1,← hol,List.getElem?_append_right (by omega),Nat.add_sub_cancel_left,List.getElem?_append_left (cR hv)]
    exact hv
  have grow: ∀(A:Addr) (olds:List Value),ad=some A→olds.length=es1.length*sz→(∀j v,olds[j]?=some v→w.cell? (A.add j)=some v)→(∀i e,es1[i]?=some e→ ∀j d,e[j]?=some d→ ∃v,olds[i*sz+j]?=some v∧b5 (iZ C.av s.st m) w d v)→
   ∃c cur w1,(execOp a.eval o).run P w= .ok (.value (.slice (some ⟨w.heap.size,0,none⟩) (es1.length+es2.length) c)) w1∧GQ w w1∧OB w1 w.heap.size E cur∧es1.length+es2.length≤c∧c≤maxLen∧
    (∀q e,(es1++es2)[q]?=some e→ ∀j d,e[j]?=some d→ ∃v,cur[q*sz+j]?=some v∧b5 (iZ C.av s.st m) w d v):=fun A olds hA hol hold hod=>by
   subst hA
   have happ:=run_append_grow (P:=P) w T o.type E i z hu hi hzz A es1.length es1.length olds (by rw [hs];exact hol) hold ⟨b,off,none⟩ es2.length c2 news (by rw [hnl,hs]) hnews (by omega) (by omega) (growslice_fits (by omega) hlen)
   rw [← hv2,← hv1] at happ
   have hge:=grownCap_ge w (es1.length+es2.length) es1.length E
   exact⟨_,_,_,hrun _ _ happ,.alloc (.drew (.refl _)) _,OB.new w.drew E _,hge,grownCap_le_maxLen w _ _ _ (by unfold maxLen;omega),fin olds _ _ (by simp;rfl) hol hod⟩
  by_cases he:es1= []
  ·cases ad with
   |none=>
    subst he
    have happ:=run_append_nil (P:=P) w T o.type E i z hu hi hzz ⟨b,off,none⟩ es2.length c2 news (by rw [hnl,hs]) hnews (by omega) (by omega) (by simp only [List.length_nil,Nat.zero_add] at hlen;omega)
    have hv1':a.eval x= .slice none 0 0:=hv1
    rw [← hv2,← hv1'] at happ
    have hge:=grownCap_ge w es2.length 0 E
    have hf:=fin [] (news.toArray++Builtin.zeroCells z.cells (grownCap w es2.length 0 E-es2.length)) (Builtin.zeroCells z.cells (grownCap w es2.length 0 E-es2.length)).toList (by simp) (by simp) (fun i e h=>by simp at h)
    have hcm:grownCap w es2.length 0 E≤maxLen:=grownCap_le_maxLen w _ _ _ (by unfold maxLen;omega)
    simp only [List.length_nil,Nat.zero_add,List.nil_append] at hf ⊢
    exact⟨_,_,_,hrun _ _ happ,.alloc (.drew (.refl _)) _,OB.new w.drew E _,by simpa using hge,hcm,hf⟩
   |some A=>
    subst he
    exact grow A [] rfl (by simp) (fun j v h=>by simp at h) (fun i e h=>by simp at h)
  ·obtain⟨b1,off1,c1,olds,hv1',hol,hold,-,hod⟩:=hr1.news h1 he hsz
   have hva:=hv1.symm.trans hv1'
   injection hva with e1 e2 e3
   exact grow _ olds e1 hol hold hod
theorem a5.appendLit{T E sz by_:Nat}{x y:Operand}{es1 es2 es3:List (List Tr)}{p:PV}(ho:o.op= .call { callee:= .builtin .append,args:= #[x,y],argTypes:= #[T,T] })(hd:bA o.dst n=true)
 (hx:s.ev x=some (.lit sz es1)) (hy:s.ev y=some p) (hp:jK p=some (sz,es2)) (h1: ∀e∈es1,e.length=sz) (h2: ∀e∈es2,e.length=sz) (hne:es2≠ []) (hsz:0<sz)
 (hT:elemOf? P T=some (E,sz,by_)) (hz:(P.info? E).bind (fun i=>i.zero.map (fun z=>z.cells.size))=some sz) (hb:0<by_) (hlen:(es1.length+es2.length)*by_≤140737488355328) (h3:es1++es2=es3):
 a5 P C n o s (s.putO o.dst (.t (.row sz es3))):=by
 subst h3
 refine a5.quietX hd fun m a w h=>?_
 obtain⟨c,cur,w1,hr,hX,hob,hc,hm,hget⟩:=EI ho hx hy hp h1 h2 hne hsz hT hz hb hlen h
 refine⟨_,w1,hr,hX,?_⟩
 have:=b5.row (ok:=iZ C.av s.st m) (w:=w1) (es:=es1++es2) (sz:=sz) (a:=some ⟨w.heap.size,0,none⟩) (cap:=c) (fun q j=>(cur[q*sz+j]?).getD undef) (by rw [List.length_append];exact hc) hm (fun _=>⟨w.heap.size,0,rfl,hob.lt,fun q e hq j d hd=>⟨MH h.sto (Nat.le_refl _) _,?_⟩⟩) (fun q e hq j d hd=>?_)
 ·rw [List.length_append] at this
  exact this
 ·obtain⟨v,hv,-⟩:=hget q e hq j d hd
  rw [Nat.zero_add,hob.cell,hv]
  rfl
 ·obtain⟨v,hv,hr⟩:=hget q e hq j d hd
  rw [hv]
  exact b5.ext hr hX
theorem KX{α:Type}{sz:Nat}(hsz:0<sz): ∀ {es:List (List α)} {k:Nat} {d:α},(∀e∈es,e.length=sz)→es.flatten[k]?=some d→ ∃e,es[k/sz]?=some e∧e[k%sz]?=some d
 | [],k,d,_,h=>by simp at h
 |e::es,k,d,hl,h=>by
  have he:=hl e (by simp)
  rw [List.flatten_cons] at h
  by_cases hk:k<sz
  ·rw [List.getElem?_append_left (by omega)] at h
   exact⟨e,by rw [Nat.div_eq_of_lt hk];rfl,by rw [Nat.mod_eq_of_lt hk];exact h⟩
  ·rw [List.getElem?_append_right (by omega),he] at h
   obtain⟨e2,h1,h2⟩:=KX hsz (fun e he=>hl e (by simp [he])) h
   obtain⟨j,rfl⟩: ∃j,k=j+sz:=⟨k-sz,by omega⟩
   rw [Nat.add_sub_cancel] at h1 h2
   exact⟨e2,by rw [Nat.add_div_right _ hsz];exact h1,by rw [Nat.add_mod_right];exact h2⟩
theorem a5.appendLitB{T E sz by_:Nat}{x y:Operand}{es1 es2:List (List Tr)}{cs:List PV}{p:PV}{len:Nat}(ho:o.op= .call { callee:= .builtin .append,args:= #[x,y],argTypes:= #[T,T] })(hd:bA o.dst n=true)
 (hx:s.ev x=some (.lit sz es1)) (hy:s.ev y=some p) (hp:jK p=some (sz,es2)) (h1: ∀e∈es1,e.length=sz) (h2: ∀e∈es2,e.length=sz) (hne:es2≠ []) (hsz:0<sz)
 (hT:elemOf? P T=some (E,sz,by_)) (hz:(P.info? E).bind (fun i=>i.zero.map (fun z=>z.cells.size))=some sz) (hb:0<by_) (hlen:(es1.length+es2.length)*by_≤140737488355328) (hcs:(es1++es2).flatten.map PV.t=cs) (hl:es1.length+es2.length=len):
 a5 P C n o s ((⟨s.env,s.st.addBox ⟨E,cs⟩⟩:AS).putO o.dst (.gsl s.st.boxes.length len)):=by
 subst hcs hl
 refine a5.run hd (s1:=⟨s.env,s.st.addBox ⟨E,(es1++es2).flatten.map PV.t⟩⟩) (fun m a w h=>?_) rfl
 obtain⟨c,cur,w1,hr,hX,hob,hc,hm,hget⟩:=EI ho hx hy hp h1 h2 hne hsz hT hz hb hlen h
 have hes: ∀e∈es1++es2,e.length=sz:=fun e he=>(List.mem_append.1 he).elim (h1 e) (h2 e)
 have hfl: ∀(k:Nat) d,(es1++es2).flatten[k]?=some d→ ∃v,cur[k]?=some v∧b5 (iZ C.av s.st m) w d v:=fun k d hk=>by
  obtain⟨e,q1,q2⟩:=KX hsz hes hk
  obtain⟨v,hv,hrv⟩:=hget _ e q1 _ d q2
  rw [Nat.div_add_mod'] at hv
  exact⟨v,hv,hrv⟩
 have hrvl:fL (iZ C.av s.st m) s.st m w ((es1++es2).flatten.map PV.t) ((List.range' 0 (es1++es2).flatten.length).map fun k=>(cur[k]?).getD undef):=fL.of_fn 0 fun k d hk=>by
  obtain⟨v,hv,hrv⟩:=hfl k d hk
  rw [Nat.zero_add,hv]
  exact hrv
 have hE:Ev s.st m w (s.st.addBox ⟨E,(es1++es2).flatten.map PV.t⟩) ⟨wC m.ρ s.st.boxes.length w.heap.size,m.γ⟩ w1:=I5 hX (Nat.le_refl _)
 have hobp:UN w1 w.heap.size E ((List.range' 0 (es1++es2).flatten.length).map fun k=>(cur[k]?).getD undef):=by
  refine⟨cur.toList.drop (es1++es2).flatten.length,?_⟩
  have e1:((List.range' 0 (es1++es2).flatten.length).map fun k=>(cur[k]?).getD undef)++cur.toList.drop (es1++es2).flatten.length=cur.toList:=by
   have hle:(es1++es2).flatten.length≤cur.toList.length:=by
    rcases Nat.eq_zero_or_pos (es1++es2).flatten.length with h0|h0
    ·omega
    ·obtain⟨v,hv,-⟩:=hfl ((es1++es2).flatten.length-1) _ (List.getElem?_eq_getElem (by omega))
     rw [← Array.getElem?_toList] at hv
     have:=cR hv
     omega
   refine List.ext_getElem? fun k=>?_
   by_cases hk:k<(es1++es2).flatten.length
   ·rw [List.getElem?_append_left (by simpa using hk),List.getElem?_map,List.getElem?_range' (by simpa using hk)]
    obtain⟨v,hv,-⟩:=hfl k _ (List.getElem?_eq_getElem hk)
    simp only [Option.map_some,Nat.zero_add,Nat.one_mul,hv,Option.getD_some]
    rw [← Array.getElem?_toList] at hv
    exact hv.symm
   ·rw [List.getElem?_append_right (by simpa using Nat.le_of_not_lt hk),List.getElem?_drop]
    congr 1
    simp
    simp at hk
    omega
  rw [e1]
  exact hob
 refine⟨_,_,w1,hr,hE,O0 h.sto hX (Nat.le_refl _) hobp (fL.mono hE _ _ hrvl),⟨⟨E,(es1++es2).flatten.map PV.t⟩,by simp [cM.addBox]⟩,c,hc,hm,by simp [bR]⟩
theorem a5.indexG{T E sz by_ k N i:Nat}{x y:Operand}(ho:o.op= .indexAddr T x y)(hd:bA o.dst n=true)(hx:s.ev x=some (.gsl k N))(hy:s.ev y=some (.t (.leaf (.int .i64 (i:Int)))))(hi:i<N)(hT:elemOf? P T=some (E,sz,by_)):
 a5 P C n o s (s.putO o.dst (.ptr k (i*sz))):=
 a5.quiet (cE hd) fun m a w h=>by
  obtain⟨hb,c,hc,hm,hv⟩:=h.eval hx
  have h6:=(b5.leaf_eq (h.eval hy)).1
  refine⟨.pointer (some ⟨m.ρ k,0+i*sz,none⟩),?_,hb,by rw [Nat.zero_add]⟩
  unfold execOp
  simp only [ho,hv,h6,Sem.run_bind,run_indexAt' hT hi,Result.andThen_ok]
  rfl
mutual
inductive O8 (k sz:Nat) (es:List (List Tr)):PV→PV→Prop
 |le {p q:PV}:PV.Le p q→O8 k sz es p q
 |bsl {n:Nat}:es.length=n→O8 k sz es (.bsl k n) (.t (.row sz es))
 |bslL {n:Nat}:es.length=n→O8 k sz es (.bsl k n) (.lit sz es)
 |gsl {n:Nat}:es.length=n→O8 k sz es (.gsl k n) (.t (.row sz es))
 |agg {ps qs:List PV}:IT k sz es ps qs→O8 k sz es (.agg ps) (.agg qs)
inductive IT (k sz:Nat) (es:List (List Tr)):List PV→List PV→Prop
 |nil:IT k sz es [] []
 |cons {p q:PV} {ps qs:List PV}:O8 k sz es p q→IT k sz es ps qs→IT k sz es (p::ps) (q::qs)
end
def RX(k sz:Nat)(es:List (List Tr))(st':cM):List (Option cL)→List (Option cL)→Prop
 |_,[]=>True
 |_::xs,none::ys=>RX k sz es st' xs ys
 |some x::xs,some y::ys=>(x.ty=y.ty∧IT k sz es x.cells y.cells∧k8 st' y.cells=true)∧RX k sz es st' xs ys
 |_,_=>False
theorem RX.get{k sz:Nat}{es:List (List Tr)}{st':cM}: ∀ {xs ys:List (Option cL)},RX k sz es st' xs ys→ ∀(i:Nat) (y:cL),ys[i]?=some (some y)→ ∃x:cL,xs[i]?=some (some x)∧x.ty=y.ty∧IT k sz es x.cells y.cells∧k8 st' y.cells=true
 |_,[],_,i,y,h=>by simp at h
 | [],none::ys,hl,i,y,h=>hl.elim
 |x::xs,none::ys,hl,0,y,h=>by simp at h
 |none::xs,none::ys,hl,i+1,y,h=>by simpa using RX.get (xs:=xs) hl i y (by simpa using h)
 |some _::xs,none::ys,hl,i+1,y,h=>by simpa using RX.get (xs:=xs) hl i y (by simpa using h)
 |some x::xs,some z::ys,hl,0,y,h=>by
  simp at h
  subst h
  exact⟨x,rfl,hl.1⟩
 |some x::xs,some z::ys,hl,i+1,y,h=>by simpa using RX.get (xs:=xs) hl.2 i y (by simpa using h)
 | [],some _::_,hl,_,_,_=>hl.elim
 |none::_,some _::_,hl,_,_,_=>hl.elim
def aa2(k sz:Nat)(es:List (List Tr))(s:AS)(st':cM):List (Nat×PV)→Prop
 | []=>True
 |(i,q)::l=>(∃p,s.lk i=some p∧O8 k sz es p q∧PV.okIn st' q=true)∧aa2 k sz es s st' l
theorem aa2.get{k sz:Nat}{es:List (List Tr)}{s:AS}{st':cM}: ∀ {l:List (Nat×PV)} {i:Nat} {q:PV},aa2 k sz es s st' l→l.lookup i=some q→ ∃p,s.lk i=some p∧O8 k sz es p q∧PV.okIn st' q=true
 | [],_,_,_,h=>by simp at h
 |(j,p)::l,i,q,hl,h=>by
  rw [List.lookup_cons] at h
  by_cases hik:i=j
  ·subst hik
   simp at h
   subst h
   exact hl.1
  ·rw [show(i==j)=false by simp [hik]] at h
   exact aa2.get hl.2 h
mutual
theorem O8.rv{k sz:Nat}{es:List (List Tr)}{ok ok':Nat→Nat→Prop}{st st':cM}{m:iF}{w:World}(hle: ∀p v,PV.okIn st' p=true→RV ok st m w p v→RV ok' st' m w p v)(hb: ∀v c,es.length≤c→c≤maxLen→v= .slice (some ⟨m.ρ k,0,none⟩) es.length c→b5 ok' w (.row sz es) v)(hm:es.length≤maxLen):
 ∀ {p q:PV} {v:Value},O8 k sz es p q→PV.okIn st' q=true→RV ok st m w p v→RV ok' st' m w q v
 |_,_,_,.le h,hk,hr=>hle _ _ hk (h.rv hr)
 |_,_,_,.bsl h,_,hr=>hb _ _ (Nat.le_refl _) hm (h ▸ hr.2)
 |_,_,_,.bslL h,_,hr=>⟨hb _ _ (Nat.le_refl _) hm (h ▸ hr.2),_,h ▸ hr.2⟩
 |_,_,_,.gsl h,_,hr=>by
  obtain⟨-,c,hc,hcm,hv⟩:=hr
  subst h
  exact hb _ c hc hcm hv
 |_,_,_,.agg h,hk,hr=>by
  obtain⟨vs,hv,h1⟩:=hr
  exact⟨vs,hv,IT.rv hle hb hm h hk h1⟩
theorem IT.rv{k sz:Nat}{es:List (List Tr)}{ok ok':Nat→Nat→Prop}{st st':cM}{m:iF}{w:World}(hle: ∀p v,PV.okIn st' p=true→RV ok st m w p v→RV ok' st' m w p v)(hb: ∀v c,es.length≤c→c≤maxLen→v= .slice (some ⟨m.ρ k,0,none⟩) es.length c→b5 ok' w (.row sz es) v)(hm:es.length≤maxLen):
 ∀ {ps qs:List PV} {vs:List Value},IT k sz es ps qs→k8 st' qs=true→fL ok st m w ps vs→fL ok' st' m w qs vs
 |_,_,[],.nil,_,h=>trivial
 |_,_,_::_,.nil,_,h=>h.elim
 |_,_,[],.cons _ _,_,h=>h.elim
 |_,_,_::_,.cons k1 k2,hk,h=>by
  simp only [k8,Bool.and_eq_true] at hk
  exact⟨O8.rv hle hb hm k1 hk.1 h.1,IT.rv hle hb hm k2 hk.2 h.2⟩
end
theorem Wk.freeze{k sz:Nat}{bx:cL}{es:List (List Tr)}{s':AS}(hb:s.st.boxes[k]?=some (some bx))(hc:qA bx.cells (es.flatten.map PV.t))(hes: ∀e∈es,e.length=sz)(hm:es.length≤16777216)
 (hbox:RX k sz es s'.st s.st.boxes s'.st.boxes) (hnone:s'.st.boxes[k]?=some none) (hr:s'.st.rows=s.st.rows) (hp:gR C.st s'.st) (he:aa2 k sz es s s'.st s'.env):Wk C n s s':=fun m a w h=>by
 have hsub:xW s.st s'.st:=⟨fun i x hi=>by obtain⟨y,hy,-⟩:=hbox.get i x hi;exact⟨y,hy⟩,fun r row hrow=>by rw [hr] at hrow;exact hrow⟩
 obtain⟨vs,hob,hvs⟩:=h.sto.box k bx hb
 have hts:=qA.rv hc hvs
 have hokk: ∀o,iZ C.av s'.st m (m.ρ k) o:=fun o=>⟨h.sto.avb k bx hb o,fun i x hi=>by
  obtain⟨y,hy,-⟩:=hbox.get i x hi
  by_cases hik:i=k
  ·subst hik
   rw [hnone] at hi
   cases hi
  ·exact h.sto.binj i k y bx hy hb hik,fun r row g c hrow hg e=>absurd e.symm (h.sto.br k bx r row g c hb (hsub.rows r row hrow) hg)⟩
 have hmm:es.length≤maxLen:=by unfold maxLen;omega
 have hRep: ∀v c,es.length≤c→c≤maxLen→v= .slice (some ⟨m.ρ k,0,none⟩) es.length c→b5 (iZ C.av s'.st m) w (.row sz es) v:=by
  rintro _ c hc hcm rfl
  have hget: ∀q e,es[q]?=some e→ ∀j d,e[j]?=some d→ ∃v,vs[q*sz+j]?=some v∧b5 (iZ C.av s.st m) w d v:=fun q e hq j d hj=>by
   have hf:=qC (sz:=sz) hes hq hj
   obtain⟨v,hv,hrv⟩:=hts.get (j:=q*sz+j) (p:= .t d) (by rw [List.getElem?_map,hf];rfl)
   exact⟨v,hv,hrv⟩
  refine b5.row (fun q j=>(vs[q*sz+j]?).getD undef) hc hcm (fun _=>⟨m.ρ k,0,rfl,hob.lt,fun q e hq j d hd=>⟨hokk _,?_⟩⟩) (fun q e hq j d hd=>?_)
  ·obtain⟨v,hv,-⟩:=hget q e hq j d hd
   rw [Nat.zero_add,hob.cell hv,hv]
   rfl
  ·obtain⟨v,hv,hrr⟩:=hget q e hq j d hd
   rw [hv]
   exact b5.mono hrr (Nat.le_refl _) (fun _ _ _ k=>hsub.ok k) (fun _ _ _ _=>rfl)
 have hle: ∀p v,PV.okIn s'.st p=true→RV (iZ C.av s.st m) s.st m w p v→RV (iZ C.av s'.st m) s'.st m w p v:=fun p v=>hsub.rv p v
 refine⟨m,h.dfr,h.tsz,?_,fun i q hq=>?_,?_⟩
 ·exact {
   box:=fun i x hi=>by
    obtain⟨y,hy,ht,hl,hk⟩:=hbox.get i x hi
    obtain⟨us,k1,k2⟩:=h.sto.box i y hy
    exact⟨us,by rw [← ht];exact k1,IT.rv hle hRep hmm hl hk k2⟩
   binj:=fun i i' x x' hi hi'=>by
    obtain⟨y,hy,-⟩:=hbox.get i x hi
    obtain⟨y',hy',-⟩:=hbox.get i' x' hi'
    exact h.sto.binj i i' y y' hy hy'
   row:=fun r row hrow=>by
    obtain⟨k1,k2,k3⟩:=h.sto.row r row (hsub.rows r row hrow)
    refine⟨k1,k2,?_⟩
    rcases k3 with k3|⟨g,c,cur,q1,q2,q3,q4,q5,q6⟩
    ·exact .inl k3
    ·exact .inr ⟨g,c,cur,q1,q2,q3,q4,q5,b5.mono q6 (Nat.le_refl _) (fun _ _ _ k=>hsub.ok k) (fun _ _ _ _=>rfl)⟩
   rinj:=fun r r' row row' g c c' hi hi'=>h.sto.rinj r r' row row' g c c' (hsub.rows r row hi) (hsub.rows r' row' hi')
   br:=fun i x r row g c hi hrow=>by
    obtain⟨y,hy,-⟩:=hbox.get i x hi
    exact h.sto.br i y r row g c hy (hsub.rows r row hrow)
   avlt:=h.sto.avlt
   avr:=fun r row g c hrow=>h.sto.avr r row g c (hsub.rows r row hrow)
   avb:=fun i x hi=>by
    obtain⟨y,hy,-⟩:=hbox.get i x hi
    exact h.sto.avb i y hy }
 ·obtain⟨p,h1,h2,h3⟩:=he.get hq
  obtain⟨v,hv,hrv⟩:=h.env i p h1
  exact⟨v,hv,O8.rv hle hRep hmm h2 h3 hrv⟩
 ·exact {
   os:=h.ev.os
   tape:=h.ev.tape
   output:=h.ev.output
   size:=h.ev.size
   blk:=h.ev.blk
   cell:=h.ev.cell
   okk:=fun b o hb ho=>(hsub.ok (av:=fun _ _=>False) ⟨id,h.ev.okk b o hb ho⟩).2
   live:=fun i x hi=>⟨hp.1 i x hi,(h.ev.live i x hi).2⟩
   fresh:=fun i x' hi=>by
    obtain⟨y,hy,-⟩:=hbox.get i x' hi
    exact h.ev.fresh i y hy
   rowl:=fun r row hrow=>by
    obtain⟨row',hr'⟩:=hp.2 r row hrow
    obtain⟨row2,h1,h2⟩:=h.ev.rowl r row hrow
    have:=hsub.rows r row' hr'
    rw [h1] at this
    cases this
    exact⟨_,hr',h2⟩
   rfresh:=fun r row' g c hrow hg=>h.ev.rfresh r row' g c (hsub.rows r row' hrow) hg }
end
theorem Wk.freezeE{C:lL}{n:Nat}{s:AS}{k sz:Nat}{bx:cL}{es es':List (List Tr)}{s':AS}(heq:es=es')(hb:s.st.boxes[k]?=some (some bx))(hc:qA bx.cells (es.flatten.map PV.t))(hes: ∀e∈es,e.length=sz)(hm:es.length≤16777216)
 (hbox:RX k sz es' s'.st s.st.boxes s'.st.boxes) (hnone:s'.st.boxes[k]?=some none) (hr:s'.st.rows=s.st.rows) (hp:gR C.st s'.st) (he:aa2 k sz es' s s'.st s'.env):Wk C n s s':=by
 subst heq
 exact Wk.freeze hb hc hes hm hbox hnone hr hp he
theorem c7{p:Prop}(h:p:=by(repeat' (first|exact O8.bsl rfl|exact O8.bslL rfl|exact O8.gsl rfl|exact IT.nil|apply IT.cons|exact O8.le (PV.Le.refl _)|exact O8.le (PV.Le.acc _ _ _)|exact O8.le (PV.Le.nil _)|exact O8.le (PV.Le.lit _ _)|exact O8.le (PV.Le.nilLit _)|apply O8.agg))):p:=h
end Go.Proofs.YtfcoaagbccmahaaGreat

namespace Go.Proofs.YtfcoaagbccmahaaGreat
open Go.RowKit Go.WalkArith Go.IntWalk Go.WideShapes
abbrev pI(x:Int):PV:= .t (.leaf (.int .i64 x))
abbrev pN(x:Nat):PV:= .t (.leaf (.int .i64 (x:Int)))
abbrev pU(x:UInt8):PV:= .t (.leaf (.int .u8 (x.toNat:Int)))
abbrev pS(x:ByteArray):PV:= .t (.leaf (.string x))
abbrev pB(x:Bool):PV:= .t (.leaf (.bool x))
abbrev rS(l:List ByteArray):PV:= .t (.row 1 (aW l))
abbrev rI(l:List Int):PV:= .t (.row 1 (lQ l))
abbrev rU(l:List UInt8):PV:= .t (.row 1 (iY l))
abbrev aS(l:List ByteArray)(r:Nat):PV:= .acc 1 (aW l) r
abbrev dC(d:DS):List PV:= [.t (.row 1 (iY d.code)),.t (.leaf (.int .i64 (d.p:Int))),.t (.leaf (.int .i64 d.h))]
class TC (α:Type) [Inhabited α] where
 cs:α→List Tr
 trs:List α→List (List Tr)
 sz:Nat
 at_: ∀ {l:List α} {k:Nat},k<l.length→(trs l)[k]?=some (cs (aP l k))
 len: ∀l:List α,(trs l).length=l.length
 map: ∀l:List α,trs l=l.map cs
 csz: ∀a,(cs a).length=sz
instance:TC ByteArray:=⟨fun x=> [.leaf (.string x)],aW,1,acN,bI,fun _=>rfl,fun _=>rfl⟩
instance:TC Int:=⟨fun x=> [.leaf (.int .i64 x)],lQ,1,abU,fJ,fun _=>rfl,fun _=>rfl⟩
instance:TC UInt8:=⟨fun x=> [.leaf (.int .u8 (x.toNat:Int))],iY,1,X3,mZ,fun _=>rfl,fun _=>rfl⟩
section
variable {α:Type} [Inhabited α] [TC α]
theorem TC.all(l:List α): ∀e∈TC.trs l,e.length=TC.sz α:=fun e he=>by
 rw [TC.map] at he
 obtain⟨x,_,rfl⟩:=List.mem_map.1 he
 exact TC.csz x
theorem TC.app(a b:List α):TC.trs a++TC.trs b=TC.trs (a++b):=by rw [TC.map,TC.map,TC.map,List.map_append]
end
def Hd{β:Type}(m:Option β)(K:β→Prop):Prop:= ∃v,m=some v∧K v
section
variable {α β σ:Type} {K:β→Prop} {r:β}
theorem hd0{m:Option β}(h:m=some r):Hd m (fun v=>v=r):=⟨r,h,rfl⟩
theorem gdI{p:Prop}{x:Option β}(h:Hd (gd p x) K):p∧Hd x K:=by
 obtain⟨v,h1,h2⟩:=h
 by_cases hp:p
 ·rw [rR hp rfl] at h1;exact⟨hp,v,h1,h2⟩
 ·rw [gdF hp] at h1;cases h1
theorem bdI{o:Option α}{f:α→Option β}(h:Hd (bd o f) K): ∃a,o=some a∧Hd (f a) K:=by
 obtain⟨v,h1,h2⟩:=h
 cases o with
 |none=>cases h1
 |some a=>exact⟨a,rfl,v,h1,h2⟩
theorem cQ{G p:Prop}{x:Option β}(h:Hd (gd p x) K)(k:p→Hd x K→G):G:=k (gdI h).1 (gdI h).2
theorem bD{G:Prop}{o:Option α}{f:α→Option β}(h:Hd (bd o f) K)(k: ∀a,o=some a→Hd (f a) K→G):G:=by
 obtain⟨a,h1,h2⟩:=bdI h
 exact k a h1 h2
theorem eY{G:Prop}{A B:Type}{o:Option (A×B)}{f:A×B→Option β}(h:Hd (bd o f) K)(k: ∀a b,o=some (a,b)→Hd (f (a,b)) K→G):G:=bD h fun _=>k _ _
theorem PG{G:Prop}{A B C:Type}{o:Option (A×B×C)}{f:A×B×C→Option β}(h:Hd (bd o f) K)(k: ∀a b c,o=some (a,b,c)→Hd (f (a,b,c)) K→G):G:=bD h fun _=>k _ _ _
theorem ajV{G:Prop}{A B C D:Type}{o:Option (A×B×C×D)}{f:A×B×C×D→Option β}(h:Hd (bd o f) K)(k: ∀a b c d,o=some (a,b,c,d)→Hd (f (a,b,c,d)) K→G):G:=bD h fun _=>k _ _ _ _
theorem fI{G:Prop}{x:α}{f:α→Option β}(h:Hd (lt x f) K)(k: ∀y,y=x→Hd (f y) K→G):G:=k x rfl h
theorem wF{b:Bool}{x y:Option β}(h:Hd (sw b x y) K)(e:b=true):Hd x K:=by subst e;exact h
theorem wE{b:Bool}{x y:Option β}(h:Hd (sw b x y) K)(e:b=false):Hd y K:=by subst e;exact h
theorem xQ{v:β}(h:Hd (some v) K):K v:=by
 obtain⟨u,h1,h2⟩:=h
 cases h1
 exact h2
def SK(f:σ→Option β)(K:β→Prop):β⊕σ→Prop
 | .inl x=>K x
 | .inr s=>Hd (f s) K
theorem eR{m:Option (β⊕σ)}{f:σ→Option β}(h:Hd (so m f) K):Hd m (SK f K):=by
 obtain⟨v,h1,h2⟩:=h
 cases m with
 |none=>cases h1
 |some a=>
  refine⟨a,rfl,?_⟩
  cases a with
  |inl x=>cases h1;exact h2
  |inr s=>exact⟨v,h1,h2⟩
def LK(f:Nat→σ→Option (LR σ β))(n i:Nat)(K:β⊕σ→Prop):LR σ β→Prop
 | .next s=>Hd (loopN f (n-(i+1)) (i+1) s) K
 | .brk s=>K (.inr s)
 | .ret x=>K (.inl x)
def LW(f:σ→Option (LR σ β))(k:Nat)(K:β⊕σ→Prop):LR σ β→Prop
 | .next s=>Hd (loopW f k s) K
 | .brk s=>K (.inr s)
 | .ret x=>K (.inl x)
theorem skL{f:σ→Option β}{x:β}(h:SK f K (.inl x)):K x:=h
theorem YL{f:Nat→σ→Option (LR σ β)}{n i:Nat}{K:β⊕σ→Prop}{x:β}(h:LK f n i K (.ret x)):K (.inl x):=h
theorem lwR{f:σ→Option (LR σ β)}{k:Nat}{K:β⊕σ→Prop}{x:β}(h:LW f k K (.ret x)):K (.inl x):=h
theorem lnT{f:Nat→σ→Option (LR σ β)}{n i:Nat}{s:σ}{K:β⊕σ→Prop}(hl:i<n)(h:Hd (loopN f (n-i) i s) K):Hd (f i s) (LK f n i K):=by
 obtain⟨v,h1,h2⟩:=h
 rw [show n-i=(n-(i+1))+1 by omega,loopN] at h1
 cases hf:f i s with
 |none=>rw [hf] at h1;cases h1
 |some x=>
  rw [hf] at h1
  refine⟨x,rfl,?_⟩
  cases x with
  |next s'=>exact⟨v,h1,h2⟩
  |brk s'=>cases h1;exact h2
  |ret x=>cases h1;exact h2
theorem lnE{f:Nat→σ→Option (LR σ β)}{n i:Nat}{s:σ}{K:β⊕σ→Prop}(hl:n≤i)(h:Hd (loopN f (n-i) i s) K):K (.inr s):=by
 obtain⟨v,h1,h2⟩:=h
 rw [show n-i=0 by omega,loopN] at h1
 cases h1
 exact h2
theorem lwT{f:σ→Option (LR σ β)}{k:Nat}{s:σ}{K:β⊕σ→Prop}(h:Hd (loopW f k s) K): ∃k',k=k'+1∧Hd (f s) (LW f k' K):=by
 obtain⟨v,h1,h2⟩:=h
 cases k with
 |zero=>cases h1
 |succ k=>
  rw [loopW] at h1
  refine⟨k,rfl,?_⟩
  cases hf:f s with
  |none=>rw [hf] at h1;cases h1
  |some x=>
   rw [hf] at h1
   refine⟨x,rfl,?_⟩
   cases x with
   |next s'=>exact⟨v,h1,h2⟩
   |brk s'=>cases h1;exact h2
   |ret x=>cases h1;exact h2
end
section
variable {P:Program} {C:lL} {n:Nat} {s s':AS}
theorem KY{st':cM}(h:gR C.st st':=by first|exact RD (by assumption)|(refine dR (by assumption) ?_ ?_;(first|exact afY|exact iX rfl|exact afZ rfl|exact af0 rfl);exact Nat.le_of_ble_eq_true rfl)):gR C.st st':=h
theorem LF{st st':cM}(hb:wI st' st.boxes st'.boxes:=by repeat' (first|exact trivial|refine⟨⟨rfl,jH,rfl⟩,?_⟩))(hr:st.rows.take st'.rows.length=st'.rows:=by first|rfl|simp):oU st st':=oU.mk' hb hr
theorem wkA(hst:oU s.st s'.st:=by exact LF)(hp:gR C.st s'.st:=by exact KY)(he:QO s s'.st s'.env:=by repeat' (first|exact trivial|refine⟨⟨_,rfl,jH,rfl⟩,?_⟩)):Wk C n s s':=Wk.mk hst hp he
end
theorem AU{P:Program}{f:FuncId}{args:List PV}{pre:cM}{q:PV}{y d:DS}{T:TypeId}(hy:y=d)(h:cJ P f args pre (fun r t=>r=q∧t=DS.box T d)):cJ P f args pre (fun r t=>r=q∧t=DS.box T y):=by subst hy;exact h
theorem DY{P:Program}{f:FuncId}{args:List PV}{pre:cM}{x z:ByteArray}{y d:DS}{T:TypeId}(hy:y=d)(hx:x=z)(h:cJ P f args pre (fun r t=>r=pS z∧t=DS.box T d)):cJ P f args pre (fun r t=>r=pS x∧t=DS.box T y):=by subst hy hx;exact h
def af1{β σ:Type}(C:lL)(n:Nat)(I:σ→AS)(K:β⊕σ→Prop)(Q:Exit→AS→Prop):Exit→AS→Prop
 | .normal,s=> ∃v,K (.inr v)∧Wk C n s (I v)
 |e,s=>Q e s
def lpQ{β σ:Type}(C:lL)(n:Nat)(id:Nat)(I:Nat→σ→AS)(O:σ→AS)(f:Nat→σ→Option (LR σ β))(m i:Nat)(K:β⊕σ→Prop)(Q:Exit→AS→Prop):Exit→AS→Prop
 | .normal,s=>i<m∧ ∃v,Hd (loopN f (m-(i+1)) (i+1) v) K∧Wk C n s (I (i+1) v)
 | .exit j,s=>if j=id then ∃v,K (.inr v)∧Wk C n s (O v) else Q (.exit j) s
 |e,s=>Q e s
def lwQ{β σ:Type}(C:lL)(n:Nat)(id:Nat)(I:σ→AS)(O:σ→AS)(f:σ→Option (LR σ β))(k:Nat)(K:β⊕σ→Prop)(Q:Exit→AS→Prop):Exit→AS→Prop
 | .normal,s=> ∃v,Hd (loopW f k v) K∧Wk C n s (I v)
 | .exit j,s=>if j=id then ∃v,K (.inr v)∧Wk C n s (O v) else Q (.exit j) s
 |e,s=>Q e s
section
variable {P:Program} {C:lL} {n:Nat} {s:AS} {Q:Exit→AS→Prop} {β σ:Type}
theorem agJ{I:σ→AS}{K:β⊕σ→Prop}(hq:QC C n Q):QC C n (af1 C n I K Q):=fun e s s' h k=>by
 cases e with
 |normal=>obtain⟨v,h1,h2⟩:=k;exact⟨v,h1,h.trans h2⟩
 |_=>exact hq _ s s' h k
theorem ahM{id:Nat}{I:Nat→σ→AS}{O:σ→AS}{f:Nat→σ→Option (LR σ β)}{m i:Nat}{K:β⊕σ→Prop}(hq:QC C n Q):QC C n (lpQ C n id I O f m i K Q):=fun e s s' h k=>by
 cases e with
 |normal=>obtain⟨h0,v,h1,h2⟩:=k;exact⟨h0,v,h1,h.trans h2⟩
 |exit j=>
  simp only [lpQ] at k ⊢
  split
  ·rename_i hj;rw [if_pos hj] at k;obtain⟨v,h1,h2⟩:=k;exact⟨v,h1,h.trans h2⟩
  ·rename_i hj;rw [if_neg hj] at k;exact hq _ s s' h k
 |_=>exact hq _ s s' h k
theorem ahN{id:Nat}{I:σ→AS}{O:σ→AS}{f:σ→Option (LR σ β)}{m:Nat}{K:β⊕σ→Prop}(hq:QC C n Q):QC C n (lwQ C n id I O f m K Q):=fun e s s' h k=>by
 cases e with
 |normal=>obtain⟨v,h1,h2⟩:=k;exact⟨v,h1,h.trans h2⟩
 |exit j=>
  simp only [lwQ] at k ⊢
  split
  ·rename_i hj;rw [if_pos hj] at k;obtain⟨v,h1,h2⟩:=k;exact⟨v,h1,h.trans h2⟩
  ·rename_i hj;rw [if_neg hj] at k;exact hq _ s s' h k
 |_=>exact hq _ s s' h k
theorem qcA(h:QC C n Q:=by repeat' (first|exact agK|exact ahG|apply agJ|apply ahM|apply ahN|apply agL|apply ae7)):QC C n Q:=h
theorem m3{c:Code}{m:Option (β⊕σ)}{K:β⊕σ→Prop}(I:σ→AS)(H:Hd m K)(h:Hd m K→cF P C n c (af1 C n I K Q) s)(k: ∀v,K (.inr v)→Q .normal (I v))(hq:QC C n Q:=by exact qcA):cF P C n c Q s:=
 cF.mono (h H) fun e s' hc=>by
  cases e with
  |normal=>
   obtain⟨v,h1,h2⟩:=hc
   exact hq _ _ _ h2 (k v h1)
  |_=>exact hc
theorem ajW{I:σ→AS}{K:β⊕σ→Prop}{e:Exit}(h: ∃v,K (.inr v)∧Wk C n s (I v))(he:e= .normal:=by exact rfl):af1 C n I K Q e s:=by subst he;exact h
theorem bM{c:Code}{id:Nat}{f:Nat→σ→Option (LR σ β)}{m i0:Nat}{v0:σ}{K:β⊕σ→Prop}(I:Nat→σ→AS)(O:σ→AS)(H:Hd (loopN f (m-i0) i0 v0) K)
 (round: ∀i v,Hd (loopN f (m-i) i v) K→cF P C n c (lpQ C n id I O f m i K Q) (I i v)) (k: ∀v,K (.inr v)→Q .normal (O v)) (h0:Wk C n s (I i0 v0):=by exact wkA) (hq:QC C n Q:=by exact qcA):cF P C n (.block id (.loop c)) Q s:=by
 refine cF.block ?_;refine cF.loopJ (ι:=Nat×σ) (fun x=>Hd (loopN f (m-x.1) x.1 x.2) K) (fun x=>I x.1 x.2) (fun x=>m-x.1) (i0,v0) H h0 ?_;rintro⟨i,v⟩ hj
 refine cF.mono (round i v hj) fun e s' h=>?_
 cases e with
 |normal=>
  obtain⟨h1,v',h2,h3⟩:=h
  exact⟨(i+1,v'),h2,h3,by show m-(i+1)<m-i;omega⟩
 |exit j=>
  simp only [lpQ] at h
  show s9 id Q (.exit j) s'
  simp only [s9]
  split
  ·rename_i hj;rw [if_pos hj] at h;obtain⟨v',h1,h2⟩:=h;exact hq _ _ _ h2 (k v' h1)
  ·rename_i hj;rw [if_neg hj] at h;exact h
 |_=>exact h
theorem NN{c:Code}{id:Nat}{f:σ→Option (LR σ β)}{k0:Nat}{v0:σ}{K:β⊕σ→Prop}(I:σ→AS)(O:σ→AS)(H:Hd (loopW f k0 v0) K)
 (round: ∀k v,Hd (f v) (LW f k K)→cF P C n c (lwQ C n id I O f k K Q) (I v)) (k: ∀v,K (.inr v)→Q .normal (O v)) (h0:Wk C n s (I v0):=by exact wkA) (hq:QC C n Q:=by exact qcA):cF P C n (.block id (.loop c)) Q s:=by
 refine cF.block ?_;refine cF.loopJ (ι:=Nat×σ) (fun x=>Hd (loopW f x.1 x.2) K) (fun x=>I x.2) (fun x=>x.1) (k0,v0) H h0 ?_;rintro⟨i,v⟩ hj
 obtain⟨i',rfl,hj'⟩:=lwT (f:=f) (k:=i) (s:=v) hj
 refine cF.mono (round i' v hj') fun e s' h=>?_
 cases e with
 |normal=>
  obtain⟨v',h2,h3⟩:=h
  exact⟨(i',v'),h2,h3,by show i'<i'+1;omega⟩
 |exit j=>
  simp only [lwQ] at h
  show s9 id Q (.exit j) s'
  simp only [s9]
  split
  ·rename_i hj;rw [if_pos hj] at h;obtain⟨v',h1,h2⟩:=h;exact hq _ _ _ h2 (k v' h1)
  ·rename_i hj;rw [if_neg hj] at h;exact h
 |_=>exact h
theorem lpN{id:Nat}{I:Nat→σ→AS}{O:σ→AS}{f:Nat→σ→Option (LR σ β)}{m i:Nat}{K:β⊕σ→Prop}{e:Exit}(hi:i<m)(h: ∃v,LK f m i K (.next v)∧Wk C n s (I (i+1) v))(he:e= .normal:=by exact rfl):lpQ C n id I O f m i K Q e s:=by subst he;exact⟨hi,h⟩
theorem lpX{id:Nat}{I:Nat→σ→AS}{O:σ→AS}{f:Nat→σ→Option (LR σ β)}{m i:Nat}{K:β⊕σ→Prop}{e:Exit}(h: ∃v,K (.inr v)∧Wk C n s (O v))(he:e= .exit id:=by exact rfl):lpQ C n id I O f m i K Q e s:=by
 subst he
 simp only [lpQ,if_pos]
 exact h
theorem lpB{id:Nat}{I:Nat→σ→AS}{O:σ→AS}{f:Nat→σ→Option (LR σ β)}{m i:Nat}{K:β⊕σ→Prop}{e:Exit}(h: ∃v,LK f m i K (.brk v)∧Wk C n s (O v))(he:e= .exit id:=by exact rfl):lpQ C n id I O f m i K Q e s:=lpX h he
theorem lwN{id:Nat}{I:σ→AS}{O:σ→AS}{f:σ→Option (LR σ β)}{k:Nat}{K:β⊕σ→Prop}{e:Exit}(h: ∃v,LW f k K (.next v)∧Wk C n s (I v))(he:e= .normal:=by exact rfl):lwQ C n id I O f k K Q e s:=by subst he;exact h
theorem lwB{id:Nat}{I:σ→AS}{O:σ→AS}{f:σ→Option (LR σ β)}{k:Nat}{K:β⊕σ→Prop}{e:Exit}(h: ∃v,LW f k K (.brk v)∧Wk C n s (O v))(he:e= .exit id:=by exact rfl):lwQ C n id I O f k K Q e s:=by
 subst he
 simp only [lwQ,if_pos]
 exact h
theorem dF{β:Type}{K:β→Prop}{x y:Option β}{ops:Array Oper}{l:List Oper}(d:Nat){b:Bool}(H:Hd (sw b x y) K)(h1:b=true→Hd x K→AL P C n ops l Q s)(h0:b=false→Hd y K→AL P C n ops l Q s)(hb:s.lk d=some (.t (.leaf (.bool b))):=by exact rfl):AL P C n ops l Q s:=AL.splitB d hb (fun h=>h1 h (wF H h)) (fun h=>h0 h (wE H h))
theorem a7{K:β→Prop}{c:Operand}{b:Bool}{x y:Option β}{cx cy:Code}(H:Hd (sw b x y) K)(ht:b=true→Hd x K→cF P C n cx Q s)(hf:b=false→Hd y K→cF P C n cy Q s)(hc:s.ev c=some (.t (.leaf (.bool b))):=by exact rfl):cF P C n (.cond c cx cy) Q s:=
 cF.cond hc (fun h=>ht h (wF H h)) fun h=>hf h (wE H h)
theorem aeT{c:Operand}{b:Bool}{cx cy:Code}(e:b=true)(h:cF P C n cx Q s)(hc:s.ev c=some (.t (.leaf (.bool b))):=by exact rfl):cF P C n (.cond c cx cy) Q s:=cF.cond hc (fun _=>h) fun h=>absurd (e.symm.trans h) (by decide)
theorem U6{c:Operand}{b:Bool}{cx cy:Code}(e:b=false)(h:cF P C n cy Q s)(hc:s.ev c=some (.t (.leaf (.bool b))):=by exact rfl):cF P C n (.cond c cx cy) Q s:=cF.cond hc (fun h=>absurd (e.symm.trans h) (by decide)) fun _=>h
theorem cW{K:β⊕σ→Prop}{f:Nat→σ→Option (LR σ β)}{m i:Nat}{v:σ}{c:Operand}{b:Bool}{cx cy:Code}(H:Hd (loopN f (m-i) i v) K)(ht:b=true→i<m→Hd (f i v) (LK f m i K)→cF P C n cx Q s)(hf:b=false→K (.inr v)→cF P C n cy Q s)(h1:b=true→i<m:=by first|exact sE|exact YQ)(h0:b=false→m≤i:=by first|exact sD|exact YP)(hc:s.ev c=some (.t (.leaf (.bool b))):=by exact rfl):cF P C n (.cond c cx cy) Q s:=
 cF.cond hc (fun h=>ht h (h1 h) (lnT (h1 h) H)) fun h=>hf h (lnE (h0 h) H)
theorem qI{f:FuncId}{fn:Func}{c:Code}{args:List PV}{pre:cM}{R:PV→cM→Prop}(hf:P.funcs[f]?=some fn)(h: ∀C:lL,C.st=pre→cF P C fn.ntmps c (xB P C fn.ntmps fn R) ⟨BC 0 args,pre⟩)(hb:fn.body=some c:=by exact rfl)(hn:args.length≤fn.ntmps:=by first|decide|(simp;done)|(simp;decide)):cJ P f args pre R:=cJ.intro hf hb hn h
theorem qS{x y:Code}(h:cF P C n x (O5 (cF P C n y Q) Q) s):cF P C n (.seq x y) Q s:=cF.seq h
theorem qR{id:Nat}{l:List Oper}(h:AL P C n l.toArray l Q s):cF P C n (.region id l.toArray false) Q s:=cF.region_lit h
theorem qN{ops:Array Oper}(h:Q .normal s):AL P C n ops [] Q s:=AL.nil h
theorem q1{ops:Array Oper}{o:Oper}{rest:List Oper}{s1:AS}(ho:a5 P C n o s s1)(h:AL P C n ops rest Q s1)(hg:o.guard=none:=by exact rfl):AL P C n ops (o::rest) Q s:=AL.cons hg ho h
theorem qg{ops:Array Oper}{o:Oper}{rest:List Oper}{s1:AS}{j d:Nat}{b c:Bool}(hv:b=c)(ho:a5 P C n o s s1)(h:AL P C n ops rest Q s1)(hg:o.guard=some (j,c):=by exact rfl)(hj:(ops[j]?).bind (·.dst)=some d:=by exact rfl)(hb:s.lk d=some (.t (.leaf (.bool b))):=by exact rfl):AL P C n ops (o::rest) Q s:=AL.cons_gv hg hj hb hv ho h
theorem qk{ops:Array Oper}{o:Oper}{rest:List Oper}{j d:Nat}{b c e:Bool}(hv:b=e)(h:AL P C n ops rest Q (s.putO o.dst (.tup [])))(hg:o.guard=some (j,c):=by exact rfl)(hj:(ops[j]?).bind (·.dst)=some d:=by exact rfl)(hb:s.lk d=some (.t (.leaf (.bool b))):=by exact rfl)(hne:(e==c)=false:=by exact rfl)(hd:bA o.dst n=true:=by exact rfl):AL P C n ops (o::rest) Q s:=AL.skipP hg hj hb hv hne hd h
theorem qku{ops:Array Oper}{o:Oper}{rest:List Oper}{j d:Nat}{c:Bool}(h:AL P C n ops rest Q (s.putO o.dst (.tup [])))(hg:o.guard=some (j,c):=by exact rfl)(hj:(ops[j]?).bind (·.dst)=some d:=by exact rfl)(hb:s.lk d=some (.tup []):=by exact rfl)(hd:bA o.dst n=true:=by exact rfl):AL P C n ops (o::rest) Q s:=AL.skipU hg hj hb hd h
theorem qe{fn:Func}{R:PV→cM→Prop}{e:Exit}{ps:List PV}{res q:PV}{st':cM}(hR:R q st':=by exact⟨rfl,rfl⟩)(hr:LO P s fn.results.toList ps)(he:e= .normal∨e= .ret:=by first|exact .inr rfl|exact .inl rfl)(hres:(match ps with| [p]=>p|ps=> .tup ps)=res:=by exact rfl)
 (hst:oU s.st st':=by exact LF) (hp:gR C.st st':=by exact KY) (hle:PV.Le res q:=by exact jH) (hk:PV.okIn st' q=true:=by exact rfl):xB P C n fn R e s:=xB.mk he hr hres hst hp hle hk hR
theorem NQ{fn:Func}{R:PV→cM→Prop}{e:Exit}{p q:PV}{st':cM}(hR:R q st':=by exact⟨rfl,rfl⟩)(hr:LO P s fn.results.toList [p]:=by exact⟨rfl,trivial⟩)(he:e= .normal∨e= .ret:=by first|exact .inr rfl|exact .inl rfl)
 (hst:oU s.st st':=by exact LF) (hp:gR C.st st':=by exact KY) (hle:PV.Le p q:=by exact jH) (hk:PV.okIn st' q=true:=by exact rfl):xB P C n fn R e s:=xB.mk he hr rfl hst hp hle hk hR
theorem qe2{fn:Func}{R:PV→cM→Prop}{e:Exit}{p1 p2 q:PV}{st':cM}(hR:R q st':=by exact⟨rfl,rfl⟩)(hr:LO P s fn.results.toList [p1,p2]:=by exact⟨rfl,rfl,trivial⟩)(he:e= .normal∨e= .ret:=by first|exact .inr rfl|exact .inl rfl)
 (hst:oU s.st st':=by exact LF) (hp:gR C.st st':=by exact KY) (hle:PV.Le (.tup [p1,p2]) q:=by exact jH) (hk:PV.okIn st' q=true:=by exact rfl):xB P C n fn R e s:=xB.mk he hr rfl hst hp hle hk hR
theorem qe3{fn:Func}{R:PV→cM→Prop}{e:Exit}{p1 p2 p3 q:PV}{st':cM}(hR:R q st':=by exact⟨rfl,rfl⟩)(hr:LO P s fn.results.toList [p1,p2,p3]:=by exact⟨rfl,rfl,rfl,trivial⟩)(he:e= .normal∨e= .ret:=by first|exact .inr rfl|exact .inl rfl)
 (hst:oU s.st st':=by exact LF) (hp:gR C.st st':=by exact KY) (hle:PV.Le (.tup [p1,p2,p3]) q:=by exact jH) (hk:PV.okIn st' q=true:=by exact rfl):xB P C n fn R e s:=xB.mk he hr rfl hst hp hle hk hR
theorem iG(i:Nat){p:PV}{sz:Nat}{es:List (List Tr)}{N:Nat}{c:Code}(hl:es.length=N)(k:N≤9223372036854775807→cF P C n c Q s)(hx:s.lk i=some p:=by exact rfl)(hp:jK p=some (sz,es):=by exact rfl):cF P C n c Q s:=cF.fact (SS i hx hp hl) k
theorem szF(i:Nat){v:ByteArray}{c:Code}(k:v.size≤9223372036854775807→cF P C n c Q s)(hx:s.lk i=some (.t (.leaf (.string v))):=by exact rfl):cF P C n c Q s:=cF.fact (fun m a w h=>by
 obtain⟨u,-,hr⟩:=h.env i _ hx
 have h1:v.size≤maxLen:=(b5.leaf_eq hr).2
 unfold maxLen at h1
 omega) k
theorem SR(i:Nat){p:PV}{sz:Nat}{es:List (List Tr)}{N:Nat}{ops:Array Oper}{l:List Oper}(hl:es.length=N)(k:N≤9223372036854775807→AL P C n ops l Q s)(hx:s.lk i=some p:=by exact rfl)(hp:jK p=some (sz,es):=by exact rfl):AL P C n ops l Q s:=AL.fact (SS i hx hp hl) k
end
section
variable {P:Program} {C:lL} {n:Nat}
theorem dk{D:fT}{i j lo hi:Nat}{o:Oper}{b c e:Bool}(hv:b=e)(hg:o.guard=some (j,c):=by exact rfl)(hj:D.out j=some (.t (.leaf (.bool b))):=by exact rfl)(hk:D.kind i= .q lo hi:=by exact rfl)(hne:(e==c)=false:=by exact rfl)(ho:D.out i=some (.tup []):=by exact rfl)(hd:bA o.dst n=true:=by exact rfl):D.step P C n i o:=
 .inr ⟨by subst hv;unfold fT.want;rw [hg];dsimp only;rw [hj];dsimp only;rw [hne],⟨_,_,hk⟩,.inr ⟨ho,hd⟩⟩
end
def pk{α:Type}[Inhabited α](l:List α)(j:Nat):α:=l.getD j (l.getLastD default)
instance:Inhabited DS:=⟨⟨[],0,0⟩⟩
instance:Inhabited PV:=⟨.nil⟩
instance:Inhabited cM:=⟨⟨[],[]⟩⟩
instance:Inhabited mP:=⟨⟨0,0,[],false⟩⟩
def evA(s:AS):List Operand→Option (List PV)
 | []=>some []
 |x::xs=>match s.ev x with
  |some p=>match evA s xs with
   |some ps=>some (p::ps)
   |none=>none
  |none=>none
theorem G6{s:AS}: ∀ {xs:List Operand} {ps:List PV},evA s xs=some ps→xs.map s.ev=ps.map some
 | [],ps,h=>by cases h;rfl
 |x::xs,ps,h=>by
  unfold evA at h
  split at h
  ·rename_i p hp
   split at h
   ·rename_i qs hq
    cases h
    rw [List.map_cons,List.map_cons,hp,G6 hq]
   ·cases h
  ·cases h
section
variable {P:Program} {C:lL} {n:Nat} {s:AS} {o:Oper}
theorem bG{x:Operand}{p:PV}(ho:o.op= .move x∨o.op= .assign x:=by first|exact .inl rfl|exact .inr rfl)(hd:bA o.dst n=true:=by exact rfl)(hx:s.ev x=some p:=by exact rfl):a5 P C n o s (s.putO o.dst p):=a5.move ho hd hx
theorem rL1{T:TypeId}{x:Operand}{k d z:Nat}{bx:cL}{p:PV}(hT:gA P T=some (false,z))(ho:o.op= .load T x:=by exact rfl)(hd:bA o.dst n=true:=by exact rfl)(hx:s.ev x=some (.ptr k d):=by exact rfl)(hb:s.st.boxes[k]?=some (some bx):=by exact rfl)(hc:bx.cells[d]?=some p:=by exact rfl):a5 P C n o s (s.putO o.dst p):=a5.loadPtr1 ho hd hx hb hT hc
theorem rLp{T:TypeId}{x:Operand}{k d z:Nat}{bx:cL}(cs:List PV)(hT:gA P T=some (true,z))(ho:o.op= .load T x:=by exact rfl)(hd:bA o.dst n=true:=by exact rfl)(hx:s.ev x=some (.ptr k d):=by exact rfl)(hb:s.st.boxes[k]?=some (some bx):=by exact rfl)(hc:(bx.cells.drop d).take z=cs:=by exact rfl)(hl:cs.length=z:=by exact rfl):a5 P C n o s (s.putO o.dst (.agg cs)):=a5.loadPtr ho hd hx hb hT hc hl
theorem rK1{T:TypeId}{x:Operand}{z:Nat}{d:Tr}{cs:List Tr}(hT:gA P T=some (false,z))(ho:o.op= .load T x:=by exact rfl)(hd:bA o.dst n=true:=by exact rfl)(hx:s.ev x=some (.eptr cs):=by exact rfl)(hc:cs[0]?=some d:=by exact rfl):a5 P C n o s (s.putO o.dst (.t d)):=a5.loadEptr1 ho hd hx hT hc
theorem rKe{T:TypeId}{x:Operand}{z:Nat}{cs:List Tr}(ds:List Tr)(hT:gA P T=some (true,z))(ho:o.op= .load T x:=by exact rfl)(hd:bA o.dst n=true:=by exact rfl)(hx:s.ev x=some (.eptr cs):=by exact rfl)(hc:cs.take z=ds:=by exact rfl)(hl:ds.length=z:=by exact rfl):a5 P C n o s (s.putO o.dst (.agg (ds.map PV.t))):=a5.loadEptr ho hd hx hT hc hl
theorem rFp{T:TypeId}{x:Operand}{f k d e:Nat}(hf:n5 P T f=some e)(ho:o.op= .fieldAddr T x f:=by exact rfl)(hd:bA o.dst n=true:=by exact rfl)(hx:s.ev x=some (.ptr k d):=by exact rfl):a5 P C n o s (s.putO o.dst (.ptr k (d+e))):=a5.fieldPtr ho hd hx hf
theorem rFe{T:TypeId}{x:Operand}{f e:Nat}{cs:List Tr}(hf:n5 P T f=some e)(ho:o.op= .fieldAddr T x f:=by exact rfl)(hd:bA o.dst n=true:=by exact rfl)(hx:s.ev x=some (.eptr cs):=by exact rfl):a5 P C n o s (s.putO o.dst (.eptr (cs.drop e))):=a5.fieldEptr ho hd hx hf
theorem rAl{T:TypeId}{ps:List PV}(hz:fV P T=some ps)(ho:o.op= .alloc T:=by exact rfl)(hd:bA o.dst n=true:=by exact rfl):a5 P C n o s ((⟨s.env,s.st.addBox ⟨T,ps⟩⟩:AS).putO o.dst (.ptr s.st.boxes.length 0)):=a5.alloc ho hd hz
theorem iR{T:TypeId}{x:Operand}{p:PV}(cs:List PV)(ho:o.op= .box T x:=by exact rfl)(hd:bA o.dst n=true:=by exact rfl)(hx:s.ev x=some p:=by exact rfl)(hc:rZ p=cs:=by exact rfl)(ht:rJ p=true:=by exact rfl):a5 P C n o s ((⟨s.env,s.st.addBox ⟨T,cs⟩⟩:AS).putO o.dst (.ptr s.st.boxes.length 0)):=a5.box ho hd hx hc ht
theorem rSu{T:TypeId}{x y:Operand}{k d:Nat}{bx:cL}{p:PV}{cs ds:List PV}(hT:(P.info? T).map (·.size)=some cs.length)(ho:o.op= .store T x y:=by exact rfl)(hx:s.ev x=some (.ptr k d):=by exact rfl)(hb:s.st.boxes[k]?=some (some bx):=by exact rfl)(hy:s.ev y=some p:=by exact rfl)(hc:rZ p=cs:=by exact rfl)(ht:rJ p=true:=by exact rfl)(hf:BG cs=true:=by exact rfl)
 (hfit:d+cs.length≤bx.cells.length:=by exact Nat.le_of_ble_eq_true rfl) (hds:bx.cells.take d++cs++bx.cells.drop (d+cs.length)=ds:=by exact rfl):a5 P C n o s ((⟨s.env,s.st.setBox k ⟨bx.ty,ds⟩⟩:AS).delO o.dst):=a5.storePtr ho hx hb hy hc ht hf hT hfit hds
theorem rLn{T:TypeId}{x:Operand}{p:PV}{sz N:Nat}{es:List (List Tr)}{E:Nat×Nat×Nat}(hT:elemOf? P T=some E)(hl:es.length=N)(ho:o.op= .call { callee:= .builtin .len,args:= #[x],argTypes:= #[T] }:=by exact rfl)(hd:bA o.dst n=true:=by exact rfl)(hx:s.ev x=some p:=by exact rfl)(hp:jK p=some (sz,es):=by exact rfl):a5 P C n o s (s.putO o.dst (.t (.leaf (.int .i64 (N:Int))))):=a5.lenN ho hd hx hp hT hl
theorem XJ{T yT:TypeId}{x y:Operand}{k:IntKind}{a b:Int}(ho:o.op= .binOp .eql T x y yT:=by exact rfl)(hd:bA o.dst n=true:=by exact rfl)(hx:s.ev x=some (.t (.leaf (.int k a))):=by exact rfl)(hy:s.ev y=some (.t (.leaf (.int k b))):=by exact rfl):a5 P C n o s (s.putO o.dst (.t (.leaf (.bool (decide (a=b)))))):=a5.eqlI ho hd hx hy
theorem rNe{T yT:TypeId}{x y:Operand}{k:IntKind}{a b:Int}(ho:o.op= .binOp .neq T x y yT:=by exact rfl)(hd:bA o.dst n=true:=by exact rfl)(hx:s.ev x=some (.t (.leaf (.int k a))):=by exact rfl)(hy:s.ev y=some (.t (.leaf (.int k b))):=by exact rfl):a5 P C n o s (s.putO o.dst (.t (.leaf (.bool (!decide (a=b)))))):=a5.neqI ho hd hx hy
theorem rLt{T yT:TypeId}{x y:Operand}{k:IntKind}{a b:Int}(ho:o.op= .binOp .lss T x y yT:=by exact rfl)(hd:bA o.dst n=true:=by exact rfl)(hx:s.ev x=some (.t (.leaf (.int k a))):=by exact rfl)(hy:s.ev y=some (.t (.leaf (.int k b))):=by exact rfl):a5 P C n o s (s.putO o.dst (.t (.leaf (.bool (decide (a<b)))))):=a5.lss ho hd hx hy
theorem rLe{T yT:TypeId}{x y:Operand}{k:IntKind}{a b:Int}(ho:o.op= .binOp .leq T x y yT:=by exact rfl)(hd:bA o.dst n=true:=by exact rfl)(hx:s.ev x=some (.t (.leaf (.int k a))):=by exact rfl)(hy:s.ev y=some (.t (.leaf (.int k b))):=by exact rfl):a5 P C n o s (s.putO o.dst (.t (.leaf (.bool (decide (a≤b)))))):=a5.leq ho hd hx hy
theorem rGt{T yT:TypeId}{x y:Operand}{k:IntKind}{a b:Int}(ho:o.op= .binOp .gtr T x y yT:=by exact rfl)(hd:bA o.dst n=true:=by exact rfl)(hx:s.ev x=some (.t (.leaf (.int k a))):=by exact rfl)(hy:s.ev y=some (.t (.leaf (.int k b))):=by exact rfl):a5 P C n o s (s.putO o.dst (.t (.leaf (.bool (decide (a>b)))))):=a5.gtr ho hd hx hy
theorem rGe{T yT:TypeId}{x y:Operand}{k:IntKind}{a b:Int}(ho:o.op= .binOp .geq T x y yT:=by exact rfl)(hd:bA o.dst n=true:=by exact rfl)(hx:s.ev x=some (.t (.leaf (.int k a))):=by exact rfl)(hy:s.ev y=some (.t (.leaf (.int k b))):=by exact rfl):a5 P C n o s (s.putO o.dst (.t (.leaf (.bool (decide (a≥b)))))):=a5.geq ho hd hx hy
theorem rSe{T yT:TypeId}{x y:Operand}{a b:ByteArray}(ho:o.op= .binOp .eql T x y yT:=by exact rfl)(hd:bA o.dst n=true:=by exact rfl)(hx:s.ev x=some (.t (.leaf (.string a))):=by exact rfl)(hy:s.ev y=some (.t (.leaf (.string b))):=by exact rfl):a5 P C n o s (s.putO o.dst (.t (.leaf (.bool (decide (a=b)))))):=a5.eqlS ho hd hx hy
theorem rSn{T yT:TypeId}{x y:Operand}{a b:ByteArray}(ho:o.op= .binOp .neq T x y yT:=by exact rfl)(hd:bA o.dst n=true:=by exact rfl)(hx:s.ev x=some (.t (.leaf (.string a))):=by exact rfl)(hy:s.ev y=some (.t (.leaf (.string b))):=by exact rfl):a5 P C n o s (s.putO o.dst (.t (.leaf (.bool (!decide (a=b)))))):=a5.neqS ho hd hx hy
theorem F0{T:TypeId}{x:Operand}{b:Bool}(ho:o.op= .unOp .not T x:=by exact rfl)(hd:bA o.dst n=true:=by exact rfl)(hx:s.ev x=some (.t (.leaf (.bool b))):=by exact rfl):a5 P C n o s (s.putO o.dst (.t (.leaf (.bool (!b))))):=a5.notB ho hd hx
theorem rAw{T yT:TypeId}{x y:Operand}{k:IntKind}{a b:Int}(ho:o.op= .binOp .add T x y yT:=by exact rfl)(hd:bA o.dst n=true:=by exact rfl)(hx:s.ev x=some (.t (.leaf (.int k a))):=by exact rfl)(hy:s.ev y=some (.t (.leaf (.int k b))):=by exact rfl):a5 P C n o s (s.putO o.dst (.t (.leaf (.int k (k.wrap (a+b)))))):=a5.addW ho hd hx hy
theorem rSw{T yT:TypeId}{x y:Operand}{k:IntKind}{a b:Int}(ho:o.op= .binOp .sub T x y yT:=by exact rfl)(hd:bA o.dst n=true:=by exact rfl)(hx:s.ev x=some (.t (.leaf (.int k a))):=by exact rfl)(hy:s.ev y=some (.t (.leaf (.int k b))):=by exact rfl):a5 P C n o s (s.putO o.dst (.t (.leaf (.int k (k.wrap (a-b)))))):=a5.subW ho hd hx hy
theorem rIx{α:Type}[Inhabited α][TC α]{l:List α}{T E sz by_:Nat}{x i:Operand}{p:PV}{k:Nat}(h:k<l.length)(hT:elemOf? P T=some (E,sz,by_))(ho:o.op= .indexAddr T x i:=by exact rfl)(hd:bA o.dst n=true:=by exact rfl)(hx:s.ev x=some p:=by exact rfl)(hp:jK p=some (sz,TC.trs l):=by exact rfl)(hi:s.ev i=some (.t (.leaf (.int .i64 (k:Int)))):=by exact rfl):a5 P C n o s (s.putO o.dst (.eptr (TC.cs (aP l k)))):=a5.index ho hd hx hp hi (TC.at_ h) hT
theorem rIy{α:Type}[Inhabited α][TC α]{l:List α}{T E sz by_:Nat}{x i:Operand}{p:PV}{y:Int}(h:0≤y∧y.toNat<l.length)(hT:elemOf? P T=some (E,sz,by_))(ho:o.op= .indexAddr T x i:=by exact rfl)(hd:bA o.dst n=true:=by exact rfl)(hx:s.ev x=some p:=by exact rfl)(hp:jK p=some (sz,TC.trs l):=by exact rfl)(hi:s.ev i=some (.t (.leaf (.int .i64 y))):=by exact rfl):a5 P C n o s (s.putO o.dst (.eptr (TC.cs (aP l y.toNat)))):=a5.indexI ho hd hx hp hi h.1 (TC.at_ h.2) hT
theorem rIn{α:Type}[Inhabited α][TC α]{l:List α}{T E sz by_:Nat}{x i:Operand}{p:PV}{k:Nat}{z:α}(hz:z=aP l k)(h:k<l.length)(hT:elemOf? P T=some (E,sz,by_))(ho:o.op= .indexAddr T x i:=by exact rfl)(hd:bA o.dst n=true:=by exact rfl)(hx:s.ev x=some p:=by exact rfl)(hp:jK p=some (sz,TC.trs l):=by exact rfl)(hi:s.ev i=some (.t (.leaf (.int .i64 (k:Int)))):=by exact rfl):a5 P C n o s (s.putO o.dst (.eptr (TC.cs z))):=by
 subst hz
 exact rIx h hT ho hd hx hp hi
theorem rIm{α:Type}[Inhabited α][TC α]{l:List α}{T E sz by_:Nat}{x i:Operand}{p:PV}{y:Int}{z:α}(hz:z=aP l y.toNat)(h:0≤y∧y.toNat<l.length)(hT:elemOf? P T=some (E,sz,by_))(ho:o.op= .indexAddr T x i:=by exact rfl)(hd:bA o.dst n=true:=by exact rfl)(hx:s.ev x=some p:=by exact rfl)(hp:jK p=some (sz,TC.trs l):=by exact rfl)(hi:s.ev i=some (.t (.leaf (.int .i64 y))):=by exact rfl):a5 P C n o s (s.putO o.dst (.eptr (TC.cs z))):=by
 subst hz
 exact rIy h hT ho hd hx hp hi
theorem rF1{T:TypeId}{x:Operand}{f e z:Nat}{cs:List PV}{p:PV}(hf:r6 P T f=some (e,false,z))(ho:o.op= .field T x f:=by exact rfl)(hd:bA o.dst n=true:=by exact rfl)(hx:s.ev x=some (.agg cs):=by exact rfl)(hc:cs[e]?=some p:=by exact rfl):a5 P C n o s (s.putO o.dst p):=a5.field1 ho hd hx hf hc
theorem rEx{x:Operand}{i:Nat}{ps:List PV}{p:PV}(ho:o.op= .extract x i:=by exact rfl)(hd:bA o.dst n=true:=by exact rfl)(hx:s.ev x=some (.tup ps):=by exact rfl)(hi:ps[i]?=some p:=by exact rfl):a5 P C n o s (s.putO o.dst p):=a5.extract ho hd hx hi
theorem rBd{T:TypeId}{parts:Array (Nat×Operand)}{ps:List (Nat×List PV)}{zs cs:List PV}{places:List (Nat×Nat)}(hz:fV P T=some zs)(hpl:HV P T=some places)(ho:o.op= .build T parts:=by exact rfl)(hd:bA o.dst n=true:=by exact rfl)(hp:jR s parts.toList=some ps:=by exact rfl)(hc:nV (fun i=>places.toArray[i]?) zs ps=some cs:=by exact rfl):a5 P C n o s (s.putO o.dst (.agg cs)):=a5.build ho hd hz hpl hp hc
theorem rBs{α:Type}[Inhabited α][TC α]{T E by_ len:Nat}{parts:Array (Nat×Operand)}{ps:List (Nat×List PV)}{zs cs:List PV}(l:List α)(hT:elemOf? P T=some (E,TC.sz α,by_))(hz:fV P E=some zs)(ho:o.op= .buildSlice T len parts:=by exact rfl)(hd:bA o.dst n=true:=by exact rfl)(hp:jR s parts.toList=some ps:=by exact rfl)
 (hc:nV (fun i=>some (i*TC.sz α,TC.sz α)) (List.replicate len zs).flatten ps=some cs:=by exact rfl) (hle:qA cs ((l.map TC.cs).flatten.map PV.t):=by exact jH) (hel:l.length=len:=by exact rfl) (hsz:0<TC.sz α:=by decide) (hzl:zs.length=TC.sz α:=by exact rfl) (hsm:len*TC.sz α≤16777216:=by decide):a5 P C n o s (s.putO o.dst (.t (.row (TC.sz α) (TC.trs l)))):=
 a5.buildSliceE (es:=l.map TC.cs) ho hd hT hz hp hc hle (by rw [List.length_map];exact hel) (fun e he=>TC.all l e (by rw [TC.map];exact he)) hsz hzl hsm (TC.map l).symm
theorem rBl{α:Type}[Inhabited α][TC α]{T E by_ len:Nat}{parts:Array (Nat×Operand)}{ps:List (Nat×List PV)}{zs cs:List PV}(l:List α)(hT:elemOf? P T=some (E,TC.sz α,by_))(hz:fV P E=some zs)(ho:o.op= .buildSlice T len parts:=by exact rfl)(hd:bA o.dst n=true:=by exact rfl)(hp:jR s parts.toList=some ps:=by exact rfl)
 (hc:nV (fun i=>some (i*TC.sz α,TC.sz α)) (List.replicate len zs).flatten ps=some cs:=by exact rfl) (hle:qA cs ((l.map TC.cs).flatten.map PV.t):=by exact jH) (hel:l.length=len:=by exact rfl) (hsz:0<TC.sz α:=by decide) (hzl:zs.length=TC.sz α:=by exact rfl) (hsm:len*TC.sz α≤16777216:=by decide):a5 P C n o s (s.putO o.dst (.lit (TC.sz α) (TC.trs l))):=
 a5.buildSliceLE (es:=l.map TC.cs) ho hd hT hz hp hc hle (by rw [List.length_map];exact hel) (fun e he=>TC.all l e (by rw [TC.map];exact he)) hsz hzl hsm (TC.map l).symm
theorem rBa{α:Type}[Inhabited α][TC α]{T E by_ len:Nat}{parts:Array (Nat×Operand)}{ps:List (Nat×List PV)}{zs cs:List PV}(l:List α)(hT:elemOf? P T=some (E,TC.sz α,by_))(hz:fV P E=some zs)(ho:o.op= .buildSlice T len parts:=by exact rfl)(hd:bA o.dst n=true:=by exact rfl)(hp:jR s parts.toList=some ps:=by exact rfl)
 (hc:nV (fun i=>some (i*TC.sz α,TC.sz α)) (List.replicate len zs).flatten ps=some cs:=by exact rfl) (hle:qA cs ((l.map TC.cs).flatten.map PV.t):=by exact jH) (hel:l.length=len:=by exact rfl) (hsz:0<TC.sz α:=by decide) (hzl:zs.length=TC.sz α:=by exact rfl) (hsm:len*TC.sz α≤16777216:=by decide):a5 P C n o s ((⟨s.env,s.st.addRow ⟨E,TC.sz α,TC.trs l,false⟩⟩:AS).putO o.dst (.acc (TC.sz α) (TC.trs l) s.st.rows.length)):=
 a5.buildSliceA (es:=l.map TC.cs) ho hd hT hz hp hc hle (by rw [List.length_map];exact hel) (fun e he=>TC.all l e (by rw [TC.map];exact he)) hsz hzl hsm (TC.map l).symm
theorem rAp{α:Type}[Inhabited α][TC α]{T E by_:Nat}{x y:Operand}{a b:List α}{r:Nat}{row:mP}{p:PV}(h:a.length+b.length≤68719476736)(hT:elemOf? P T=some (E,TC.sz α,by_))(hz:(P.info? E).bind (fun i=>i.zero.map (fun z=>z.cells.size))=some (TC.sz α))(ho:o.op= .call { callee:= .builtin .append,args:= #[x,y],argTypes:= #[T,T] }:=by exact rfl)(hd:bA o.dst n=true:=by exact rfl)
 (hx:s.ev x=some (.acc (TC.sz α) (TC.trs a) r):=by exact rfl) (hrow:s.st.rows[r]?=some row:=by exact rfl) (hes:row.es=TC.trs a:=by exact rfl) (hE:row.E=E:=by exact rfl) (hw:row.whole=false:=by exact rfl) (hy:s.ev y=some p:=by exact rfl) (hp:jK p=some (TC.sz α,TC.trs b):=by exact rfl)
 (hb:0<by_:=by decide) (hb2:by_≤2048:=by decide):a5 P C n o s ((⟨s.env,s.st.setRow r { row with es:=TC.trs (a++b) }⟩:AS).putO o.dst (.acc (TC.sz α) (TC.trs (a++b)) r)):=
 a5.appendE ho hd hx hrow hes hE hw hy hp (TC.all b) hT hz hb (by rw [TC.len,TC.len];exact wS h hb2) (TC.app a b)
theorem rMf{f:FuncId}{cap:Array Operand}{ps:List PV}(ho:o.op= .makeFunc (.func f) #[] cap:=by exact rfl)(hd:bA o.dst n=true:=by exact rfl)(hc:evA s cap.toList=some ps:=by exact rfl):a5 P C n o s (s.putO o.dst (.fn f ps)):=a5.makeFunc ho hd (G6 hc)
theorem sU{x:Operand}{k d:Nat}(ho:o.op= .nilCheck x:=by exact rfl)(hd:bA o.dst n=true:=by exact rfl)(hx:s.ev x=some (.ptr k d):=by exact rfl):a5 P C n o s (s.putO o.dst (.ptr k d)):=a5.nilPtr ho hd hx
theorem rNf{x:Operand}{f:FuncId}{cs:List PV}(ho:o.op= .nilCheck x:=by exact rfl)(hd:bA o.dst n=true:=by exact rfl)(hx:s.ev x=some (.fn f cs):=by exact rfl):a5 P C n o s (s.putO o.dst (.fn f cs)):=a5.nilFn ho hd hx
theorem A6{x y z:Operand}{b:Bool}{p:PV}(hb:b=true)(ho:o.op= .pick x y z:=by exact rfl)(hd:bA o.dst n=true:=by exact rfl)(hx:s.ev x=some (.t (.leaf (.bool b))):=by exact rfl)(hy:s.ev y=some p:=by exact rfl):a5 P C n o s (s.putO o.dst p):=a5.pickT ho hd hx hb hy
theorem DZ{x y z:Operand}{b:Bool}{p:PV}(hb:b=false)(ho:o.op= .pick x y z:=by exact rfl)(hd:bA o.dst n=true:=by exact rfl)(hx:s.ev x=some (.t (.leaf (.bool b))):=by exact rfl)(hy:s.ev z=some p:=by exact rfl):a5 P C n o s (s.putO o.dst p):=a5.pickF ho hd hx hb hy
theorem bC{f:FuncId}{fn:Func}{xs:List Operand}{ts:Array TypeId}{ps qs:List PV}{res:PV}(hf:P.funcs[f]?=some fn)(hc:bP P f qs res)(ho:o.op= .call { callee:= .value (.func f),args:=⟨xs⟩,argTypes:=ts }:=by exact rfl)(hd:bA o.dst n=true:=by exact rfl)(hnm:(fn.name== "runtime.NumGoroutine")=false:=by kernel_rfl)(hb:fn.body.isNone=false:=by exact rfl)
 (hx:evA s xs=some ps:=by exact rfl) (hle:qA ps qs:=by exact jH) (h1:iU qs=true:=by exact rfl) (h2:PV.free res=true:=by exact rfl):a5 P C n o s (s.putO o.dst res):=a5.callF ho hd hf hnm hb (G6 hx) hle h1 h2 hc
theorem rCv{y:Operand}{f:FuncId}{fn:Func}{xs:List Operand}{ts:Array TypeId}{ps cs qs:List PV}{res:PV}(hf:P.funcs[f]?=some fn)(hc:bP P f qs res)(ho:o.op= .call { callee:= .value y,args:=⟨xs⟩,argTypes:=ts }:=by exact rfl)(hd:bA o.dst n=true:=by exact rfl)(hy:s.ev y=some (.fn f cs):=by exact rfl)(hnm:(fn.name== "runtime.NumGoroutine")=false:=by kernel_rfl)(hb:fn.body.isNone=false:=by exact rfl)
 (hx:evA s xs=some ps:=by exact rfl) (hle:qA (ps++cs) qs:=by exact jH) (h1:iU qs=true:=by exact rfl) (h2:PV.free res=true:=by exact rfl):a5 P C n o s (s.putO o.dst res):=a5.callV ho hd hy hf hnm hb (G6 hx) hle h1 h2 hc
theorem ahL{S pre:cM}{fb fr:List Nat}(hb:nI S fb fr pre fb pre.boxes:=by repeat' (first|exact trivial|refine⟨⟨_,rfl,rfl,jH,rfl⟩,?_⟩))(hr:q7 S fr pre.rows:=by repeat' (first|exact trivial|refine⟨rfl,?_⟩))(h1:fb.Nodup:=by decide)(h2:fr.Nodup:=by decide):eX S pre fb fr:=eX.of hb hr h1 h2
theorem eW{f:FuncId}{fn:Func}{xs:List Operand}{ts:Array TypeId}{ps qs:List PV}{res:PV}{pre st':cM}(fb fr:List Nat)(hf:P.funcs[f]?=some fn)(hc:cJ P f qs pre (fun r t=>r=res∧t=st'))(ho:o.op= .call { callee:= .value (.func f),args:=⟨xs⟩,argTypes:=ts }:=by exact rfl)(hd:bA o.dst n=true:=by exact rfl)(hnm:(fn.name== "runtime.NumGoroutine")=false:=by kernel_rfl)(hb:fn.body.isNone=false:=by exact rfl)
 (hx:evA s xs=some ps:=by exact rfl) (hp:eX s.st pre fb fr:=by exact ahL) (hle:qA ps (zV fb fr qs):=by exact jH) (hok:k8 pre qs=true:=by exact rfl) (hbl:st'.boxes.length=pre.boxes.length:=by exact rfl) (hrl:st'.rows.length=pre.rows.length:=by exact rfl):a5 P C n o s ((⟨s.env,s.st.over st' fb fr⟩:AS).putO o.dst (PV.ren fb fr res)):=a5.callPE fb fr ho hd hf hnm hb (G6 hx) rfl hp hle hok hbl hrl hc
end
theorem dne{x a b:Int}(h:decide (x=a)=true)(hab:a≠b):decide (x=b)=false:=by
 rw [of_decide_eq_true h]
 exact decide_eq_false hab
theorem aaN{x b:Int}(h:(decide (x=2)||decide (x=3))=true)(h2:2≠b)(h3:3≠b):decide (x=b)=false:=by
 rw [Bool.or_eq_true,decide_eq_true_eq,decide_eq_true_eq] at h
 refine decide_eq_false fun e=>?_
 omega
theorem afR{x:Int}(h:(decide (x=2)||decide (x=3))=true)(h2:decide (x=2)=false):decide (x=3)=true:=by
 rw [h2,Bool.false_or] at h
 exact h
theorem ahH{x:Int}(h:(decide (x=2)||decide (x=3))=false):decide (x=2)=false:=(Bool.or_eq_false_iff.1 h).1
theorem ahI{x:Int}(h:(decide (x=2)||decide (x=3))=false):decide (x=3)=false:=(Bool.or_eq_false_iff.1 h).2
theorem a5.appendLitBE{P:Program}{C:lL}{n:Nat}{s:AS}{o:Oper}{T E sz by_:Nat}{x y:Operand}{es1 es2 es3:List (List Tr)}{cs:List PV}{p:PV}{len:Nat}(ho:o.op= .call { callee:= .builtin .append,args:= #[x,y],argTypes:= #[T,T] })(hd:bA o.dst n=true)
 (hx:s.ev x=some (.lit sz es1)) (hy:s.ev y=some p) (hp:jK p=some (sz,es2)) (h1: ∀e∈es1,e.length=sz) (h2: ∀e∈es2,e.length=sz) (hne:es2≠ []) (hsz:0<sz)
 (hT:elemOf? P T=some (E,sz,by_)) (hz:(P.info? E).bind (fun i=>i.zero.map (fun z=>z.cells.size))=some sz) (hb:0<by_) (hlen:(es1.length+es2.length)*by_≤140737488355328) (h3:es1++es2=es3) (hcs:es3.flatten.map PV.t=cs) (hl:es1.length+es2.length=len):
 a5 P C n o s ((⟨s.env,s.st.addBox ⟨E,cs⟩⟩:AS).putO o.dst (.gsl s.st.boxes.length len)):=a5.appendLitB ho hd hx hy hp h1 h2 hne hsz hT hz hb hlen (by rw [h3];exact hcs) hl
section
variable {P:Program} {C:lL} {n:Nat} {s:AS} {Q:Exit→AS→Prop}
abbrev LB:=List ByteArray
theorem qW{id:Nat}{l:List Oper}{y:Code}(h:AL P C n l.toArray l (O5 (cF P C n y Q) Q) s):cF P C n (.seq (.region id l.toArray false) y) Q s:=qS (qR h)
theorem qZ{ops:Array Oper}(h:Q .ret s):AL P C n ops [] (O5 (cF P C n .ret Q) Q) s:=qN (cF.ret h)
theorem rAd{o:Oper}{T yT:TypeId}{x y:Operand}{a b:Int}(c:Nat)(ho:o.op= .binOp .add T x y yT:=by exact rfl)(hd:bA o.dst n=true:=by exact rfl)(hx:s.ev x=some (.t (.leaf (.int .i64 a))):=by exact rfl)(hy:s.ev y=some (.t (.leaf (.int .i64 b))):=by exact rfl)(hc:a+b=((c:Nat):Int):=by omega)(hb: -9223372036854775808≤((c:Nat):Int)∧((c:Nat):Int)≤9223372036854775807:=by omega):a5 P C n o s (s.putO o.dst (.t (.leaf (.int .i64 ((c:Nat):Int))))):=a5.addI ho hd hx hy hc hb
end
theorem qJ{β:Type}{m:Option β}{r:β}{P:Program}{f:FuncId}{fn:Func}{c:Code}{args:List PV}{pre:cM}{R:PV→cM→Prop}(hf:P.funcs[f]?=some fn)(H:m=some r)(h: ∀C:lL,C.st=pre→Hd m (fun v=>v=r)→cF P C fn.ntmps c (xB P C fn.ntmps fn R) ⟨BC 0 args,pre⟩)(hb:fn.body=some c:=by exact rfl)(hn:args.length≤fn.ntmps:=by first|decide|(simp;done)|(simp;decide)):cJ P f args pre R:=qI hf (fun C hC=>h C hC (hd0 H)) hb hn
end Go.Proofs.YtfcoaagbccmahaaGreat

namespace Go.Proofs.YtfcoaagbccmahaaGreat
open Go.RowKit Go.WalkArith Go.IntWalk Go.WideShapes
section
variable {P:Program} {C:lL} {n:Nat} {o:Oper}
theorem acQ{a:Act}{K1 K:Act→World→Prop}{Q:Exit→Act→World→Prop}(hv: ∀v w',K1 (a.put o.dst v) w'→K (a.put o.dst v) w')
 (hd: ∀d w',K1 (({ a with defers:=d::a.defers }:Act).put o.dst undef) w'→K (({ a with defers:=d::a.defers }:Act).put o.dst undef) w'): ∀r,o.upon P a K1 Q r→o.upon P a K Q r:=by
 intro r h
 cases r with
 |ok x w'=>
  cases x with
  |value v=>exact hv v w' h
  |skip=>exact hv undef w' h
  |defer d=>exact hd d w' h
  |enter f args=>
   refine Calls.mono h fun e w'' he=>?_
   cases e with
   |returned v=>exact hv v w'' he
   |panicked c=>exact he
   |outgrown=>exact he
  |row r args=>exact Rows.mono h fun v w'' he=>hv v w'' he
  |_=>exact h
 |halt x w'=>
  cases x with
  |panic v=>exact h
  |_=>exact h
theorem ST(s:AS)(d:Nat)(p:PV)(i:Nat):(s.putO (some d) p).lk i=if i=d then some p else s.lk i:=AS.lk_put s d i p
theorem a5.frame{E:List (Nat×PV)}{st st1:cM}{p:PV}{s':AS}(h: ∀C',a5 P C' n o ⟨E,st⟩ ((⟨E,st1⟩:AS).putO o.dst p))(hst:s'.st=st)(hl: ∀t q,E.lookup t=some q→s'.lk t=some q):
 a5 P C n o s' ((⟨s'.env,st1⟩:AS).putO o.dst p):=fun m a w hr K Q hK=>by
 subst hst
 have hr':RA ⟨C.av,s'.st,m,w⟩ n ⟨E,s'.st⟩ m a w:=⟨hr.dfr,hr.tsz,hr.sto,fun i q hq=>hr.env i q (hl i q hq),Ev.refl _ _ _⟩
 have h1:=h ⟨C.av,s'.st,m,w⟩ m a w hr' (fun a' w'=> ∃m',RA ⟨C.av,s'.st,m,w⟩ n ((⟨E,st1⟩:AS).putO o.dst p) m' a' w') Q (fun m' a' w' h=>⟨m',h⟩)
 unfold Oper.wp at h1 ⊢
 refine acQ (fun v w'=>?_) (fun d w'=>?_) _ h1
 ·rintro⟨m',h2⟩
  refine hK m' _ w' ?_
  have key: ∀(dst:Option Nat),dst=o.dst→RA C n ((⟨s'.env,st1⟩:AS).putO dst p) m' (a.put dst v) w':=fun dst hdst=>by
   rw [← hdst] at h2
   cases dst with
   |none=>
    have hE:Ev s'.st m w st1 m' w':=h2.ev
    exact⟨h2.dfr,h2.tsz,h2.sto,fun i q hq=>by
     obtain⟨v',hv',hrv⟩:=hr.env i q hq
     exact⟨v',hv',RV.mono hE q v' hrv⟩,hr.ev.trans hE⟩
   |some d=>
    have hE:Ev s'.st m w st1 m' w':=h2.ev
    refine⟨h2.dfr,h2.tsz,h2.sto,fun i q hq=>?_,hr.ev.trans hE⟩
    rw [ST] at hq
    by_cases hi:i=d
    ·rw [if_pos hi] at hq
     cases hq
     exact h2.env i _ (by rw [ST,if_pos hi])
    ·rw [if_neg hi] at hq
     obtain⟨v',hv',hrv⟩:=hr.env i q hq
     exact⟨v',by simp only [Act.put];rw [Array.getElem?_setIfInBounds_ne (fun e=>hi e.symm)];exact hv',RV.mono hE q v' hrv⟩
  exact key o.dst rfl
 ·rintro⟨m',h2⟩
  have h3:=h2.dfr
  have h4:(({ a with defers:=d::a.defers }:Act).put o.dst undef).defers=d::a.defers:=by
   cases o.dst<;>rfl
  rw [h4] at h3
  cases h3
theorem a5.frame0{E:List (Nat×PV)}{st st1:cM}{s':AS}(hn:o.dst=none)(h: ∀C',a5 P C' n o ⟨E,st⟩ ⟨E,st1⟩)(hst:s'.st=st)(hl: ∀t q,E.lookup t=some q→s'.lk t=some q):
 a5 P C n o s' ⟨s'.env,st1⟩:=by
 have:=a5.frame (C:=C) (P:=P) (n:=n) (o:=o) (p:= .nil) (E:=E) (st:=st) (st1:=st1) (s':=s') (by rw [hn];exact h) hst hl
 rw [hn] at this
 exact this
structure DD where
 outs:List (Option PV)
 ks:List (Option DK)
 ins:List (List Nat)
 effs:List Nat
 fs:List (Option cL→cM)
 rds:List ((Nat×Nat)×Nat×Option (Option cL))
 az:Option (Nat×cL)
def DD.cz(g:DD):Option cL:=g.az.map (·.2)
def ab:Option cL→cM→cM
 |none,st=>st
 |some z,st=>st.addBox z
def FD:cM:=⟨[],[⟨0,0,[],false⟩]⟩
def tw(st:cM):Option cL→cM
 |none=>FD
 |some _=>st
theorem aeP{C:lL}{n:Nat}{env:List (Nat×PV)}{m:iF}{a:Act}{w:World}(h:RA C n ⟨env,FD⟩ m a w):False:=by
 have:=(h.sto.row 0 ⟨0,0,[],false⟩ rfl).1
 exact absurd this (by decide)
theorem a5.bad{P:Program}{C:lL}{n:Nat}{o:Oper}{s s1:AS}(hs:s.st=FD):a5 P C n o s s1:=fun m a w hr K Q hK=>by
 obtain⟨env,st⟩:=s
 cases hs
 exact(aeP hr).elim
theorem a5.away{P:Program}{C:lL}{n:Nat}{o:Oper}{s s1:AS}{t k off:Nat}(hl:s.lk t=some (.ptr k off))(hk:s.st.boxes[k]?=none):a5 P C n o s s1:=fun m a w hr K Q hK=>by
 obtain⟨v,-,⟨x,hx⟩,-⟩:=hr.env t _ hl
 rw [hk] at hx
 cases hx
def rs(s:AS):List Nat→List (Nat×PV)
 | []=> []
 |t::ts=>match s.lk t with
  |some p=>(t,p)::rs s ts
  |none=>rs s ts
theorem aaR{s:AS}{t:Nat}{q:PV}: ∀ {I:List Nat},(rs s I).lookup t=some q→t∈I∧s.lk t=some q
 | [],h=>by cases h
 |x::I,h=>by
  unfold rs at h
  cases hx:s.lk x with
  |none=>
   rw [hx] at h
   obtain⟨h1,h2⟩:=aaR (I:=I) h
   exact⟨.tail _ h1,h2⟩
  |some p=>
   rw [hx] at h
   dsimp only at h
   rw [List.lookup_cons] at h
   by_cases htx:t=x
   ·subst htx
    simp only [BEq.rfl] at h
    cases h
    exact⟨.head _,hx⟩
   ·rw [show(t==x)=false by simp [htx]] at h
    obtain⟨h1,h2⟩:=aaR (I:=I) h
    exact⟨.tail _ h1,h2⟩
def RW(l:List Oper)(e0:List (Nat×PV))(outs:List (Option PV))(i t:Nat)(p:PV):Prop:=
 (∃(j:Nat) (o:Oper),j<i∧l[j]?=some o∧o.dst=some t∧outs[j]?=some (some p))∨(e0.lookup t=some p∧ ∀(j:Nat) (o:Oper),j<i→l[j]?=some o→o.dst≠some t)
inductive WD (l:List Oper) (e0:List (Nat×PV)) (outs:List (Option PV)) (i:Nat) (o:Oper):Bool→Prop
 |n:o.guard=none→WD l e0 outs i o true
 |y {j d:Nat} {b c:Bool}:o.guard=some (j,c)→(l[j]?).bind (·.dst)=some d→RW l e0 outs i d (.t (.leaf (.bool b)))→WD l e0 outs i o (b==c)
 |u {j d:Nat} {c:Bool}:o.guard=some (j,c)→(l[j]?).bind (·.dst)=some d→RW l e0 outs i d (.tup [])→WD l e0 outs i o false
inductive WS (l:List Oper) (s:AS) (o:Oper):Bool→Prop
 |n:o.guard=none→WS l s o true
 |y {j d:Nat} {b c:Bool}:o.guard=some (j,c)→(l[j]?).bind (·.dst)=some d→s.lk d=some (.t (.leaf (.bool b)))→WS l s o (b==c)
 |u {j d:Nat} {c:Bool}:o.guard=some (j,c)→(l[j]?).bind (·.dst)=some d→s.lk d=some (.tup [])→WS l s o false
inductive KQ (P:Program) (n N:Nat) (md:Bool) (g:DD) (i:Nat) (o:Oper) (E:List (Nat×PV)):Prop
 |q {p:PV}:g.ks[i]?=some none→g.outs[i]?=some (some p)→(∀C' st,a5 P C' n o ⟨E,st⟩ ((⟨E,st⟩:AS).putO o.dst p))→KQ P n N md g i o E
 |r {lo hi k:Nat} {X:Option (Option cL)} {p:PV}:g.ks[i]?=some (some (.q lo hi))→g.outs[i]?=some (some p)→((lo,hi),k,X)∈g.rds→(md=true→k<N)→(∀C' (st:cM),st.boxes[k]?=X→a5 P C' n o ⟨E,st⟩ ((⟨E,st⟩:AS).putO o.dst p))→KQ P n N md g i o E
 |c {j:Nat} {f:Option cL→cM} {p:PV}:g.ks[i]?=some (some (.q j j))→g.outs[i]?=some (some p)→g.fs[j]?=some f→(∀C' z,a5 P C' n o ⟨E,f z⟩ ((⟨E,f z⟩:AS).putO o.dst p))→KQ P n N md g i o E
 |e {j:Nat} {f f1:Option cL→cM} {p:PV}:g.ks[i]?=some (some (.ef j))→g.outs[i]?=some (some p)→g.fs[j]?=some f→g.fs[j+1]?=some f1→(∀C' z,a5 P C' n o ⟨E,f z⟩ ((⟨E,f1 z⟩:AS).putO o.dst p))→KQ P n N md g i o E
 |e0 {j:Nat} {f f1:Option cL→cM}:g.ks[i]?=some (some (.ef j))→o.dst=none→g.fs[j]?=some f→g.fs[j+1]?=some f1→(∀C' z,a5 P C' n o ⟨E,f z⟩ ⟨E,f1 z⟩)→KQ P n N md g i o E
 |ea {j a t off:Nat} {zb:cL} {f f1:Option cL→cM}:g.az=some (a,zb)→g.ks[i]?=some (some (.ef j))→o.dst=none→g.fs[j]?=some f→g.fs[j+1]?=some f1→E.lookup t=some (.ptr N off)→(f none=FD∨(f none).boxes.length=N)→(∀C',a5 P C' n o ⟨E,f (some zb)⟩ ⟨E,f1 (some zb)⟩)→KQ P n N md g i o E
 |al {zb:cL}:md=true→g.az=some (i,zb)→g.ks[i]?=some (some .al)→g.outs[i]?=some (some (.ptr N 0))→(∀C' st,st.boxes.length=N→a5 P C' n o ⟨[],st⟩ ((⟨[],st.addBox zb⟩:AS).putO o.dst (.ptr N 0)))→KQ P n N md g i o E
inductive MO (P:Program) (n N:Nat) (md:Bool) (l:List Oper) (e0:List (Nat×PV)) (g:DD) (i:Nat) (o:Oper):Prop
 |does {E:List (Nat×PV)} {I:List Nat}:WD l e0 g.outs i o true→g.ins[i]?=some I→(∀t q,E.lookup t=some q→t∈I∧RW l e0 g.outs i t q)→KQ P n N md g i o E→MO P n N md l e0 g i o
 |skip:WD l e0 g.outs i o false→g.ks[i]?=some none→g.outs[i]?=some (some (.tup []))→bA o.dst n=true→MO P n N md l e0 g i o
structure DD.le (g g':DD):Prop where
 outs: ∀(i:Nat) (x:Option PV),g.outs[i]?=some x→g'.outs[i]?=some x
 ks: ∀(i:Nat) (x:Option DK),g.ks[i]?=some x→g'.ks[i]?=some x
 ins: ∀(i:Nat) (x:List Nat),g.ins[i]?=some x→g'.ins[i]?=some x
 fs: ∀(i:Nat) (x:Option cL→cM),g.fs[i]?=some x→g'.fs[i]?=some x
 rds: ∀x∈g.rds,x∈g'.rds
 az: ∀x,g.az=some x→g'.az=some x
theorem KO{g g':DD}(h:g.le g'){l:List Oper}{e0:List (Nat×PV)}{i t:Nat}{p:PV}(k:RW l e0 g.outs i t p):RW l e0 g'.outs i t p:=by
 rcases k with⟨j,o,h1,h2,h3,h4⟩|k
 ·exact .inl ⟨j,o,h1,h2,h3,h.outs _ _ h4⟩
 ·exact .inr k
theorem aaX{g g':DD}(h:g.le g'){l:List Oper}{e0:List (Nat×PV)}{i:Nat}{o:Oper}{b:Bool}(k:WD l e0 g.outs i o b):WD l e0 g'.outs i o b:=by
 cases k with
 |n a=>exact .n a
 |y a b c=>exact .y a b (KO h c)
 |u a b c=>exact .u a b (KO h c)
theorem MO.mono{N:Nat}{md:Bool}{l:List Oper}{e0:List (Nat×PV)}{g g':DD}{i:Nat}{o:Oper}(h:g.le g')(k:MO P n N md l e0 g i o):MO P n N md l e0 g' i o:=by
 cases k with
 |does h1 h2 h3 h4=>
  refine .does (aaX h h1) (h.ins _ _ h2) (fun t q ht=>⟨(h3 t q ht).1,KO h (h3 t q ht).2⟩) ?_
  cases h4 with
  |q a b c=>exact .q (h.ks _ _ a) (h.outs _ _ b) c
  |r a b c d e=>exact .r (h.ks _ _ a) (h.outs _ _ b) (h.rds _ c) d e
  |c a b c d=>exact .c (h.ks _ _ a) (h.outs _ _ b) (h.fs _ _ c) d
  |e a b c d e=>exact .e (h.ks _ _ a) (h.outs _ _ b) (h.fs _ _ c) (h.fs _ _ d) e
  |e0 a b c d e=>exact .e0 (h.ks _ _ a) b (h.fs _ _ c) (h.fs _ _ d) e
  |ea z a b c d e f q=>exact .ea (h.az _ z) (h.ks _ _ a) b (h.fs _ _ c) (h.fs _ _ d) e f q
  |al md z a b c=>exact .al md (h.az _ z) (h.ks _ _ a) (h.outs _ _ b) c
 |skip h1 h2 h3 h4=>exact .skip (aaX h h1) (h.ks _ _ h2) (h.outs _ _ h3) h4
structure aa1 (P:Program) (n:Nat) (md:Bool) (l:List Oper) (s0:AS) (g:DD) (s:AS):Prop where
 hs0: ∃f,g.fs[0]?=some f∧f none=s0.st
 hfl:g.fs.length=g.effs.length+1
 hlast: ∃f,g.fs[g.effs.length]?=some f∧f g.cz=s.st∧(md=false→f=fun _=>s.st)∧(md=true→g.az=none→f=fun z=>ab z s.st)
 hk:g.ks.length=g.outs.length
 hi:g.ins.length=g.outs.length
 hz:md=true→ ∀f∈g.fs,f none=FD∨((f none).boxes.length=s0.st.boxes.length∧ ∀z,f (some z)=(f none).addBox z)
 hm:md=false→g.az=none
 hlk: ∀t p,s.lk t=some p→RW l s0.env g.outs g.outs.length t p
 hf: ∀(i:Nat) (o:Oper),l[i]?=some o→i<g.outs.length→MO P n s0.st.boxes.length md l s0.env g i o
def DW(P:Program)(C:lL)(n id:Nat)(md:Bool)(l:List Oper)(Q:Exit→AS→Prop)(s0:AS)(g:DD)(s:AS)(rest:List Oper):Prop:=
 aa1 P n md l s0 g s→l.drop g.outs.length=rest→cF P C n (.region id l.toArray true) Q s0
variable {id:Nat} {l:List Oper} {Q:Exit→AS→Prop} {s0 s:AS} {g:DD} {rest:List Oper} {md:Bool}
theorem dW(h:DW P C n id false l Q s ⟨[],[],[],[],[fun _=>s.st],[],none⟩ s l):cF P C n (.region id l.toArray true) Q s:=
 h ⟨⟨_,rfl,rfl⟩,rfl,⟨_,rfl,rfl,fun _=>rfl,fun h=>(by cases h)⟩,rfl,rfl,fun h=>(by cases h),fun _=>rfl,fun t p ht=> .inr ⟨ht,fun j o hj=>(by cases hj)⟩,fun i o _ hi=>(by cases hi)⟩ rfl
theorem dWa(h:DW P C n id true l Q s ⟨[],[],[],[],[fun z=>ab z s.st],[],none⟩ s l):cF P C n (.region id l.toArray true) Q s:=
 h ⟨⟨_,rfl,rfl⟩,rfl,⟨_,rfl,rfl,fun h=>(by cases h),fun _ _=>rfl⟩,rfl,rfl,fun _ f hf=>(by obtain rfl:=List.mem_singleton.1 hf;exact .inr ⟨rfl,fun z=>rfl⟩),fun h=>(by cases h),fun t p ht=> .inr ⟨ht,fun j o hj=>by cases hj⟩,fun i o _ hi=>by cases hi⟩ rfl
theorem cY{α:Type}{l:List α}{y:α}(i:Nat)(x:α)(h:l[i]?=some x):(l++ [y])[i]?=some x:=by
 obtain⟨hi,-⟩:=List.getElem?_eq_some_iff.1 h
 rw [List.getElem?_append_left hi]
 exact h
theorem bQ{α:Type}{l:List α}{y:α}{k:Nat}(h:l.length=k):(l++ [y])[k]?=some y:=by subst h;simp
theorem sT{o:Oper}(h:l.drop g.outs.length=o::rest):l[g.outs.length]?=some o∧l.drop (g.outs.length+1)=rest:=by
 constructor
 ·have:=congrArg (fun x=>x[0]?) h
  simpa using this
 ·rw [← List.drop_drop,h]
  rfl
theorem aa1.next{g':DD}{s':AS}(hv:aa1 P n md l s0 g s)(ho:l[g.outs.length]?=some o)(hle:g.le g')(h0:g'.outs.length=g.outs.length+1)(hk:g'.ks.length=g.ks.length+1)(hi:g'.ins.length=g.ins.length+1)(hfl:g'.fs.length=g'.effs.length+1)
 (hlast: ∃f,g'.fs[g'.effs.length]?=some f∧f g'.cz=s'.st∧(md=false→f=fun _=>s'.st)∧(md=true→g'.az=none→f=fun z=>ab z s'.st)) (hz:md=true→ ∀f∈g'.fs,f none=FD∨((f none).boxes.length=s0.st.boxes.length∧ ∀z,f (some z)=(f none).addBox z)) (hm:md=false→g'.az=none)
 (hlk: ∀t p,s'.lk t=some p→(o.dst=some t∧g'.outs[g.outs.length]?=some (some p))∨(o.dst≠some t∧s.lk t=some p)) (hf:MO P n s0.st.boxes.length md l s0.env g' g.outs.length o):aa1 P n md l s0 g' s' where
 hs0:=by obtain⟨f,h1,h2⟩:=hv.hs0;exact⟨f,hle.fs _ _ h1,h2⟩
 hfl:=hfl
 hlast:=hlast
 hk:=by rw [hk,h0,hv.hk]
 hi:=by rw [hi,h0,hv.hi]
 hz:=hz
 hm:=hm
 hlk:=fun t p ht=>by
  rcases hlk t p ht with⟨h1,h2⟩|⟨h1,h2⟩
  ·exact .inl ⟨_,o,by omega,ho,h1,h2⟩
  ·rcases hv.hlk t p h2 with⟨j,oj,a,b,c,d⟩|⟨a,b⟩
   ·exact .inl ⟨j,oj,by omega,b,c,hle.outs _ _ d⟩
   ·refine .inr ⟨a,fun j oj hj hoj=>?_⟩
    rcases Nat.lt_or_ge j g.outs.length with hlt|hge
    ·exact b j oj hlt hoj
    ·obtain rfl:j=g.outs.length:=by omega
     rw [ho] at hoj
     cases hoj
     exact h1
 hf:=fun i oi hoi hi'=>by
  rcases Nat.lt_or_ge i g.outs.length with hlt|hge
  ·exact(hv.hf i oi hoi hlt).mono hle
  ·obtain rfl:i=g.outs.length:=by omega
   rw [ho] at hoi
   cases hoi
   exact hf
theorem wQ{st1:cM}{p:PV}(t:Nat)(q:PV)(outs:List (Option PV))(k:Nat)(hk:outs[k]?=some (some p))(h:((⟨s.env,st1⟩:AS).putO o.dst p).lk t=some q):(o.dst=some t∧outs[k]?=some (some q))∨(o.dst≠some t∧s.lk t=some q):=by
 cases hd:o.dst with
 |none=>rw [hd] at h;exact .inr ⟨by simp,h⟩
 |some d=>
  rw [hd,ST] at h
  by_cases htd:t=d
  ·rw [if_pos htd] at h
   cases h
   exact .inl ⟨by rw [htd],hk⟩
  ·rw [if_neg htd] at h
   exact .inr ⟨fun e=>htd (Option.some.inj e).symm,h⟩
theorem w9(s:AS)(d:Option Nat)(p:PV):(s.putO d p).st=s.st:=by cases d<;>rfl
theorem WS.wd{g':DD}{b:Bool}(h:WS l s o b)(hv:aa1 P n md l s0 g s)(hle:g.le g'):WD l s0.env g'.outs g.outs.length o b:=by
 cases h with
 |n a=>exact .n a
 |y a b c=>exact .y a b (KO hle (hv.hlk _ _ c))
 |u a b c=>exact .u a b (KO hle (hv.hlk _ _ c))
theorem BW{g':DD}(hv:aa1 P n md l s0 g s)(hle:g.le g')(I:List Nat): ∀t q,(rs s I).lookup t=some q→t∈I∧RW l s0.env g'.outs g.outs.length t q:=fun t q h=>⟨(aaR h).1,KO hle (hv.hlk t q (aaR h).2)⟩
theorem dI(I:List Nat){p:PV}(h: ∀ {C':lL} {st:cM},a5 P C' n o ⟨rs s I,st⟩ ((⟨rs s I,st⟩:AS).putO o.dst p))(k:DW P C n id md l Q s0 ⟨g.outs++ [some p],g.ks++ [none],g.ins++ [I],g.effs,g.fs,g.rds,g.az⟩ (s.putO o.dst p) rest)(hg:WS l s o true:=by exact .n rfl):
 DW P C n id md l Q s0 g s (o::rest):=fun hv hr=>by
 obtain⟨ho,hd⟩:=sT hr
 have hle:g.le ⟨g.outs++ [some p],g.ks++ [none],g.ins++ [I],g.effs,g.fs,g.rds,g.az⟩:=⟨cY,cY,cY,fun _ _ h=>h,fun _ h=>h,fun _ h=>h⟩
 refine k (hv.next ho hle (by simp) (by simp) (by simp) hv.hfl (by rw [w9];exact hv.hlast) hv.hz hv.hm (fun t q hq=>wQ t q _ _ (bQ rfl) hq) ?_) (by simpa using hd)
 exact .does (hg.wd hv hle) (bQ hv.hi) (BW hv hle I) (.q (bQ hv.hk) (bQ rfl) fun _ _=>h)
theorem dD(I:List Nat){p:PV}(h: ∀ {C':lL},a5 P C' n o ⟨rs s I,s.st⟩ ((⟨rs s I,s.st⟩:AS).putO o.dst p))(k:DW P C n id false l Q s0 ⟨g.outs++ [some p],g.ks++ [some (.q g.effs.length g.effs.length)],g.ins++ [I],g.effs,g.fs,g.rds,g.az⟩ (s.putO o.dst p) rest)(hg:WS l s o true:=by exact .n rfl):
 DW P C n id false l Q s0 g s (o::rest):=fun hv hr=>by
 obtain⟨ho,hd⟩:=sT hr
 obtain⟨f,q1,-,q2,-⟩:=hv.hlast
 have q2:=q2 rfl
 subst q2
 have hle:g.le ⟨g.outs++ [some p],g.ks++ [some (.q g.effs.length g.effs.length)],g.ins++ [I],g.effs,g.fs,g.rds,g.az⟩:=⟨cY,cY,cY,fun _ _ h=>h,fun _ h=>h,fun _ h=>h⟩
 refine k (hv.next ho hle (by simp) (by simp) (by simp) hv.hfl (by rw [w9];exact hv.hlast) hv.hz hv.hm (fun t q hq=>wQ t q _ _ (bQ rfl) hq) ?_) (by simpa using hd)
 exact .does (hg.wd hv hle) (bQ hv.hi) (BW hv hle I) (.c (bQ hv.hk) (bQ rfl) q1 fun _ _=>h)
def abI(P:Program)(n:Nat)(o:Oper)(s:AS)(I:List Nat)(kb:Nat)(X:Option (Option cL))(p:PV):Prop:= ∀C' (st:cM),st.boxes[kb]?=X→a5 P C' n o ⟨rs s I,st⟩ ((⟨rs s I,st⟩:AS).putO o.dst p)
theorem dB(I:List Nat)(lo hi:Nat){kb:Nat}{X:Option (Option cL)}{p:PV}(h:abI P n o s I kb X p)(k:DW P C n id false l Q s0 ⟨g.outs++ [some p],g.ks++ [some (.q lo hi)],g.ins++ [I],g.effs,g.fs,g.rds++ [((lo,hi),kb,X)],g.az⟩ (s.putO o.dst p) rest)(hg:WS l s o true:=by exact .n rfl):
 DW P C n id false l Q s0 g s (o::rest):=fun hv hr=>by
 obtain⟨ho,hd⟩:=sT hr
 have hle:g.le ⟨g.outs++ [some p],g.ks++ [some (.q lo hi)],g.ins++ [I],g.effs,g.fs,g.rds++ [((lo,hi),kb,X)],g.az⟩:=⟨cY,cY,cY,fun _ _ h=>h,fun _ h=>List.mem_append_left _ h,fun _ h=>h⟩
 refine k (hv.next ho hle (by simp) (by simp) (by simp) hv.hfl (by rw [w9];exact hv.hlast) hv.hz hv.hm (fun t q hq=>wQ t q _ _ (bQ rfl) hq) ?_) (by simpa using hd)
 exact .does (hg.wd hv hle) (bQ hv.hi) (BW hv hle I) (.r (bQ hv.hk) (bQ rfl) (by simp) (fun h=>by cases h) h)
theorem dBz(I:List Nat)(lo hi:Nat){kb:Nat}{X:Option (Option cL)}{p:PV}(h:abI P n o s I kb X p)(k:DW P C n id true l Q s0 ⟨g.outs++ [some p],g.ks++ [some (.q lo hi)],g.ins++ [I],g.effs,g.fs,g.rds++ [((lo,hi),kb,X)],g.az⟩ (s.putO o.dst p) rest)(hg:WS l s o true:=by exact .n rfl)(hkN:(decide (kb<s0.st.boxes.length))=true:=by exact rfl):
 DW P C n id true l Q s0 g s (o::rest):=fun hv hr=>by
 obtain⟨ho,hd⟩:=sT hr
 have hle:g.le ⟨g.outs++ [some p],g.ks++ [some (.q lo hi)],g.ins++ [I],g.effs,g.fs,g.rds++ [((lo,hi),kb,X)],g.az⟩:=⟨cY,cY,cY,fun _ _ h=>h,fun _ h=>List.mem_append_left _ h,fun _ h=>h⟩
 refine k (hv.next ho hle (by simp) (by simp) (by simp) hv.hfl (by rw [w9];exact hv.hlast) hv.hz hv.hm (fun t q hq=>wQ t q _ _ (bQ rfl) hq) ?_) (by simpa using hd)
 exact .does (hg.wd hv hle) (bQ hv.hi) (BW hv hle I) (.r (bQ hv.hk) (bQ rfl) (by simp) (fun _=>of_decide_eq_true hkN) h)
theorem vL1{I:List Nat}{T:TypeId}{x:Operand}{kb d z:Nat}{bx:cL}{p:PV}(hT:gA P T=some (false,z))
 (ho:o.op= .load T x:=by exact rfl) (hd:bA o.dst n=true:=by exact rfl) (hx:(⟨rs s I,s.st⟩:AS).ev x=some (.ptr kb d):=by exact rfl) (hb:s.st.boxes[kb]?=some (some bx):=by exact rfl) (hc:bx.cells[d]?=some p:=by exact rfl):abI P n o s I kb (some (some bx)) p:=
 fun C' st hst=>a5.loadPtr1 ho hd (by cases x<;>exact hx) hst hT hc
theorem vLp{I:List Nat}{T:TypeId}{x:Operand}{kb d z:Nat}{bx:cL}(cs:List PV)(hT:gA P T=some (true,z))
 (ho:o.op= .load T x:=by exact rfl) (hd:bA o.dst n=true:=by exact rfl) (hx:(⟨rs s I,s.st⟩:AS).ev x=some (.ptr kb d):=by exact rfl) (hb:s.st.boxes[kb]?=some (some bx):=by exact rfl) (hc:(bx.cells.drop d).take z=cs:=by exact rfl) (hl:cs.length=z:=by exact rfl):abI P n o s I kb (some (some bx)) (.agg cs):=
 fun C' st hst=>a5.loadPtr ho hd (by cases x<;>exact hx) hst hT hc hl
theorem dE(I:List Nat){p:PV}{st1:cM}(h: ∀ {C':lL},a5 P C' n o ⟨rs s I,s.st⟩ ((⟨rs s I,st1⟩:AS).putO o.dst p))(k:DW P C n id false l Q s0 ⟨g.outs++ [some p],g.ks++ [some (.ef g.effs.length)],g.ins++ [I],g.effs++ [g.outs.length],g.fs++ [fun _=>st1],g.rds,g.az⟩ ((⟨s.env,st1⟩:AS).putO o.dst p) rest)(hg:WS l s o true:=by exact .n rfl):
 DW P C n id false l Q s0 g s (o::rest):=fun hv hr=>by
 obtain⟨ho,hd⟩:=sT hr
 obtain⟨f,q1,-,q2,-⟩:=hv.hlast
 have q2:=q2 rfl
 subst q2
 have hle:g.le ⟨g.outs++ [some p],g.ks++ [some (.ef g.effs.length)],g.ins++ [I],g.effs++ [g.outs.length],g.fs++ [fun _=>st1],g.rds,g.az⟩:=⟨cY,cY,cY,cY,fun _ h=>h,fun _ h=>h⟩
 refine k (hv.next ho hle (by simp) (by simp) (by simp) (by simp [hv.hfl]) (by rw [w9];exact⟨_,bQ (by simp [hv.hfl]),rfl,fun _=>rfl,fun h=>by cases h⟩) (fun h=>by cases h) hv.hm (fun t q hq=>wQ t q _ _ (bQ rfl) hq) ?_) (by simpa using hd)
 exact .does (hg.wd hv hle) (bQ hv.hi) (BW hv hle I) (.e (bQ hv.hk) (bQ rfl) (hle.fs _ _ q1) (bQ hv.hfl) fun _ _=>h)
theorem kS(I:List Nat){st1:cM}(h: ∀ {C':lL},a5 P C' n o ⟨rs s I,s.st⟩ ⟨rs s I,st1⟩)(k:DW P C n id false l Q s0 ⟨g.outs++ [none],g.ks++ [some (.ef g.effs.length)],g.ins++ [I],g.effs++ [g.outs.length],g.fs++ [fun _=>st1],g.rds,g.az⟩ ⟨s.env,st1⟩ rest)(hn:o.dst=none:=by exact rfl)(hg:WS l s o true:=by exact .n rfl):
 DW P C n id false l Q s0 g s (o::rest):=fun hv hr=>by
 obtain⟨ho,hd⟩:=sT hr
 obtain⟨f,q1,-,q2,-⟩:=hv.hlast
 have q2:=q2 rfl
 subst q2
 have hle:g.le ⟨g.outs++ [none],g.ks++ [some (.ef g.effs.length)],g.ins++ [I],g.effs++ [g.outs.length],g.fs++ [fun _=>st1],g.rds,g.az⟩:=⟨cY,cY,cY,cY,fun _ h=>h,fun _ h=>h⟩
 refine k (hv.next ho hle (by simp) (by simp) (by simp) (by simp [hv.hfl]) ⟨_,bQ (by simp [hv.hfl]),rfl,fun _=>rfl,fun h=>by cases h⟩ (fun h=>by cases h) hv.hm (fun t q hq=> .inr ⟨by rw [hn];simp,hq⟩) ?_) (by simpa using hd)
 exact .does (hg.wd hv hle) (bQ hv.hi) (BW hv hle I) (.e0 (bQ hv.hk) hn (hle.fs _ _ q1) (bQ hv.hfl) fun _ _=>h)
theorem dEz(I:List Nat){p:PV}{st1:cM}(h: ∀C' z,a5 P C' n o ⟨rs s I,ab z s.st⟩ ((⟨rs s I,ab z st1⟩:AS).putO o.dst p))(k:DW P C n id true l Q s0 ⟨g.outs++ [some p],g.ks++ [some (.ef g.effs.length)],g.ins++ [I],g.effs++ [g.outs.length],g.fs++ [fun z=>ab z st1],g.rds,g.az⟩ ((⟨s.env,st1⟩:AS).putO o.dst p) rest)(hg:WS l s o true:=by exact .n rfl)(haz:g.az=none:=by exact rfl)(hlen:st1.boxes.length=s0.st.boxes.length:=by exact rfl):
 DW P C n id true l Q s0 g s (o::rest):=fun hv hr=>by
 obtain⟨ho,hd⟩:=sT hr
 obtain⟨f,q1,-,-,q2⟩:=hv.hlast
 have q2:=q2 rfl haz
 subst q2
 have hcz:g.cz=none:=by unfold DD.cz;rw [haz];rfl
 have hle:g.le ⟨g.outs++ [some p],g.ks++ [some (.ef g.effs.length)],g.ins++ [I],g.effs++ [g.outs.length],g.fs++ [fun z=>ab z st1],g.rds,g.az⟩:=⟨cY,cY,cY,cY,fun _ h=>h,fun _ h=>h⟩
 refine k (hv.next ho hle (by simp) (by simp) (by simp) (by simp [hv.hfl]) (by rw [w9];exact⟨_,bQ (by simp [hv.hfl]),(by show ab g.cz st1=st1;rw [hcz];rfl),fun h=>(by cases h),fun _ _=>rfl⟩) (fun hmd f hf=>(List.mem_append.1 hf).elim (hv.hz hmd f) fun h=>by obtain rfl:=List.mem_singleton.1 h;exact .inr ⟨hlen,fun z=>rfl⟩) hv.hm (fun t q hq=>wQ t q _ _ (bQ rfl) hq) ?_) (by simpa using hd)
 exact .does (hg.wd hv hle) (bQ hv.hi) (BW hv hle I) (.e (bQ hv.hk) (bQ rfl) (hle.fs _ _ q1) (bQ hv.hfl) h)
theorem dA{zb:cL}(h: ∀C' st,st.boxes.length=s0.st.boxes.length→a5 P C' n o ⟨[],st⟩ ((⟨[],st.addBox zb⟩:AS).putO o.dst (.ptr s0.st.boxes.length 0)))(k:DW P C n id true l Q s0 ⟨g.outs++ [some (.ptr s0.st.boxes.length 0)],g.ks++ [some .al],g.ins++ [[]],g.effs,g.fs,g.rds,some (g.outs.length,zb)⟩ ((⟨s.env,s.st.addBox zb⟩:AS).putO o.dst (.ptr s0.st.boxes.length 0)) rest)(hg:WS l s o true:=by exact .n rfl)(haz:g.az=none:=by exact rfl):
 DW P C n id true l Q s0 g s (o::rest):=fun hv hr=>by
 obtain⟨ho,hd⟩:=sT hr
 obtain⟨f,q1,-,-,q2⟩:=hv.hlast
 have q2:=q2 rfl haz
 subst q2
 have hle:g.le ⟨g.outs++ [some (.ptr s0.st.boxes.length 0)],g.ks++ [some .al],g.ins++ [[]],g.effs,g.fs,g.rds,some (g.outs.length,zb)⟩:=⟨cY,cY,cY,fun _ _ h=>h,fun _ h=>h,fun x h=>by rw [haz] at h;cases h⟩
 refine k (hv.next ho hle (by simp) (by simp) (by simp) hv.hfl ⟨_,q1,by rw [w9];rfl,fun h=>(by cases h),fun _ h=>by cases h⟩ hv.hz (fun h=>by cases h) (fun t q hq=>wQ t q _ _ (bQ rfl) hq) ?_) (by simpa using hd)
 exact .does (E:= []) (hg.wd hv hle) (bQ hv.hi) (fun t q h=>by cases h) (.al rfl rfl (bQ hv.hk) (bQ rfl) h)
theorem dZ(t:Nat)(I:List Nat){off a:Nat}{zb:cL}{st1:cM}(h: ∀ {C':lL},a5 P C' n o ⟨rs s I,s.st⟩ ⟨rs s I,st1⟩)(k:DW P C n id true l Q s0 ⟨g.outs++ [none],g.ks++ [some (.ef g.effs.length)],g.ins++ [I],g.effs++ [g.outs.length],g.fs++ [tw st1],g.rds,g.az⟩ ⟨s.env,st1⟩ rest)(hn:o.dst=none:=by exact rfl)(hg:WS l s o true:=by exact .n rfl)(haz:g.az=some (a,zb):=by exact rfl)(hp:(rs s I).lookup t=some (.ptr s0.st.boxes.length off):=by exact rfl):
 DW P C n id true l Q s0 g s (o::rest):=fun hv hr=>by
 obtain⟨ho,hd⟩:=sT hr
 obtain⟨f,q1,q2,-,-⟩:=hv.hlast
 have hcz:g.cz=some zb:=by unfold DD.cz;rw [haz];rfl
 rw [hcz] at q2
 have q3:=hv.hz rfl f (List.mem_iff_getElem?.2 ⟨_,q1⟩)
 have hle:g.le ⟨g.outs++ [none],g.ks++ [some (.ef g.effs.length)],g.ins++ [I],g.effs++ [g.outs.length],g.fs++ [tw st1],g.rds,g.az⟩:=⟨cY,cY,cY,cY,fun _ h=>h,fun _ h=>h⟩
 refine k (hv.next ho hle (by simp) (by simp) (by simp) (by simp [hv.hfl]) ⟨_,bQ (by simp [hv.hfl]),(by show tw st1 g.cz=st1;rw [hcz];rfl),fun h=>(by cases h),fun _ h=>(by rw [show g.az=none from h] at haz;cases haz)⟩ (fun hmd f hf=>(List.mem_append.1 hf).elim (hv.hz hmd f) fun h=>by obtain rfl:=List.mem_singleton.1 h;exact .inl rfl) hv.hm (fun t q hq=> .inr ⟨by rw [hn];simp,hq⟩) ?_) (by simpa using hd)
 exact .does (hg.wd hv hle) (bQ hv.hi) (BW hv hle I) (.ea haz (bQ hv.hk) hn (hle.fs _ _ q1) (bQ hv.hfl) hp (q3.imp (fun x=>x) (·.1)) (by rw [q2];exact fun _=>h))
theorem vAl{T:TypeId}{ps:List PV}{st:cM}{N:Nat}(hN:st.boxes.length=N)(hz:fV P T=some ps)(ho:o.op= .alloc T:=by exact rfl)(hd:bA o.dst n=true:=by exact rfl):a5 P C n o ⟨[],st⟩ ((⟨[],st.addBox ⟨T,ps⟩⟩:AS).putO o.dst (.ptr N 0)):=by
 subst hN
 exact a5.alloc (s:=⟨[],st⟩) ho hd hz
theorem dS(k:DW P C n id md l Q s0 ⟨g.outs++ [some (.tup [])],g.ks++ [none],g.ins++ [[]],g.effs,g.fs,g.rds,g.az⟩ (s.putO o.dst (.tup [])) rest)(hg:WS l s o false)(hd':bA o.dst n=true):
 DW P C n id md l Q s0 g s (o::rest):=fun hv hr=>by
 obtain⟨ho,hd⟩:=sT hr
 have hle:g.le ⟨g.outs++ [some (.tup [])],g.ks++ [none],g.ins++ [[]],g.effs,g.fs,g.rds,g.az⟩:=⟨cY,cY,cY,fun _ _ h=>h,fun _ h=>h,fun _ h=>h⟩
 refine k (hv.next ho hle (by simp) (by simp) (by simp) hv.hfl (by rw [w9];exact hv.hlast) hv.hz hv.hm (fun t q hq=>wQ t q _ _ (bQ rfl) hq) ?_) (by simpa using hd)
 exact .skip (hg.wd hv hle) (bQ hv.hk) (bQ rfl) hd'
theorem ME{j d:Nat}{b c e:Bool}(hv:b=e)(k:DW P C n id md l Q s0 ⟨g.outs++ [some (.tup [])],g.ks++ [none],g.ins++ [[]],g.effs,g.fs,g.rds,g.az⟩ (s.putO o.dst (.tup [])) rest)(hg:o.guard=some (j,c):=by exact rfl)(hj:(l[j]?).bind (·.dst)=some d:=by exact rfl)(hb:s.lk d=some (.t (.leaf (.bool b))):=by exact rfl)(hne:(e==c)=false:=by exact rfl)(hd':bA o.dst n=true:=by exact rfl):
 DW P C n id md l Q s0 g s (o::rest):=dS k (by subst hv;have:=WS.y hg hj hb;rwa [hne] at this) hd'
theorem dSu{j d:Nat}{c:Bool}(k:DW P C n id md l Q s0 ⟨g.outs++ [some (.tup [])],g.ks++ [none],g.ins++ [[]],g.effs,g.fs,g.rds,g.az⟩ (s.putO o.dst (.tup [])) rest)(hg:o.guard=some (j,c):=by exact rfl)(hj:(l[j]?).bind (·.dst)=some d:=by exact rfl)(hb:s.lk d=some (.tup []):=by exact rfl)(hd':bA o.dst n=true:=by exact rfl):
 DW P C n id md l Q s0 g s (o::rest):=dS k (.u hg hj hb) hd'
theorem a6{j d:Nat}{b c:Bool}(hv:b=c)(hg:o.guard=some (j,c):=by exact rfl)(hj:(l[j]?).bind (·.dst)=some d:=by exact rfl)(hb:s.lk d=some (.t (.leaf (.bool b))):=by exact rfl):WS l s o true:=by
 subst hv
 have:=WS.y hg hj hb
 rwa [BEq.rfl] at this
theorem ac4{ops:Array Oper}(h: ∀i o,ops[i]?=some o→ ∀e∈o.after,Region.binds .any e=true→e.on<i): ∀(fuel i j:Nat),KU ops fuel i j=true→i<j
 |0,_,_,h'=>by simp [KU] at h'
 |fuel+1,i,j,h'=>by
  simp only [KU] at h'
  split at h'
  ·rename_i o ho
   rw [List.any_eq_true] at h'
   obtain⟨e,he,h'⟩:=h'
   simp only [Bool.and_eq_true,Bool.or_eq_true,beq_iff_eq] at h'
   have h1:=h j o ho e (by simpa using he) h'.1
   rcases h'.2 with h2|h2
   ·omega
   ·have:=ac4 h fuel i e.on h2
    omega
  ·cases h'
def OZ(l:List Oper)(i t:Nat):Option Nat:=match mD l.toArray t with
 |some j=>if j<i then some j else none
 |none=>none
def DD.draw(g:DD)(l:List Oper)(s0:AS):fT where
 ops:=l.toArray
 env0:=s0.env
 F:=fun j b=>match g.fs[j]? with
  |some f=>f (bif b then g.cz else none)
  |none=>ab (bif b then g.cz else none) s0.st
 out:=fun i=>(g.outs[i]?).getD none
 kind:=fun i=>match g.ks[i]? with
  |some (some k)=>k
  |_=> .q 0 g.effs.length
 effs:=g.effs
 alloc:=g.az.map (·.1)
 ins:=fun i=>((g.ins[i]?).getD []).map fun t=>(t,OZ l i t)
def adZ(fs:List (Option cL→cM))(z:Option cL)(x:(Nat×Nat)×Nat×Option (Option cL)):List (Option (Option (Option cL))):=(List.range' x.1.1 (x.1.2+1-x.1.1)).map fun j=>(fs[j]?).map fun f=>(f z).boxes[x.2.1]?
def adY(x:(Nat×Nat)×Nat×Option (Option cL)):List (Option (Option (Option cL))):=(List.range' x.1.1 (x.1.2+1-x.1.1)).map fun _=>some x.2.2
theorem KP(hn:vO l.toArray=true){j t:Nat}(ho:l[j]?=some o)(hd:o.dst=some t):mD l.toArray t=some j:=fF hn (by simpa using ho) hd
theorem ahQ{fs:List (Option cL→cM)}{z:Option cL}{rds:List ((Nat×Nat)×Nat×Option (Option cL))}(h:rds.map (adZ fs z)=rds.map adY){lo hi kb j:Nat}{X:Option (Option cL)}(hm:((lo,hi),kb,X)∈rds)(h1:lo≤j)(h2:j≤hi){f:Option cL→cM}(hs:fs[j]?=some f):(f z).boxes[kb]?=X:=by
 have e:=List.map_inj_left.1 h _ hm
 unfold adZ adY at e
 have:=List.map_inj_left.1 e j (by simp [List.mem_range'];exact⟨j-lo,by omega,by omega⟩)
 simpa [hs] using this
theorem dN(h:Q .normal s)(hm:P.follows .mixedOrders=true:=by exact ahF)(hok:(g.draw l s0).ok=true:=by kernel_rfl)(hrd:g.rds.map (adZ g.fs g.cz)=g.rds.map adY:=by kernel_rfl):DW P C n id md l Q s0 g s []:=fun hv hr=>by
 have hlen:l.length≤g.outs.length:=by
  have:=congrArg List.length hr
  simp at this
  omega
 have hok':=hok
 simp only [fT.ok,Bool.and_eq_true] at hok'
 have hn:vO l.toArray=true:=hok'.1.1.1.2
 have hpv: ∀i t q,RW l s0.env g.outs i t q→(g.draw l s0).pv (t,OZ l i t)=some q:=fun i t q hs=>by
  rcases hs with⟨j,oj,h1,h2,h3,h4⟩|⟨h1,h2⟩
  ·have hw:=KP hn h2 h3
   unfold OZ
   rw [hw]
   dsimp only
   rw [if_pos h1]
   show(g.outs[j]?).getD none=some q
   rw [h4]
   rfl
  ·have hw:OZ l i t=none:=by
    unfold OZ
    split
    ·rename_i j hj
     obtain⟨-,oj,h3,h4⟩:=s6 hj
     split
     ·rename_i hji
      exact absurd h4 (h2 j oj hji (by simpa using h3))
     ·rfl
    ·rfl
   rw [hw]
   exact h1
 have hF: ∀ {j:Nat} {f:Option cL→cM},g.fs[j]?=some f→ ∀b,(g.draw l s0).F j b=f (bif b then g.cz else none):=fun {j f} hj b=>by show(match g.fs[j]? with|some f=>f (bif b then g.cz else none)|none=>ab (bif b then g.cz else none) s0.st)=_;rw [hj]
 have hK: ∀ {i:Nat} {k:DK},g.ks[i]?=some (some k)→(g.draw l s0).kind i=k:=fun {i k} hk=>by show(match g.ks[i]? with|some (some k)=>k|_=> .q 0 g.effs.length)=_;rw [hk]
 have hK0: ∀ {i:Nat},g.ks[i]?=some none→(g.draw l s0).kind i= .q 0 g.effs.length:=fun {i} hk=>by show(match g.ks[i]? with|some (some k)=>k|_=>DK.q 0 g.effs.length)=_;rw [hk]
 have hout: ∀ {i:Nat} {p:PV},g.outs[i]?=some (some p)→(g.draw l s0).out i=some p:=fun hp=>by show(g.outs[_]?).getD none=_;rw [hp];rfl
 have hops:=hok'.1.1.1.1
 rw [List.all_eq_true] at hops
 have hgs: ∀(i:Nat) (o:Oper) (j d:Nat) (c:Bool) (p:PV),l[i]?=some o→o.guard=some (j,c)→(l[j]?).bind (·.dst)=some d→RW l s0.env g.outs i d p→(g.draw l s0).out j=some p:=fun i o j d c p ho hg hj hs=>by
  obtain⟨oj,hoj,hdj⟩: ∃oj,l[j]?=some oj∧oj.dst=some d:=by
   cases hx:l[j]? with
   |none=>rw [hx] at hj;cases hj
   |some oj=>rw [hx] at hj;exact⟨oj,rfl,hj⟩
  have hw:=KP hn hoj hdj
  rcases hs with⟨j',oj',h1,h2,h3,h4⟩|⟨h1,h2⟩
  ·have hw':=KP hn h2 h3
   rw [hw] at hw'
   cases hw'
   exact hout h4
  ·have hil:=(List.getElem?_eq_some_iff.1 ho).1
   have h5:=hops i (by simpa [DD.draw] using hil)
   have ho':(g.draw l s0).ops[i]?=some o:=by simpa [DD.draw] using ho
   simp only [fT.okOp,ho',hg,Bool.and_eq_true] at h5
   have h6:(g.draw l s0).anc j i=true:=h5.2.1
   have:=ac4 (fun i' o' ho' e he hb=>by
    have hil':=(Array.getElem?_eq_some_iff.1 ho').1
    have h7:=hops i' (by simpa using hil')
    simp only [fT.okOp,ho',Bool.and_eq_true,Array.all_eq_true'] at h7
    have h3:=h7.1 e he
    simpa [hb] using h3) _ _ _ h6
   exact absurd hdj (h2 j oj this hoj)
 have hwant: ∀ {i:Nat} {o:Oper} {b:Bool},l[i]?=some o→WD l s0.env g.outs i o b→(g.draw l s0).want o=some b:=fun {i o b} ho hw=>by
  unfold fT.want
  cases hw with
  |n a=>rw [a]
  |y a b c=>rw [a];dsimp only;rw [hgs _ _ _ _ _ _ ho a b c]
  |u a b c=>rw [a];dsimp only;rw [hgs _ _ _ _ _ _ ho a b c]
 have hstep: ∀i o,(g.draw l s0).ops[i]?=some o→(g.draw l s0).step P C n i o:=fun i o ho=>by
  have ho':l[i]?=some o:=by simpa [DD.draw] using ho
  obtain⟨hil,-⟩:=List.getElem?_eq_some_iff.1 ho'
  cases hv.hf i o ho' (by omega) with
  |does h1 h2 h3 h4=>
   rename_i E I
   refine .inl ⟨hwant ho' h1,?_⟩
   have hl: ∀s':AS,(∀t src p,(t,src)∈(g.draw l s0).ins i→(g.draw l s0).pv (t,src)=some p→s'.lk t=some p)→ ∀t q,E.lookup t=some q→s'.lk t=some q:=fun s' hl t q ht=>by
    obtain⟨h5,h6⟩:=h3 t q ht
    refine hl t (OZ l i t) q ?_ (hpv i t q h6)
    show(t,OZ l i t)∈((g.ins[i]?).getD []).map _
    rw [h2]
    exact List.mem_map.2 ⟨t,h5,rfl⟩
   unfold fT.does
   cases h4 with
   |q a b c=>
    rw [hK0 a]
    exact fun s' j bb _ _ hs hin=>⟨_,hout b,a5.frame (st:=s'.st) (fun C'=>c C' s'.st) rfl (hl s' hin)⟩
   |r a b c kN d=>
    rename_i lo hi kb X p
    have hk:=hK a
    rw [hk]
    intro s' j bb q1 q2 hs hin
    have hjl:hi<g.fs.length:=by
     have:=hok'.1.1.2
     rw [List.all_eq_true] at this
     have:=this i (by simpa [DD.draw] using hil)
     simp only [Bool.and_eq_true,fT.okKind,hk] at this
     have h9:=this.1.1.1.1.1.2
     simp only [decide_eq_true_eq] at h9
     have h10:hi≤g.effs.length:=h9
     rw [hv.hfl]
     omega
    obtain⟨f,hst⟩: ∃f,g.fs[j]?=some f:=⟨_,List.getElem?_eq_getElem (by omega)⟩
    have hX:=ahQ hrd c q1 q2 hst
    rw [hF hst] at hs
    have hcase:s'.st=f g.cz∨(md=true∧s'.st=f none):=by
     cases bb with
     |true=>exact .inl hs
     |false=>
      cases md with
      |true=>exact .inr ⟨rfl,hs⟩
      |false=>
       have:g.cz=none:=by unfold DD.cz;rw [hv.hm rfl];rfl
       rw [this]
       exact .inl hs
    rcases hcase with hs|⟨hmd,hs⟩
    ·exact⟨_,hout b,a5.frame (st:=s'.st) (fun C'=>d C' s'.st (by rw [hs];exact hX)) rfl (hl s' hin)⟩
    ·rcases hv.hz hmd f (List.mem_iff_getElem?.2 ⟨_,hst⟩) with h9|⟨h9,h10⟩
     ·exact⟨_,hout b,a5.bad (by rw [hs,h9])⟩
     ·refine⟨_,hout b,a5.frame (st:=s'.st) (fun C'=>d C' s'.st ?_) rfl (hl s' hin)⟩
      rw [hs,← hX]
      cases hz:g.cz with
      |none=>rfl
      |some z=>
       rw [h10 z]
       show _=((f none).boxes++ [some z])[kb]?
       rw [List.getElem?_append_left (by rw [h9];exact kN hmd)]
   |c a b c d=>
    rename_i j f p
    rw [hK a]
    refine fun s' jj bb q1 q2 hs hin=>⟨_,hout b,?_⟩
    obtain rfl:jj=j:=by omega
    exact a5.frame (st:=s'.st) (fun C'=>by rw [hs,hF c];exact d C' _) rfl (hl s' hin)
   |e a b c d e=>
    rename_i j f f1 p
    rw [hK a]
    refine fun s' bb hs hin=> .inl ⟨_,hout b,?_⟩
    rw [hF d]
    exact a5.frame (fun C'=>e C' _) (by rw [hs,hF c]) (hl s' hin)
   |e0 a b c d e=>
    rename_i j f f1
    rw [hK a]
    refine fun s' bb hs hin=> .inr ⟨b,?_⟩
    rw [hF d]
    exact a5.frame0 b (fun C'=>e C' _) (by rw [hs,hF c]) (hl s' hin)
   |ea z a b c d e f q=>
    rename_i j a' t off zb f0 f1
    have hcz:g.cz=some zb:=by unfold DD.cz;rw [z];rfl
    rw [hK a]
    refine fun s' bb hs hin=> .inr ⟨b,?_⟩
    rw [hF d]
    rw [hF c] at hs
    cases bb with
    |true=>
     rw [hcz] at hs ⊢
     exact a5.frame0 b q hs (hl s' hin)
    |false=>
     rcases f with f|f
     ·exact a5.bad (hs.trans f)
     ·refine a5.away (hl s' hin t _ e) ?_
      rw [hs]
      show(f0 none).boxes[_]?=none
      rw [List.getElem?_eq_none (by rw [f];exact Nat.le_refl _)]
   |al hmd z a b c=>
    rename_i zb
    have hcz:g.cz=some zb:=by unfold DD.cz;rw [z];rfl
    rw [hK a]
    refine fun s' j hs=>⟨_,hout b,?_⟩
    have key:s'.st=FD∨(s'.st.boxes.length=s0.st.boxes.length∧(g.draw l s0).F j true=s'.st.addBox zb):=by
     cases hj:g.fs[j]? with
     |none=>
      have h8: ∀b,(g.draw l s0).F j b=ab (bif b then g.cz else none) s0.st:=fun b=>by show(match g.fs[j]? with|some f=>f (bif b then g.cz else none)|none=>ab (bif b then g.cz else none) s0.st)=_;rw [hj]
      rw [h8] at hs ⊢
      refine .inr ⟨by rw [hs];rfl,?_⟩
      rw [hs,hcz]
      rfl
     |some f=>
      rw [hF hj] at hs ⊢
      rcases hv.hz hmd f (List.mem_iff_getElem?.2 ⟨_,hj⟩) with h9|⟨h9,h10⟩
      ·exact .inl (hs.trans h9)
      ·refine .inr ⟨by rw [hs];exact h9,?_⟩
       rw [hs,hcz]
       exact h10 zb
    rcases key with h9|⟨h9,h10⟩
    ·exact a5.bad h9
    ·rw [h10]
     exact a5.frame (E:= []) (fun C'=>c C' s'.st h9) rfl (fun t q h=>by cases h)
  |skip h1 h2 h3 h4=>exact .inr ⟨hwant ho' h1,⟨_,_,hK0 h2⟩,.inr ⟨hout h3,h4⟩⟩
 intro m a w hra
 refine wp_mono (cF.drawn (g.draw l s0) (Q:=fun e s'=>e= .normal∧s'=⟨((List.range (g.draw l s0).ops.size).filterMap ((g.draw l s0).gX (Array.replicate (g.draw l s0).ops.size true)))++(g.draw l s0).env0,(g.draw l s0).F (g.draw l s0).effs.length (g.draw l s0).alloc.isSome⟩) hm hok rfl (by obtain⟨f,h1,h2⟩:=hv.hs0;rw [hF h1];exact h2.symm) hstep ⟨rfl,rfl⟩ m a w hra) fun e a' w'=>?_;rintro⟨s',m',⟨rfl,rfl⟩,h2⟩
 obtain⟨f,q1,q2,-,-⟩:=hv.hlast
 refine⟨s,m',h,RA.congr h2 ((hF q1 _).trans (Eq.trans (by cases ha:g.az with|none=>(show f (bif (g.az.map (·.1)).isSome then g.cz else none)=f g.cz;unfold DD.cz;rw [ha];rfl)|some x=>(show f (bif (g.az.map (·.1)).isSome then g.cz else none)=f g.cz;unfold DD.cz;rw [ha];rfl)) q2)) fun t p ht=>?_⟩
 show((g.draw l s0).sX (Array.replicate (g.draw l s0).ops.size true)).lk t=some p
 rcases hv.hlk t p ht with⟨j,oj,h1,h3,h4,h5⟩|⟨h1,h3⟩
 ·have hjl:j<l.length:=(List.getElem?_eq_some_iff.1 h3).1
  exact FV hn (i:=j) (o:=oj) (by have:j<(g.draw l s0).ops.size:=(by simpa [DD.draw] using hjl);simp [Array.getD_eq_getD_getElem?,this]) (by simpa [DD.draw] using h3) h4 (hout h5)
 ·rw [C2 hn fun i hi=>?_]
  ·exact h1
  ·obtain⟨hil,oi,h6,h7⟩:=s6 hi
   exact absurd h7 (h3 i oi (by have:i<l.length:=(by simpa [DD.draw] using hil);omega) (by simpa [DD.draw] using h6))
end
end Go.Proofs.YtfcoaagbccmahaaGreat

namespace Go.Proofs.YtfcoaagbccmahaaGreat
open Go.RowKit Go.WalkArith Go.IntWalk Go.WideShapes
class RL (es:List (List Tr)) (α:outParam Type) [Inhabited α] [TC α] (l:outParam (List α)):Prop where h:es=TC.trs l
instance(l:List ByteArray):RL (aW l) ByteArray l:=⟨rfl⟩
instance(l:List Int):RL (lQ l) Int l:=⟨rfl⟩
instance(l:List UInt8):RL (iY l) UInt8 l:=⟨rfl⟩
structure GR (k:Nat) (G G':Prop):Prop where h:G'→G
theorem gr0{G:Prop}:GR 0 G G:=⟨id⟩
theorem grS{k:Nat}{G G1 G':Prop}(f:G1→G)(h:GR k G1 G'):GR (k+1) G G':=⟨fun x=>f (h.h x)⟩
section
variable {P:Program} {C:lL} {n:Nat} {s:AS} {o:Oper} {T:TypeId} {x y:Operand} {k d z e f:Nat} {bx:cL} {p:PV} {I:List Nat}
theorem bS(ho:o.op= .fieldAddr T x f:=by exact rfl)(hd:bA o.dst n=true:=by exact rfl)(hx:s.ev x=some (.ptr k d):=by exact rfl)(hf:FO P T f e:=by infer_instance):a5 P C n o s (s.putO o.dst (.ptr k (d+e))):=rFp hf.h ho hd hx
theorem y2{cs:List Tr}(ho:o.op= .fieldAddr T x f:=by exact rfl)(hd:bA o.dst n=true:=by exact rfl)(hx:s.ev x=some (.eptr cs):=by exact rfl)(hf:FO P T f e:=by infer_instance):a5 P C n o s (s.putO o.dst (.eptr (cs.drop e))):=rFe hf.h ho hd hx
theorem eE(ho:o.op= .load T x:=by exact rfl)(hd:bA o.dst n=true:=by exact rfl)(hx:s.ev x=some (.ptr k d):=by exact rfl)(hb:s.st.boxes[k]?=some (some bx):=by exact rfl)(hc:bx.cells[d]?=some p:=by exact rfl)(hT:SH P T (false,z):=by infer_instance):a5 P C n o s (s.putO o.dst p):=rL1 hT.h ho hd hx hb hc
theorem cK(cs:List PV)(ho:o.op= .load T x:=by exact rfl)(hd:bA o.dst n=true:=by exact rfl)(hx:s.ev x=some (.ptr k d):=by exact rfl)(hb:s.st.boxes[k]?=some (some bx):=by exact rfl)(hT:SH P T (true,z):=by infer_instance)(hc:(bx.cells.drop d).take z=cs:=by exact rfl)(hl:cs.length=z:=by exact rfl):a5 P C n o s (s.putO o.dst (.agg cs)):=rLp cs hT.h ho hd hx hb hc hl
theorem xR{w:Tr}{cs:List Tr}(ho:o.op= .load T x:=by exact rfl)(hd:bA o.dst n=true:=by exact rfl)(hx:s.ev x=some (.eptr cs):=by exact rfl)(hc:cs[0]?=some w:=by exact rfl)(hT:SH P T (false,z):=by infer_instance):a5 P C n o s (s.putO o.dst (.t w)):=rK1 hT.h ho hd hx hc
theorem jB{cs:List Tr}(ds:List Tr)(ho:o.op= .load T x:=by exact rfl)(hd:bA o.dst n=true:=by exact rfl)(hx:s.ev x=some (.eptr cs):=by exact rfl)(hT:SH P T (true,z):=by infer_instance)(hc:cs.take z=ds:=by exact rfl)(hl:ds.length=z:=by exact rfl):a5 P C n o s (s.putO o.dst (.agg (ds.map PV.t))):=rKe ds hT.h ho hd hx hc hl
theorem t7(ho:o.op= .load T x:=by exact rfl)(hd:bA o.dst n=true:=by exact rfl)(hx:(⟨rs s I,s.st⟩:AS).ev x=some (.ptr k d):=by exact rfl)(hb:s.st.boxes[k]?=some (some bx):=by exact rfl)(hc:bx.cells[d]?=some p:=by exact rfl)(hT:SH P T (false,z):=by infer_instance):abI P n o s I k (some (some bx)) p:=vL1 hT.h ho hd hx hb hc
theorem GP(cs:List PV)(ho:o.op= .load T x:=by exact rfl)(hd:bA o.dst n=true:=by exact rfl)(hx:(⟨rs s I,s.st⟩:AS).ev x=some (.ptr k d):=by exact rfl)(hb:s.st.boxes[k]?=some (some bx):=by exact rfl)(hT:SH P T (true,z):=by infer_instance)(hc:(bx.cells.drop d).take z=cs:=by exact rfl)(hl:cs.length=z:=by exact rfl):abI P n o s I k (some (some bx)) (.agg cs):=vLp cs hT.h ho hd hx hb hc hl
theorem tAl{ps:List PV}(ho:o.op= .alloc T:=by exact rfl)(hd:bA o.dst n=true:=by exact rfl)(hz:ZR P T ps:=by infer_instance):a5 P C n o s ((⟨s.env,s.st.addBox ⟨T,ps⟩⟩:AS).putO o.dst (.ptr s.st.boxes.length 0)):=rAl hz.h ho hd
theorem jP{cs ds:List PV}(ho:o.op= .store T x y:=by exact rfl)(hx:s.ev x=some (.ptr k d):=by exact rfl)(hb:s.st.boxes[k]?=some (some bx):=by exact rfl)(hy:s.ev y=some p:=by exact rfl)(hc:rZ p=cs:=by exact rfl)(ht:rJ p=true:=by exact rfl)(hf:BG cs=true:=by exact rfl)(hT:SZ P T z:=by infer_instance)(hz:z=cs.length:=by exact rfl)
 (hfit:d+cs.length≤bx.cells.length:=by exact Nat.le_of_ble_eq_true rfl) (hds:bx.cells.take d++cs++bx.cells.drop (d+cs.length)=ds:=by exact rfl):a5 P C n o s ((⟨s.env,s.st.setBox k ⟨bx.ty,ds⟩⟩:AS).delO o.dst):=rSu (hz ▸ hT.h) ho hx hb hy hc ht hf hfit hds
theorem nU{parts:Array (Nat×Operand)}{ps:List (Nat×List PV)}{zs cs:List PV}{places:List (Nat×Nat)}(ho:o.op= .build T parts:=by exact rfl)(hd:bA o.dst n=true:=by exact rfl)(hp:jR s parts.toList=some ps:=by exact rfl)(hz:ZR P T zs:=by infer_instance)(hpl:MB P T places:=by infer_instance)(hc:nV (fun i=>places.toArray[i]?) zs ps=some cs:=by exact rfl):a5 P C n o s (s.putO o.dst (.agg cs)):=rBd hz.h hpl.h ho hd hp hc
theorem tF1{cs:List PV}(ho:o.op= .field T x f:=by exact rfl)(hd:bA o.dst n=true:=by exact rfl)(hx:s.ev x=some (.agg cs):=by exact rfl)(hf:FQ P T f (e,false,z):=by infer_instance)(hc:cs[e]?=some p:=by exact rfl):a5 P C n o s (s.putO o.dst p):=rF1 hf.h ho hd hx hc
theorem tPt{b:Bool}{w:Operand}(ho:o.op= .pick x y w:=by exact rfl)(hd:bA o.dst n=true:=by exact rfl)(hx:s.ev x=some (.t (.leaf (.bool b))):=by exact rfl)(hb:b=true:=by first|with_reducible assumption|with_reducible rfl|assumption|exact rfl)(hy:s.ev y=some p:=by exact rfl):a5 P C n o s (s.putO o.dst p):=A6 hb ho hd hx hy
theorem tPf{b:Bool}{w:Operand}(ho:o.op= .pick x y w:=by exact rfl)(hd:bA o.dst n=true:=by exact rfl)(hx:s.ev x=some (.t (.leaf (.bool b))):=by exact rfl)(hb:b=false:=by first|with_reducible assumption|with_reducible rfl|assumption|exact rfl)(hy:s.ev w=some p:=by exact rfl):a5 P C n o s (s.putO o.dst p):=DZ hb ho hd hx hy
section
variable {Q:Exit→AS→Prop} {ops:Array Oper} {rest:List Oper} {s1:AS} {j:Nat} {b c:Bool}
end
section
variable {α:Type} [Inhabited α] [TC α] {l:List α} {sz:Nat} {es:List (List Tr)} {E:Nat×Nat×Nat}
theorem XL(ho:o.op= .call { callee:= .builtin .len,args:= #[x],argTypes:= #[T] }:=by exact rfl)(hd:bA o.dst n=true:=by exact rfl)(hx:s.ev x=some p:=by exact rfl)(hp:jK p=some (sz,es):=by exact rfl)(hT:EL P T E:=by infer_instance)(hl:RL es α l:=by infer_instance):a5 P C n o s (s.putO o.dst (.t (.leaf (.int .i64 (l.length:Int))))):=rLn hT.h (by rw [hl.h];exact TC.len l) ho hd hx hp
theorem qY{E' by_:Nat}(ho:o.op= .indexAddr T x y:=by exact rfl)(hd:bA o.dst n=true:=by exact rfl)(hx:s.ev x=some p:=by exact rfl)(hp:jK p=some (sz,es):=by exact rfl)(hi:s.ev y=some (.t (.leaf (.int .i64 (k:Int)))):=by exact rfl)(hT:EL P T (E',sz,by_):=by infer_instance)(hl:RL es α l:=by infer_instance)(h:k<l.length:=by assumption):a5 P C n o s (s.putO o.dst (.eptr (TC.cs (aP l k)))):=rIx h hT.h ho hd hx (by rw [← hl.h];exact hp) hi
theorem uG{E' by_:Nat}{z:α}(hz:z=aP l k)(h:k<l.length)(ho:o.op= .indexAddr T x y:=by exact rfl)(hd:bA o.dst n=true:=by exact rfl)(hx:s.ev x=some p:=by exact rfl)(hp:jK p=some (sz,TC.trs l):=by exact rfl)(hi:s.ev y=some (.t (.leaf (.int .i64 (k:Int)))):=by exact rfl)(hT:EL P T (E',sz,by_):=by infer_instance):a5 P C n o s (s.putO o.dst (.eptr (TC.cs z))):=rIn hz h hT.h ho hd hx hp hi
section
variable {E' by_ len:Nat} {parts:Array (Nat×Operand)} {ps:List (Nat×List PV)} {zs cs:List PV}
theorem gC(l:List α)(ho:o.op= .buildSlice T len parts:=by exact rfl)(hd:bA o.dst n=true:=by exact rfl)(hp:jR s parts.toList=some ps:=by exact rfl)(hT:EL P T E:=by infer_instance)(hE:E=(E',TC.sz α,by_):=by exact rfl)(hz:ZR P E' zs:=by infer_instance)
 (hc:nV (fun i=>some (i*TC.sz α,TC.sz α)) (List.replicate len zs).flatten ps=some cs:=by exact rfl) (hle:qA cs ((l.map TC.cs).flatten.map PV.t):=by exact jH) (hel:l.length=len:=by exact rfl) (hsz:0<TC.sz α:=by decide) (hzl:zs.length=TC.sz α:=by exact rfl) (hsm:len*TC.sz α≤16777216:=by decide):a5 P C n o s (s.putO o.dst (.t (.row (TC.sz α) (TC.trs l)))):=rBs l (hE ▸ hT.h) hz.h ho hd hp hc hle hel hsz hzl hsm
theorem rX(l:List α)(ho:o.op= .buildSlice T len parts:=by exact rfl)(hd:bA o.dst n=true:=by exact rfl)(hp:jR s parts.toList=some ps:=by exact rfl)(hT:EL P T E:=by infer_instance)(hE:E=(E',TC.sz α,by_):=by exact rfl)(hz:ZR P E' zs:=by infer_instance)
 (hc:nV (fun i=>some (i*TC.sz α,TC.sz α)) (List.replicate len zs).flatten ps=some cs:=by exact rfl) (hle:qA cs ((l.map TC.cs).flatten.map PV.t):=by exact jH) (hel:l.length=len:=by exact rfl) (hsz:0<TC.sz α:=by decide) (hzl:zs.length=TC.sz α:=by exact rfl) (hsm:len*TC.sz α≤16777216:=by decide):a5 P C n o s (s.putO o.dst (.lit (TC.sz α) (TC.trs l))):=rBl l (hE ▸ hT.h) hz.h ho hd hp hc hle hel hsz hzl hsm
theorem n0(l:List α)(ho:o.op= .buildSlice T len parts:=by exact rfl)(hd:bA o.dst n=true:=by exact rfl)(hp:jR s parts.toList=some ps:=by exact rfl)(hT:EL P T E:=by infer_instance)(hE:E=(E',TC.sz α,by_):=by exact rfl)(hz:ZR P E' zs:=by infer_instance)
 (hc:nV (fun i=>some (i*TC.sz α,TC.sz α)) (List.replicate len zs).flatten ps=some cs:=by exact rfl) (hle:qA cs ((l.map TC.cs).flatten.map PV.t):=by exact jH) (hel:l.length=len:=by exact rfl) (hsz:0<TC.sz α:=by decide) (hzl:zs.length=TC.sz α:=by exact rfl) (hsm:len*TC.sz α≤16777216:=by decide):a5 P C n o s ((⟨s.env,s.st.addRow ⟨E',TC.sz α,TC.trs l,false⟩⟩:AS).putO o.dst (.acc (TC.sz α) (TC.trs l) s.st.rows.length)):=rBa l (hE ▸ hT.h) hz.h ho hd hp hc hle hel hsz hzl hsm
end
theorem jS{E' by_ r m:Nat}{a b:List α}{row:mP}(h:a.length+b.length≤68719476736)(ho:o.op= .call { callee:= .builtin .append,args:= #[x,y],argTypes:= #[T,T] }:=by exact rfl)(hd:bA o.dst n=true:=by exact rfl)
 (hx:s.ev x=some (.acc (TC.sz α) (TC.trs a) r):=by exact rfl) (hrow:s.st.rows[r]?=some row:=by exact rfl) (hes:row.es=TC.trs a:=by exact rfl) (hT:EL P T E:=by infer_instance) (hE0:E=(E',TC.sz α,by_):=by exact rfl) (hz:ZE P E' m:=by infer_instance) (hm:m=TC.sz α:=by exact rfl) (hE:row.E=E':=by exact rfl) (hw:row.whole=false:=by exact rfl) (hy:s.ev y=some p:=by exact rfl) (hp:jK p=some (TC.sz α,TC.trs b):=by exact rfl)
 (hb:0<by_:=by decide) (hb2:by_≤2048:=by decide):a5 P C n o s ((⟨s.env,s.st.setRow r { row with es:=TC.trs (a++b) }⟩:AS).putO o.dst (.acc (TC.sz α) (TC.trs (a++b)) r)):=rAp h (hE0 ▸ hT.h) (hm ▸ hz.h) ho hd hx hrow hes hE hw hy hp hb hb2
end
end
section
variable {P:Program} {C:lL} {n:Nat} {s:AS} {fn:Func} {R:PV→cM→Prop} {e:Exit} {st':cM} {p p1 p2 p3 q:PV}
theorem qf1(hR:R q st':=by exact⟨rfl,rfl⟩)(hr:LO P s fn.results.toList [p]:=by first|exact⟨rfl,trivial⟩|exact⟨⟨_,_,_,rfl,rfl,SH.h,rfl,rfl⟩,trivial⟩)(he:e= .normal∨e= .ret:=by first|exact .inr rfl|exact .inl rfl)
 (hst:oU s.st st':=by exact LF) (hp:gR C.st st':=by exact KY) (hle:PV.Le p q:=by exact jH) (hk:PV.okIn st' q=true:=by exact rfl):xB P C n fn R e s:=xB.mk he hr rfl hst hp hle hk hR
theorem qf2(hR:R q st':=by exact⟨rfl,rfl⟩)(hr:LO P s fn.results.toList [p1,p2]:=by first|exact⟨rfl,rfl,trivial⟩|exact⟨⟨_,_,_,rfl,rfl,SH.h,rfl,rfl⟩,rfl,trivial⟩|exact⟨rfl,⟨_,_,_,rfl,rfl,SH.h,rfl,rfl⟩,trivial⟩)(he:e= .normal∨e= .ret:=by first|exact .inr rfl|exact .inl rfl)
 (hst:oU s.st st':=by exact LF) (hp:gR C.st st':=by exact KY) (hle:PV.Le (.tup [p1,p2]) q:=by exact jH) (hk:PV.okIn st' q=true:=by exact rfl):xB P C n fn R e s:=xB.mk he hr rfl hst hp hle hk hR
theorem qf3(hR:R q st':=by exact⟨rfl,rfl⟩)(hr:LO P s fn.results.toList [p1,p2,p3]:=by first|exact⟨rfl,rfl,rfl,trivial⟩|exact⟨⟨_,_,_,rfl,rfl,SH.h,rfl,rfl⟩,rfl,rfl,trivial⟩)(he:e= .normal∨e= .ret:=by first|exact .inr rfl|exact .inl rfl)
 (hst:oU s.st st':=by exact LF) (hp:gR C.st st':=by exact KY) (hle:PV.Le (.tup [p1,p2,p3]) q:=by exact jH) (hk:PV.okIn st' q=true:=by exact rfl):xB P C n fn R e s:=xB.mk he hr rfl hst hp hle hk hR
end
section
variable {P:Program} {C:lL} {n:Nat} {s:AS} {o:Oper} {x y:Operand} {T yT:TypeId}
theorem tNx{i:Nat}(ho:o.op= .binOp .add T x y yT:=by exact rfl)(hd:bA o.dst n=true:=by exact rfl)(hx:s.ev x=some (pN i):=by exact rfl)(hy:s.ev y=some (pI 1):=by exact rfl)(hb:i<9223372036854775807:=by omega):a5 P C n o s (s.putO o.dst (pN (i+1))):=
 a5.addI ho hd hx hy (by omega) (by omega)
theorem rA{s1:AS}(h:a5 P C n o s s1:=by first
 |exact bG
 |exact bS
 |exact eE
 |exact y2
 |exact xR
 |exact jP
 |exact XL
 |exact nU
 |exact sU
 |exact XJ
 |exact rLt
 |exact F0
 |exact rEx
 |exact qY
 |exact tNx
 |exact tAl
 |exact tPt
 |exact tPf
 |exact rSe
 |exact rSn
 |exact rNe
 |exact rLe
 |exact rGt
 |exact rGe
 |exact rNf
 |exact rAw
 |exact rSw
 |exact tF1):a5 P C n o s s1:=h
section
variable {Q:Exit→AS→Prop} {ops:Array Oper} {rest:List Oper} {s1:AS} {j d k:Nat} {b c b':Bool} {G':Prop}
theorem qU(hg:o.guard=none:=by exact rfl)(ho:a5 P C n o s s1)(h:AL P C n ops rest Q s1):AL P C n ops (o::rest) Q s:=q1 ho h hg
theorem qK(hg:o.guard=some (j,c):=by exact rfl)(hj:(ops[j]?).bind (·.dst)=some d:=by exact rfl)(hb:s.lk d=some (.t (.leaf (.bool b))):=by exact rfl)(hv:b=b':=by first|with_reducible assumption|with_reducible exact @rfl Bool true|with_reducible exact @rfl Bool false|assumption|exact rfl)(hne:(b'==c)=false:=by exact rfl)(hd:bA o.dst n=true:=by exact rfl)(h:AL P C n ops rest Q (s.putO o.dst (.tup []))):AL P C n ops (o::rest) Q s:=qk hv h hg hj hb hne hd
theorem qV(hg:o.guard=some (j,c):=by exact rfl)(hj:(ops[j]?).bind (·.dst)=some d:=by exact rfl)(hb:s.lk d=some (.t (.leaf (.bool b))):=by exact rfl)(hv:b=c:=by first|with_reducible assumption|with_reducible rfl|assumption|exact rfl)(ho:a5 P C n o s s1)(h:AL P C n ops rest Q s1):AL P C n ops (o::rest) Q s:=qg hv ho h hg hj hb
theorem qCt{c:Operand}{b:Bool}{cx cy:Code}(hc:s.ev c=some (.t (.leaf (.bool b))):=by exact rfl)(e:b=true:=by first|with_reducible rfl|with_reducible assumption|exact rfl|assumption)(h:cF P C n cx Q s):cF P C n (.cond c cx cy) Q s:=aeT e h hc
theorem qCf{c:Operand}{b:Bool}{cx cy:Code}(hc:s.ev c=some (.t (.leaf (.bool b))):=by exact rfl)(e:b=false:=by first|with_reducible rfl|with_reducible assumption|exact rfl|assumption)(h:cF P C n cy Q s):cF P C n (.cond c cx cy) Q s:=U6 e h hc
end
end
theorem grR{k:Nat}{G G':Prop}(h:GR k G G':=by
 repeat(first
  |exact gr0
  |apply grS (fun h=>qU (ho:=rA) (h:=h))
  |apply grS (fun h=>qK (h:=h))
  |apply grS (fun h=>qku h)
  |apply grS (fun h=>qV (ho:=rA) (h:=h))
  |apply grS (fun h=>qN h)
  |apply grS (fun h=>qS h)
  |apply grS (fun h=>qR h)
  |apply grS (fun h=>cF.skip h)
  |apply grS (fun h=>cF.block h)
  |apply grS (fun h=>qCt (h:=h))
  |apply grS (fun h=>qCf (h:=h)))):GR k G G':=h
theorem smR{β:Type}{v r:β}(h:Hd (some v) (fun v=>v=r)):v=r:=(xQ h:)
theorem skR{β σ:Type}{f:σ→Option β}{x r:β}(h:Hd (some (.inl x)) (SK f (fun v=>v=r))):x=r:=(skL (xQ h):)
theorem gQ(k:Nat){G G':Prop}(h':G')(h:GR k G G':=by exact grR):G:=h.h h'
theorem gE(k:Nat){G G':Prop}(h:GR k G G':=by exact grR)(h':G':=by
 first
  |(refine cF.ret ?_;(first|obtain rfl:_=_:=smR (by assumption)|obtain rfl:_=_:=skR (by assumption)|(have e:=YL (xQ (by assumption));obtain rfl:_=_:=e)|(have e:=lwR (xQ (by assumption));obtain rfl:_=_:=e));(first|exact qf1|exact qf2|exact qf3|exact qe (ps:= [_,_,_,_]) ⟨rfl,rfl⟩ ⟨rfl,rfl,rfl,rfl,trivial⟩|exact qe (ps:= [_,_,_,_,_,_]) ⟨rfl,rfl⟩ ⟨rfl,rfl,rfl,rfl,rfl,rfl,trivial⟩))
  |exact ajW ⟨_,xQ (by assumption),wkA⟩
  |exact lpN (by assumption) ⟨_,xQ (by assumption),wkA⟩
  |exact lwN ⟨_,xQ (by assumption),wkA⟩
  |(refine cF.exit ?_;(first|exact lpX ⟨_,by assumption,wkA⟩|exact lpB ⟨_,xQ (by assumption),wkA⟩|exact lwB ⟨_,xQ (by assumption),wkA⟩))
  |exact lwB ⟨_,xQ (by assumption),wkA⟩
  |((first|obtain rfl:_=_:=smR (by assumption)|obtain rfl:_=_:=skR (by assumption));(first|exact qf1|exact qf2|exact qf3))):G:=h.h h'
end Go.Proofs.YtfcoaagbccmahaaGreat

namespace Go.Proofs.YtfcoaagbccmahaaGreat
open Go.RowKit Go.Proofs
set_option maxRecDepth 100000
set_option maxHeartbeats 4000000
theorem aeS(d:DS):cJ Tryz.prog 130 [.ptr 0 0] (d.box 133) (fun r t=>r=pI d.byte∧t=d.next.box 133):=by
 refine qI Tryz.func130 (fun C hC=>?_)
 refine cF.fact (b6 0 0 rfl rfl rfl (mZ d.code)) (fun hl0=>?_)
 refine gQ 11 ?_;refine q1 (a5.mulW rfl rfl rfl rfl) (q1 (a5.addW rfl rfl rfl rfl) ?_)
 refine gQ 5 ?_;refine dW (dI [0] bG (dI [13] sU (dI [14] bS (dD [15] eE (dI [16] (a5.shrI rfl rfl rfl rfl (by decide) (MF (DQ _)).1 (MF (DQ _)).2) (dI [0] bG (dI [18] sU (dI [19] bS (dD [20] eE (dI [21] (a5.shrI rfl rfl rfl rfl (by decide) (MF (DQ _)).1 (MF (DQ _)).2) (dI [17,22] (a5.xorI rfl rfl rfl rfl) (dI [23] (a5.andI rfl rfl rfl rfl) (dI [24] bG (dN ?_))))))))))))))
 refine gQ 2 ?_;refine dW (dI [0] bG (dI [25] sU (dI [26] bS (dD [27] eE (dI [0] bG (dI [29] sU (dI [30] bS (dD [31] eE (dI [32] XL (dI [28,33] rLt (dN ?_)))))))))))
 refine cF.cond rfl (fun h1=>?_) (fun h1=>?_)
 ·have h1n:d.p<d.code.length:=by have:=of_decide_eq_true h1;omega
  rw [show d.byte=_ from dif_pos h1n,show d.next=⟨d.code,d.p+1,VO d.h⟩ by unfold DS.next;rw [if_pos h1n]]
  refine gQ 1 ?_;refine dW (dI [3] bG (dI [0] bG (dI [36] sU (dI [37] bS (dD [38] eE (dI [0] bG (dI [40] sU (dI [41] bS (dD [42] eE (dI [39,43] (a5.index (k:=d.p) rfl rfl rfl rfl rfl (vG h1n) ahB.h) (dI [44] (a5.loadEptr1 (d:= .leaf (.int .u8 ((d.code[d.p]).toNat:Int))) rfl rfl rfl sh5.h rfl) (dI [45] (a5.convI rfl rfl rfl ⟨_,Tryz.underlying5⟩ Tryz.underlying3 (by omega) (by have:=UInt8.toNat_lt (d.code[d.p]);omega)) (dI [35,46] (a5.addW rfl rfl rfl rfl) (dI [47] (a5.andI rfl rfl rfl rfl) (dI [48] bG (dN ?_))))))))))))))))
  refine gQ 16 ?_;exact cF.ret qf1
 ·have h1n: ¬d.p<d.code.length:=by have:=of_decide_eq_false h1;omega
  rw [show d.byte=_ from dif_neg h1n,show d.next=⟨d.code,d.p,VO d.h⟩ by unfold DS.next;rw [if_neg h1n]]
  refine gQ 6 ?_;exact cF.ret qf1
theorem BF(d:DS):cJ Tryz.prog 130 [.ptr 0 0] (d.box 133) (fun r t=>r=pN d.byteN∧t=d.next.box 133):=by unfold pN;rw [d.byteN_eq];exact aeS d
theorem eT(d:DS)(n:Nat):cJ Tryz.prog 73 [.ptr 0 0,pN n] (d.box 133) (fun r t=>r=pN (d.below n)∧t=(d.after n).box 133):=by
 refine qI Tryz.func73 (fun C hC=>?_)
 have hb0:=d.byteN_le
 have hb1:=d.next.byteN_le
 have hb2:=d.next.next.byteN_le
 have hb3:=d.next.next.next.byteN_le
 unfold DS.below DS.after
 refine gQ 10 ?_;refine cF.cond rfl (fun h1=>?_) (fun h1=>?_)
 ·obtain rfl:n=0:=by have:=of_decide_eq_true h1;omega
  refine gQ 4 ?_;exact cF.ret qf1
 have h1n: ¬n=0:=by have:=of_decide_eq_false h1;omega
 rw [if_neg h1n,if_neg h1n]
 refine gQ 7 ?_;refine cF.cond rfl (fun h2=>?_) (fun h2=>?_)
 ·have h2n:n≤256:=by have:=of_decide_eq_true h2;omega
  rw [if_pos h2n,if_pos h2n]
  refine gQ 3 ?_;refine q1 (eW [0] [] Tryz.func130 (BF d)) ?_;refine gQ 1 ?_;refine q1 (a5.remN (a:=d.byteN) (b:=n) rfl rfl rfl rfl (by omega) (by omega)) ?_;refine gQ 2 ?_;exact cF.ret qf1
 have h2n: ¬n≤256:=by have:=of_decide_eq_false h2;omega
 rw [if_neg h2n,if_neg h2n]
 refine gQ 4 ?_;refine q1 (eW [0] [] Tryz.func130 (BF d)) ?_;refine gQ 5 ?_;refine q1 (eW [0] [] Tryz.func130 (BF d.next)) ?_;refine gQ 5 ?_;refine q1 (eW [0] [] Tryz.func130 (BF d.next.next)) ?_;refine gQ 5 ?_;refine q1 (eW [0] [] Tryz.func130 (BF d.next.next.next)) ?_;refine gQ 5 ?_;refine q1 (a5.mulI rfl rfl rfl rfl (c:=((d.byteN*16777216:Nat):Int)) (by omega) (by omega)) (q1 bG (q1 (a5.mulI rfl rfl rfl rfl (c:=((d.next.byteN*65536:Nat):Int)) (by omega) (by omega)) (q1 (a5.addI rfl rfl rfl rfl (c:=((d.byteN*16777216+d.next.byteN*65536:Nat):Int)) (by omega) (by omega)) (q1 bG (q1 (a5.mulI rfl rfl rfl rfl (c:=((d.next.next.byteN*256:Nat):Int)) (by omega) (by omega)) (q1 (a5.addI rfl rfl rfl rfl (c:=((d.byteN*16777216+d.next.byteN*65536+d.next.next.byteN*256:Nat):Int)) (by omega) (by omega)) (q1 bG (q1 (a5.addI rfl rfl rfl rfl (c:=((d.byteN*16777216+d.next.byteN*65536+d.next.next.byteN*256+d.next.next.next.byteN:Nat):Int)) (by omega) (by omega)) (q1 bG (q1 (a5.remN (b:=n) rfl rfl rfl rfl (by omega) (by omega)) ?_))))))))))
 refine gQ 2 ?_;exact cF.ret qf1
theorem k9(d:DS)(n:Nat):cJ Tryz.prog 45 [.ptr 0 0,pN n] (d.box 133) (fun r t=>r=pB (decide (d.below n=0))∧t=(d.after n).box 133):=by
 refine qI Tryz.func45 (fun C hC=>?_)
 rw [show decide (d.below n=0)=decide (((d.below n:Nat):Int)=0) from decide_eq_decide.2 (by omega)]
 refine gQ 8 ?_;refine q1 (eW [0] [] Tryz.func73 (eT d n)) ?_;refine gQ 3 ?_;exact cF.ret qf1
theorem eA(d:DS)(l:LB)(hl:0<l.length):cJ Tryz.prog 48 [.ptr 0 0,rS l] (d.box 133) (fun r t=>r=pS (d.pick l)∧t=(d.after l.length).box 133):=by
 refine qI Tryz.func48 (fun C hC=>?_)
 have hx:d.below l.length<l.length:=d.below_lt hl
 rw [DS.pick_eq hx]
 refine gQ 10 ?_;refine q1 (eW [0] [] Tryz.func73 (eT d l.length)) (q1 (a5.index (k:=d.below l.length) rfl rfl rfl rfl rfl (RQ hx) X6.h) (q1 (a5.loadEptr1 (d:= .leaf (.string (l[d.below l.length]))) rfl rfl rfl sh9.h rfl) ?_))
 refine gQ 2 ?_;exact cF.ret qf1
theorem adP(code:List UInt8)(hb:code.length≤1048576):acV Tryz.prog 43 [rU code] 133 (DS.start code).cells:=by
 unfold acV
 refine qI Tryz.func43 (fun C hC=>?_)
 refine cF.fact (SS 0 rfl rfl (mZ _)) (fun hl1=>?_)
 refine gQ 2 ?_;refine q1 (a5.moveAny (.inl rfl)) ?_;refine gQ 5 ?_;refine q1 (a5.addI rfl rfl rfl rfl (c:=((28803+code.length:Nat):Int)) (by omega) (by omega)) ?_;refine gQ 8 ?_;refine cF.loopJ (ι:=Nat×Int) (fun⟨i,h⟩=>i≤code.length∧i≤4000∧agA code=((code.take 4000).drop i).foldl zT h) (fun⟨i,h⟩=>⟨[(0,rU code),(3,pI h),(4,pN i)],⟨[],[]⟩⟩) (fun⟨i,h⟩=>code.length-i) (0,(28803+(code.length:Int))) ⟨Nat.zero_le _,Nat.zero_le _,rfl⟩ ?_ ?_
 ·exact wkA
 rintro⟨i,h⟩ ⟨hi1,hi2,hi3⟩
 have fin:code.length≤i∨4000≤i→agA code=h:=fun k=>adO k hi3
 refine gQ 8 ?_;refine AL.splitB 12 rfl (fun g3=>?_) (fun g3=>?_)
 ·have g3n:i<code.length:=by have:=of_decide_eq_true g3;omega
  refine gQ 4 ?_;refine cF.cond rfl (fun h4=>?_) (fun h4=>?_)
  ·have h4n:=of_decide_eq_true h4
   refine gQ 5 ?_;refine q1 (a5.mulW rfl rfl rfl rfl) (q1 bG (q1 bG (q1 (a5.index (k:=i) rfl rfl rfl rfl rfl (vG g3n) ahB.h) (q1 (a5.loadEptr1 (d:= .leaf (.int .u8 ((code[i]).toNat:Int))) rfl rfl rfl sh5.h rfl) (q1 (a5.convI rfl rfl rfl ⟨_,Tryz.underlying5⟩ Tryz.underlying3 (by omega) (by have:=UInt8.toNat_lt (code[i]);omega)) (q1 (a5.addW rfl rfl rfl rfl) (q1 (a5.addW rfl rfl rfl rfl) (q1 (a5.andI rfl rfl rfl rfl) ?_))))))))
   refine gQ 7 ?_;exact⟨(i+1,zT h code[i]),⟨by omega,by omega,ab4 (by omega) (by omega) hi3 rfl⟩,wkA,by dsimp only;omega⟩
  ·obtain rfl:=fin (.inr (by have:=of_decide_eq_false h4;omega))
   refine cF.exit ?_;refine gQ 4 ?_;refine q1 nU (q1 (iR (dC (DS.start code))) ?_)
   refine gQ 2 ?_;exact cF.ret (qf1 (st':=⟨[some ⟨133,dC (DS.start code)⟩],[]⟩) (q:= .ptr 0 0) ⟨0,rfl,rfl,fun i x hx=>(by rcases i with _|i<;>simp at hx<;>simp),rfl⟩)
 ·refine gQ 4 ?_;refine cF.cond rfl (fun h4=>?_) (fun h4=>?_)
  ·exact absurd (h4.symm.trans rfl) (by decide)
  obtain rfl:=fin (.inl (by have:=of_decide_eq_false g3;omega))
  refine cF.exit ?_;refine gQ 4 ?_;refine q1 nU (q1 (iR (dC (DS.start code))) ?_)
  refine gQ 2 ?_;exact cF.ret (qf1 (st':=⟨[some ⟨133,dC (DS.start code)⟩],[]⟩) (q:= .ptr 0 0) ⟨0,rfl,rfl,fun i x hx=>(by rcases i with _|i<;>simp at hx<;>simp),rfl⟩)
end Go.Proofs.YtfcoaagbccmahaaGreat

namespace Go.Proofs.YtfcoaagbccmahaaGreat
open Go.RowKit
theorem adB{w:World}{xs:List Int}{v:Value}(h:GY w (.row 1 (xs.map fun n=> [Tr.leaf (.int .u8 n)])) v): ∃code:List UInt8,(xs.map fun n=> [Tr.leaf (.int .u8 n)])=iY code:=by
 have hr: ∀x∈xs,0≤x∧x≤255:=by
  intro x hx
  obtain⟨i,hi,rfl⟩:=List.mem_iff_getElem.1 hx
  cases h with
  |row c h1 h2 h3 h4=>
   have:=h4 i [Tr.leaf (.int .u8 xs[i])] (by simp [hi]) 0 _ rfl
   have:=(this.leaf_eq).2
   simpa [oT,Lit.wf,IntKind.min,IntKind.max,IntKind.bits,IntKind.signed] using this
 refine⟨xs.map fun n=>UInt8.ofNat n.toNat,?_⟩
 unfold iY
 rw [List.map_map]
 refine List.map_congr_left fun x hx=>?_
 have:=hr x hx
 have h2:(UInt8.ofNat x.toNat).toNat=x.toNat:=by
  rw [UInt8.toNat_ofNat']
  omega
 simp only [Function.comp,h2]
 rw [Int.toNat_of_nonneg this.1]
end Go.Proofs.YtfcoaagbccmahaaGreat

namespace Go.Proofs.YtfcoaagbccmahaaGreat
open Go.RowKit
theorem abH.nil{w:World}:abH w [] []:=trivial
theorem abH.cons{w:World}{p:PV}{ps:List PV}{v:Value}{vs:List Value}(h:RV0 w p v)(k:abH w ps vs):abH w (p::ps) (v::vs):=⟨h,k⟩
end Go.Proofs.YtfcoaagbccmahaaGreat

namespace Go.Proofs.YtfcoaagbccmahaaGreat
open Go.RowKit Go.Proofs
end Go.Proofs.YtfcoaagbccmahaaGreat

namespace Go.Proofs.YtfcoaagbccmahaaGreat
end Go.Proofs.YtfcoaagbccmahaaGreat

namespace Go.Proofs.YtfcoaagbccmahaaGreat
open Go.RowKit Go.Proofs
end Go.Proofs.YtfcoaagbccmahaaGreat

namespace Go.Proofs.YtfcoaagbccmahaaGreat
open Go.RowKit
structure UM (S:Nat→Prop) (w w':World):Prop where
 os:w'.os=w.os
 tape:w'.tape=w.tape
 output:w'.output=w.output
 size:w.heap.size≤w'.heap.size
 block: ∀b,b<w.heap.size→ ¬S b→w'.heap[b]?=w.heap[b]?
theorem UM.refl(S:Nat→Prop)(w:World):UM S w w:=⟨rfl,rfl,rfl,Nat.le_refl _,fun _ _ _=>rfl⟩
theorem UM.trans{S:Nat→Prop}{a b c:World}(h:UM S a b)(k:UM S b c):UM S a c:=
 ⟨k.os.trans h.os,k.tape.trans h.tape,k.output.trans h.output,Nat.le_trans h.size k.size,fun x hx hs=>(k.block x (Nat.lt_of_lt_of_le hx h.size) hs).trans (h.block x hx hs)⟩
theorem UM.mono{S S':Nat→Prop}{a b:World}(h:UM S a b)(hS: ∀x,S x→S' x):UM S' a b:=⟨h.os,h.tape,h.output,h.size,fun x hx hn=>h.block x hx fun hs=>hn (hS x hs)⟩
theorem UM.of_grown{S:Nat→Prop}{B:Nat}{a b:World}(h:a.grownBy b (some B))(hB:S B):UM S a b:=⟨h.os,h.tape,h.output,h.size,fun x hx hs=>h.block x hx (by simp;rintro rfl;exact hs hB)⟩
theorem O7.focus{w:World}{sz:Nat}{es:List (List Tr)}{a:Option Addr}{n cap i:Nat}{S:Nat→Prop}{e:List Tr}(h:O7 w (.row sz es) (.slice a n cap) S)(hi:es[i]?=some e)(hl: ∀x∈es,x.length=sz):
 ∃b off E arr cs T,a=some ⟨b,off,none⟩∧OB w b E arr∧S b∧xV w e cs T∧(∀x,T x→S x∧x≠b)∧cs.length=sz∧(0<sz→off+i*sz+sz≤arr.size)∧(∀j v,cs[j]?=some v→arr[off+i*sz+j]?=some v)∧
  ∀w' cs' e',e'.length=sz→OB w' b E (splice arr (off+i*sz) cs')→xV w' e' cs' T→(∀x,x<w.heap.size→S x→x≠b→ ¬T x→w'.heap[x]?=w.heap[x]?)→off+i*sz+sz≤arr.size→
   O7 w' (.row sz (es.set i e')) (.slice a n cap) S:=by
 cases h with
 |row c T h1 h2 h3 h4 h5 h6=>
  have hne:es≠ []:=by rintro rfl;simp at hi
  obtain⟨b,off,E,arr,rfl,hob,hs,hc⟩:=h3 hne
  have hlt:i<es.length:=(List.getElem?_eq_some_iff.1 hi).1
  have hel:e.length=sz:=hl e (List.mem_of_getElem? hi)
  have hgj: ∀j,j<sz→ ∃d,e[j]?=some d:=fun j hj=>⟨e[j]'(by omega),List.getElem?_eq_getElem _⟩
  refine⟨b,off,E,arr,(List.range sz).map (c i),fun x=> ∃j,j<sz∧T i j x,rfl,hob,hs,?_,?_,by simp,?_,?_,?_⟩
  ·refine⟨by simp [hel],fun j x=>j<sz∧T i j x,?_,?_,?_⟩
   ·intro j d hd
    have hj:j<sz:=by rw [← hel];exact(List.getElem?_eq_some_iff.1 hd).1
    exact⟨c i j,by simp [hj],(h4 i e hi j d hd).mono fun x hx=>⟨hj,hx⟩⟩
   ·intro j d hd x hx
    exact⟨j,hx⟩
   ·intro j d hd j' d' hd' hne x hx hx'
    exact h6 i e hi j d hd i e hi j' d' hd' (fun _=>hne) x hx.2 hx'.2
  ·rintro x ⟨j,hj,hx⟩
   obtain⟨d,hd⟩:=hgj j hj
   exact⟨h5 i e hi j d hd x hx,(hc i e hi j d hd).2 x hx⟩
  ·intro h0
   obtain⟨d,hd⟩:=hgj (sz-1) (by omega)
   have:=(hc i e hi _ d hd).1
   have:=(Array.getElem?_eq_some_iff.1 this).1
   omega
  ·intro j v hv
   rw [List.getElem?_map] at hv
   rcases Nat.lt_or_ge j sz with hj|hj
   ·rw [List.getElem?_range hj] at hv
    simp at hv
    obtain⟨d,hd⟩:=hgj j hj
    rw [← hv]
    exact(hc i e hi j d hd).1
   ·rw [List.getElem?_eq_none (by simpa using hj)] at hv
    simp at hv
  ·intro w' cs' e' hel' hob' how hx hfit
   obtain⟨hcl,U,u1,u2,u3⟩:=how
   have hcl:cs'.length=sz:=by omega
   have hset:(es.set i e').length=es.length:=by simp
   have get: ∀i' e2,(es.set i e')[i']?=some e2→(i'=i∧e2=e')∨(i'≠i∧es[i']?=some e2):=by
    intro i' e2 h
    rw [List.getElem?_set] at h
    split at h
    ·rename_i hii
     subst hii
     simp only [Option.some.injEq] at h
     exact .inl ⟨rfl,h.symm⟩
    ·rename_i hii
     exact .inr ⟨fun e=>hii e.symm,h⟩
   have keep: ∀i' e2,i'≠i→es[i']?=some e2→ ∀j d,e2[j]?=some d→ ∀x,T i' j x→x<w.heap.size→w'.heap[x]?=w.heap[x]?:=by
    intro i' e2 hne' he2 j d hd x hx' hxl
    refine hx x hxl (h5 i' e2 he2 j d hd x hx') ((hc i' e2 he2 j d hd).2 x hx') ?_;rintro⟨j',hj',hT⟩
    obtain⟨d',hd'⟩:=hgj j' hj'
    exact h6 i' e2 he2 j d hd i e hi j' d' hd' (fun h=>absurd h hne') x hx' hT
   rw [← hset]
   refine .row (fun i' j=>if i'=i then(cs'[j]?).getD undef else c i' j) (fun i' j=>if i'=i then U j else T i' j) (by rw [hset];exact h1) h2 ?_ ?_ ?_ ?_
   ·intro _
    refine⟨b,off,E,_,rfl,hob',hs,?_⟩
    intro i' e2 he2 j d hd
    rcases get i' e2 he2 with⟨rfl,rfl⟩|⟨hne',he2⟩
    ·simp only [if_true]
     have hj:j<sz:=by rw [← hel'];exact(List.getElem?_eq_some_iff.1 hd).1
     refine⟨?_,fun x hx'=>?_⟩
     ·have h7:=XF (arr:=arr) (o:=off+i'*sz) (vs:=cs') (by omega)
      have h8:(((splice arr (off+i'*sz) cs').toList.drop (off+i'*sz)).take cs'.length)[j]?=cs'[j]?:=by rw [h7]
      rw [List.getElem?_take,if_pos (by omega),List.getElem?_drop] at h8
      have h9:cs'[j]?=some (cs'[j]'(by omega)):=List.getElem?_eq_getElem _
      rw [h9] at h8 ⊢
      simpa using h8
     ·obtain⟨j2,hj2,hT⟩:=u2 j d hd x hx'
      obtain⟨d2,hd2⟩:=hgj j2 hj2
      exact(hc i' e hi j2 d2 hd2).2 x hT
    ·simp only [if_neg hne']
     obtain⟨q1,q2⟩:=hc i' e2 he2 j d hd
     have hl2:e2.length=sz:=hl e2 (List.mem_of_getElem? he2)
     have hj:j<sz:=by rw [← hl2];exact(List.getElem?_eq_some_iff.1 hd).1
     refine⟨?_,q2⟩
     rw [← q1]
     unfold splice
     have hsz:0<sz:=by omega
     rcases Nat.lt_or_ge i' i with hlt'|hge
     ·have h10:(i'+1)*sz≤i*sz:=Nat.mul_le_mul_right _ hlt'
      rw [Nat.succ_mul] at h10
      rw [List.getElem?_toArray,List.append_assoc,List.getElem?_append_left (by simp;omega),List.getElem?_take,if_pos (by omega)]
      simp
     ·have h10:(i+1)*sz≤i'*sz:=Nat.mul_le_mul_right _ (by omega)
      rw [Nat.succ_mul] at h10
      rw [List.getElem?_toArray,List.getElem?_append_right (by simp;omega),List.getElem?_drop]
      simp only [List.length_append,List.length_take,Array.length_toList]
      rw [Nat.min_eq_left (by omega),Array.getElem?_toList]
      congr 1
      omega
   ·intro i' e2 he2 j d hd
    rcases get i' e2 he2 with⟨rfl,rfl⟩|⟨hne',he2⟩
    ·simp only [if_true]
     obtain⟨v,hv,ho⟩:=u1 j d hd
     simpa [hv] using ho
    ·simp only [if_neg hne']
     exact(h4 i' e2 he2 j d hd).keep fun x hx' hxl=>keep i' e2 hne' he2 j d hd x hx' hxl
   ·intro i' e2 he2 j d hd x hx'
    rcases get i' e2 he2 with⟨rfl,rfl⟩|⟨hne',he2⟩
    ·simp only [if_true] at hx'
     obtain⟨j2,hj2,hT⟩:=u2 j d hd x hx'
     obtain⟨d2,hd2⟩:=hgj j2 hj2
     exact h5 i' e hi j2 d2 hd2 x hT
    ·simp only [if_neg hne'] at hx'
     exact h5 i' e2 he2 j d hd x hx'
   ·intro i' e2 he2 j d hd i'' e3 he3 j' d' hd' hne x hx1 hx2
    rcases get i' e2 he2 with⟨rfl,rfl⟩|⟨hne',he2⟩
    ·simp only [if_true] at hx1
     rcases get i'' e3 he3 with⟨rfl,rfl⟩|⟨hne'',he3⟩
     ·simp only [if_true] at hx2
      exact u3 j d hd j' d' hd' (hne rfl) x hx1 hx2
     ·simp only [if_neg hne''] at hx2
      obtain⟨j2,hj2,hT⟩:=u2 j d hd x hx1
      obtain⟨d2,hd2⟩:=hgj j2 hj2
      exact h6 i'' e3 he3 j' d' hd' i' e hi j2 d2 hd2 (fun h=>absurd h hne'') x hx2 hT
    ·simp only [if_neg hne'] at hx1
     have he2':=he2
     rcases get i'' e3 he3 with⟨rfl,rfl⟩|⟨hne'',he3⟩
     ·simp only [if_true] at hx2
      obtain⟨j2,hj2,hT⟩:=u2 j' d' hd' x hx2
      obtain⟨d2,hd2⟩:=hgj j2 hj2
      exact h6 i' e2 he2' j d hd i'' e hi j2 d2 hd2 (fun h=>absurd h hne') x hx1 hT
     ·simp only [if_neg hne''] at hx2
      exact h6 i' e2 he2 j d hd i'' e3 he3 j' d' hd' hne x hx1 hx2
end Go.Proofs.YtfcoaagbccmahaaGreat

namespace Go.Proofs.YtfcoaagbccmahaaGreat
open Go.RowKit
theorem xV.setLeaf{w:World}{ts:List Tr}{cs:List Value}{T:Nat→Prop}{j:Nat}{u:Tr}{v:Value}(h:xV w ts cs T)(hj:ts[j]?=some u)(hv:oT v):xV w (ts.set j (.leaf v)) (cs.set j v) T:=by
 obtain⟨hl,U,h1,h2,h3⟩:=h
 have hlt:j<ts.length:=(List.getElem?_eq_some_iff.1 hj).1
 have old: ∀i d,(ts.set j (.leaf v))[i]?=some d→(i=j∧d= .leaf v)∨(i≠j∧ts[i]?=some d):=by
  intro i d hd
  rw [List.getElem?_set] at hd
  split at hd
  ·rename_i hij
   subst hij
   simp only [Option.some.injEq] at hd
   exact .inl ⟨rfl,hd.symm⟩
  ·rename_i hij
   exact .inr ⟨fun e=>hij e.symm,hd⟩
 refine⟨by simp [hl],fun i x=>i≠j∧U i x,?_,?_,?_⟩
 ·intro i d hd
  rcases old i d hd with⟨rfl,rfl⟩|⟨hne,hd⟩
  ·exact⟨v,by rw [List.getElem?_set];simp [hl,hlt],.leaf hv⟩
  ·obtain⟨v',hv',ho⟩:=h1 i d hd
   exact⟨v',by rw [List.getElem?_set];rw [if_neg (fun e=>hne e.symm)];exact hv',ho.mono fun x hx=>⟨hne,hx⟩⟩
 ·intro i d hd x hx
  rcases old i d hd with⟨rfl,rfl⟩|⟨hne,hd⟩
  ·exact(hx.1 rfl).elim
  ·exact h2 i d hd x hx.2
 ·intro i d hd i' d' hd' hne x hx hx'
  rcases old i d hd with⟨rfl,rfl⟩|⟨_,hd⟩
  ·exact hx.1 rfl
  ·rcases old i' d' hd' with⟨rfl,rfl⟩|⟨_,hd'⟩
   ·exact hx'.1 rfl
   ·exact h3 i d hd i' d' hd' hne x hx.2 hx'.2
theorem xV.setRow{w:World}{ts:List Tr}{cs:List Value}{T:Nat→Prop}{j:Nat}{t:Tr}{v:Value}(h:xV w ts cs T)(hj:ts[j]?=some t)(hv:cs[j]?=some v):
 ∃U:Nat→Prop,O7 w t v U∧(∀x,U x→T x)∧ ∀w' t',O7 w' t' v U→(∀x,x<w.heap.size→T x→ ¬U x→w'.heap[x]?=w.heap[x]?)→xV w' (ts.set j t') cs T:=by
 obtain⟨hl,U,h1,h2,h3⟩:=h
 have hlt:j<ts.length:=(List.getElem?_eq_some_iff.1 hj).1
 obtain⟨v1,hv1,ho1⟩:=h1 j t hj
 rw [hv] at hv1
 injection hv1 with hv1
 subst hv1
 refine⟨U j,ho1,h2 j t hj,fun w' t' ho' hk=>⟨by simp [hl],U,?_,?_,?_⟩⟩
 all_goals
  have old: ∀i d,(ts.set j t')[i]?=some d→(i=j∧d=t')∨(i≠j∧ts[i]?=some d):=by
   intro i d hd
   rw [List.getElem?_set] at hd
   split at hd
   ·rename_i hij
    subst hij
    simp only [Option.some.injEq] at hd
    exact .inl ⟨rfl,hd.symm⟩
   ·rename_i hij
    exact .inr ⟨fun e=>hij e.symm,hd⟩
 ·intro i d hd
  rcases old i d hd with⟨rfl,rfl⟩|⟨hne,hd⟩
  ·exact⟨v,hv,ho'⟩
  ·obtain⟨v',hv',ho⟩:=h1 i d hd
   exact⟨v',hv',ho.keep fun x hx hxl=>hk x hxl (h2 i d hd x hx) (fun hu=>h3 i d hd j t hj hne x hx hu)⟩
 ·intro i d hd x hx
  rcases old i d hd with⟨rfl,rfl⟩|⟨hne,hd⟩
  ·exact h2 i t hj x hx
  ·exact h2 i d hd x hx
 ·intro i d hd i' d' hd' hne x hx hx'
  rcases old i d hd with⟨rfl,rfl⟩|⟨hne1,hd1⟩
  ·rcases old i' d' hd' with⟨rfl,rfl⟩|⟨_,hd2⟩
   ·exact hne rfl
   ·exact h3 i t hj i' d' hd2 hne x hx hx'
  ·rcases old i' d' hd' with⟨rfl,rfl⟩|⟨_,hd2⟩
   ·exact h3 i d hd1 i' t hj hne x hx hx'
   ·exact h3 i d hd1 i' d' hd2 hne x hx hx'
structure Foc (w0 wr:World) (b:Nat) (E:TypeId) (arr0:Array Value) (o sz:Nat) (ts:List Tr) (cs:List Value) (T:Nat→Prop):Prop where
 arr: ∃arr,OB wr b E arr∧arr.size=arr0.size∧(∀q,q<o∨o+sz≤q→arr[q]?=arr0[q]?)∧(∀j v,cs[j]?=some v→arr[o+j]?=some v)
 own:xV wr ts cs T
 chg:UM (fun x=>x=b∨T x) w0 wr
 notin: ¬T b
 len:cs.length=sz
 fit:o+sz≤arr0.size
 tlt: ∀x,T x→x<w0.heap.size
 blt:b<w0.heap.size
theorem GM{arr:Array Value}{o:Nat}{cs:List Value}(h:o+cs.length≤arr.size)(q:Nat):(splice arr o cs)[q]?=if q<o then arr[q]? else if q<o+cs.length then cs[q-o]? else arr[q]?:=by
 unfold splice
 rw [List.getElem?_toArray,List.append_assoc]
 by_cases h1:q<o
 ·rw [if_pos h1,List.getElem?_append_left (by simp;omega),List.getElem?_take,if_pos h1];simp
 ·rw [if_neg h1,List.getElem?_append_right (by simp;omega)]
  have hl:(List.take o arr.toList).length=o:=by simp;omega
  rw [hl]
  by_cases h2:q<o+cs.length
  ·rw [if_pos h2,List.getElem?_append_left (by omega)]
  ·rw [if_neg h2,List.getElem?_append_right (by omega),List.getElem?_drop,Array.getElem?_toList]
   congr 1;omega
theorem Foc.leaf{w0 wr w':World}{b:Nat}{E:TypeId}{arr0 arr:Array Value}{o sz:Nat}{ts:List Tr}{cs:List Value}{T:Nat→Prop}(h:Foc w0 wr b E arr0 o sz ts cs T){j:Nat}{u:Tr}{v:Value}(hj:ts[j]?=some u)(hv:oT v)
 (ha:OB wr b E arr) (hob:OB w' b E (splice arr (o+j) [v])) (hg:wr.grownBy w' (some b)):Foc w0 w' b E arr0 o sz (ts.set j (.leaf v)) (cs.set j v) T:=by
 obtain⟨arr1,h1,h2,h3,h4⟩:=h.arr
 have he:=ha.symm.trans h1
 injection he with he
 injection he with he
 subst he
 have hlt:j<ts.length:=(List.getElem?_eq_some_iff.1 hj).1
 have hsz:j<sz:=by rw [← h.len,h.own.1];exact hlt
 have hfit:=h.fit
 have hw:UM (fun x=>x=b) wr w':=UM.of_grown hg rfl
 refine⟨⟨_,hob,by rw [XG (by simp;omega)];exact h2,?_,?_⟩,(h.own.setLeaf hj hv).keep fun x hx hxl=>hw.block x hxl (by rintro rfl;exact h.notin hx),h.chg.trans (hw.mono fun x hx=> .inl hx),h.notin,by rw [List.length_set];exact h.len,h.fit,h.tlt,h.blt⟩
 ·intro q hq
  rw [GM (by simp;omega)]
  simp only [List.length_cons,List.length_nil]
  rw [← h3 q hq]
  split
  ·rfl
  ·rw [if_neg (by omega)]
 ·intro i x hx
  rw [GM (by simp;omega)]
  simp only [List.length_cons,List.length_nil]
  rw [List.getElem?_set] at hx
  split at hx
  ·rename_i hji
   subst hji
   split at hx
   ·injection hx with hx
    subst hx
    rw [if_neg (by omega),if_pos (by omega)]
    simp
   ·simp at hx
  ·rename_i hji
   have:=h4 i x hx
   split
   ·exact this
   ·rw [if_neg (by omega)];exact this
theorem Foc.row{w0 wr:World}{b:Nat}{E:TypeId}{arr0:Array Value}{o sz:Nat}{ts:List Tr}{cs:List Value}{T:Nat→Prop}(h:Foc w0 wr b E arr0 o sz ts cs T){j:Nat}{t:Tr}{v:Value}(hj:ts[j]?=some t)(hv:cs[j]?=some v):
 ∃U:Nat→Prop,O7 wr t v U∧(∀x,U x→x<wr.heap.size)∧ ∀w' t',O7 w' t' v U→UM U wr w'→Foc w0 w' b E arr0 o sz (ts.set j t') cs T:=by
 obtain⟨U,hu1,hu2,hu3⟩:=h.own.setRow hj hv
 refine⟨U,hu1,fun x hx=>Nat.lt_of_lt_of_le (h.tlt x (hu2 x hx)) h.chg.size,fun w' t' ho hc=>?_⟩
 obtain⟨arr,h1,h2,h3,h4⟩:=h.arr
 have hnb: ¬U b:=fun hx=>h.notin (hu2 b hx)
 exact⟨⟨arr,(hc.block b h1.lt hnb).trans h1,h2,h3,h4⟩,hu3 w' t' ho fun x hxl _ hn=>hc.block x hxl hn,h.chg.trans (hc.mono fun x hx=> .inr (hu2 x hx)),h.notin,h.len,h.fit,h.tlt,h.blt⟩
theorem O7.take{w:World}{sz:Nat}{es:List (List Tr)}{a:Option Addr}{n cap i:Nat}{S:Nat→Prop}{e:List Tr}(h:O7 w (.row sz es) (.slice a n cap) S)(hi:es[i]?=some e)(hl: ∀x∈es,x.length=sz)(hsz:0<sz)(hS: ∀x,S x→x<w.heap.size):
 ∃b off E arr cs T,a=some ⟨b,off,none⟩∧Foc w w b E arr (off+i*sz) sz e cs T∧lH w e cs∧
  ∀w' cs' e',e'.length=sz→Foc w w' b E arr (off+i*sz) sz e' cs' T→O7 w' (.row sz (es.set i e')) (.slice a n cap) S∧UM S w w':=by
 obtain⟨b,off,E,arr,cs,T,rfl,hob,hsb,how,hT,hcl,hfit,hc,hback⟩:=h.focus hi hl
 refine⟨b,off,E,arr,cs,T,rfl,⟨⟨arr,hob,rfl,fun _ _=>rfl,fun j v hv=>hc j v hv⟩,how,UM.refl _ _,fun hb=>(hT b hb).2 rfl,hcl,hfit hsz,fun x hx=>hS x (hT x hx).1,hob.lt⟩,how.rep,fun w' cs' e' he' hf=>?_⟩
 obtain⟨arr',h1,h2,h3,h4⟩:=hf.arr
 have hz:=hf.len
 have hfit:=hf.fit
 have harr:arr'=splice arr (off+i*sz) cs':=by
  apply Array.ext_getElem?
  intro q
  rw [GM (by omega)]
  split
  ·rename_i hq
   exact h3 q (.inl hq)
  ·split
   ·rename_i hq1 hq2
    obtain⟨v,hv⟩: ∃v,cs'[q-(off+i*sz)]?=some v:=⟨cs'[q-(off+i*sz)]'(by omega),List.getElem?_eq_getElem _⟩
    rw [hv,← h4 _ v hv]
    congr 1;omega
   ·rename_i hq1 hq2
    exact h3 q (.inr (by omega))
 rw [harr] at h1
 have hch:UM S w w':=hf.chg.mono fun x hx=>by rcases hx with rfl|hx;exact hsb;exact(hT x hx).1
 exact⟨hback w' cs' e' he' h1 hf.own (fun x hxl _ hne hnt=>hf.chg.block x hxl (by rintro(h|h);exact hne h;exact hnt h)) hf.fit,hch⟩
end Go.Proofs.YtfcoaagbccmahaaGreat

namespace Go.Proofs.YtfcoaagbccmahaaGreat
open Go.RowKit Go.Proofs
structure akX {α:Type} (p:α→Bool) (l:List α) (i j:Nat) (dk:List α):Prop where
 len:dk.length=l.length
 lt:i<j
 low:dk.take i=(l.take j).filter (fun x=> !p x)
 high: ∀q,j≤q→dk[q]?=l[q]?
end Go.Proofs.YtfcoaagbccmahaaGreat

namespace Go.Proofs.YtfcoaagbccmahaaGreat
instance:TC aO:=⟨aO.cs,aO.trs,2,aO.trs_at,aO.trs_len,fun l=>by rw [aO.trs_map];exact List.map_congr_left fun x _=>aO.tr_cs x,fun _=>rfl⟩
instance(l:List aO):RL (aO.trs l) aO l:=⟨rfl⟩
abbrev SX(l:List aO):PV:= .t (.row 2 (aO.trs l))
abbrev uI(l:List aO)(r:Nat):PV:= .acc 2 (aO.trs l) r
instance:TC aA:=⟨aA.cs,aA.trs,3,aA.trs_at,aA.trs_len,fun l=>by rw [aA.trs_map];exact List.map_congr_left fun x _=>aA.tr_cs x,fun _=>rfl⟩
instance(l:List aA):RL (aA.trs l) aA l:=⟨rfl⟩
abbrev aX(l:List aA):PV:= .t (.row 3 (aA.trs l))
abbrev fW(l:List aA)(r:Nat):PV:= .acc 3 (aA.trs l) r
instance:TC aG:=⟨aG.cs,aG.trs,9,aG.trs_at,aG.trs_len,fun l=>by rw [aG.trs_map];exact List.map_congr_left fun x _=>aG.tr_cs x,fun _=>rfl⟩
instance(l:List aG):RL (aG.trs l) aG l:=⟨rfl⟩
abbrev fZ(l:List aG):PV:= .t (.row 9 (aG.trs l))
abbrev afL(l:List aG)(r:Nat):PV:= .acc 9 (aG.trs l) r
instance:TC bH:=⟨bH.cs,bH.trs,11,bH.trs_at,bH.trs_len,fun l=>by rw [bH.trs_map];exact List.map_congr_left fun x _=>bH.tr_cs x,fun _=>rfl⟩
instance(l:List bH):RL (bH.trs l) bH l:=⟨rfl⟩
abbrev nL(l:List bH):PV:= .t (.row 11 (bH.trs l))
abbrev afV(l:List bH)(r:Nat):PV:= .acc 11 (bH.trs l) r
instance:TC aE:=⟨aE.cs,aE.trs,4,aE.trs_at,aE.trs_len,fun l=>by rw [aE.trs_map];exact List.map_congr_left fun x _=>aE.tr_cs x,fun _=>rfl⟩
instance(l:List aE):RL (aE.trs l) aE l:=⟨rfl⟩
abbrev b4(l:List aE):PV:= .t (.row 4 (aE.trs l))
abbrev R6(l:List aE)(r:Nat):PV:= .acc 4 (aE.trs l) r
instance:TC aR:=⟨aR.cs,aR.trs,4,aR.trs_at,aR.trs_len,fun l=>by rw [aR.trs_map];exact List.map_congr_left fun x _=>aR.tr_cs x,fun _=>rfl⟩
instance(l:List aR):RL (aR.trs l) aR l:=⟨rfl⟩
abbrev NR(l:List aR):PV:= .t (.row 4 (aR.trs l))
abbrev R7(l:List aR)(r:Nat):PV:= .acc 4 (aR.trs l) r
instance:TC aM:=⟨aM.cs,aM.trs,11,aM.trs_at,aM.trs_len,fun l=>by rw [aM.trs_map];exact List.map_congr_left fun x _=>aM.tr_cs x,fun _=>rfl⟩
instance(l:List aM):RL (aM.trs l) aM l:=⟨rfl⟩
abbrev kB(l:List aM):PV:= .t (.row 11 (aM.trs l))
abbrev MC(l:List aM)(r:Nat):PV:= .acc 11 (aM.trs l) r
instance:TC aC:=⟨aC.cs,aC.trs,2,aC.trs_at,aC.trs_len,fun l=>by rw [aC.trs_map];exact List.map_congr_left fun x _=>aC.tr_cs x,fun _=>rfl⟩
instance(l:List aC):RL (aC.trs l) aC l:=⟨rfl⟩
abbrev cB(l:List aC):PV:= .t (.row 2 (aC.trs l))
abbrev lM(l:List aC)(r:Nat):PV:= .acc 2 (aC.trs l) r
instance:TC aD:=⟨aD.cs,aD.trs,16,aD.trs_at,aD.trs_len,fun l=>by rw [aD.trs_map];exact List.map_congr_left fun x _=>aD.tr_cs x,fun _=>rfl⟩
instance(l:List aD):RL (aD.trs l) aD l:=⟨rfl⟩
abbrev iS(l:List aD):PV:= .t (.row 16 (aD.trs l))
abbrev jI(l:List aD)(r:Nat):PV:= .acc 16 (aD.trs l) r
instance:TC aQ:=⟨aQ.cs,aQ.trs,5,aQ.trs_at,aQ.trs_len,fun l=>by rw [aQ.trs_map];exact List.map_congr_left fun x _=>aQ.tr_cs x,fun _=>rfl⟩
instance(l:List aQ):RL (aQ.trs l) aQ l:=⟨rfl⟩
abbrev JT(l:List aQ):PV:= .t (.row 5 (aQ.trs l))
abbrev vF(l:List aQ)(r:Nat):PV:= .acc 5 (aQ.trs l) r
instance:TC aI:=⟨aI.cs,aI.trs,3,aI.trs_at,aI.trs_len,fun l=>by rw [aI.trs_map];exact List.map_congr_left fun x _=>aI.tr_cs x,fun _=>rfl⟩
instance(l:List aI):RL (aI.trs l) aI l:=⟨rfl⟩
abbrev mG(l:List aI):PV:= .t (.row 3 (aI.trs l))
abbrev lA(l:List aI)(r:Nat):PV:= .acc 3 (aI.trs l) r
instance:TC aJ:=⟨aJ.cs,aJ.trs,12,aJ.trs_at,aJ.trs_len,fun l=>by rw [aJ.trs_map];exact List.map_congr_left fun x _=>aJ.tr_cs x,fun _=>rfl⟩
instance(l:List aJ):RL (aJ.trs l) aJ l:=⟨rfl⟩
abbrev u0(l:List aJ):PV:= .t (.row 12 (aJ.trs l))
abbrev lC(l:List aJ)(r:Nat):PV:= .acc 12 (aJ.trs l) r
instance:TC aL:=⟨aL.cs,aL.trs,16,aL.trs_at,aL.trs_len,fun l=>by rw [aL.trs_map];exact List.map_congr_left fun x _=>aL.tr_cs x,fun _=>rfl⟩
instance(l:List aL):RL (aL.trs l) aL l:=⟨rfl⟩
abbrev C7(l:List aL):PV:= .t (.row 16 (aL.trs l))
abbrev lB(l:List aL)(r:Nat):PV:= .acc 16 (aL.trs l) r
instance:TC aK:=⟨aK.cs,aK.trs,6,aK.trs_at,aK.trs_len,fun l=>by rw [aK.trs_map];exact List.map_congr_left fun x _=>aK.tr_cs x,fun _=>rfl⟩
instance(l:List aK):RL (aK.trs l) aK l:=⟨rfl⟩
abbrev aU(l:List aK):PV:= .t (.row 6 (aK.trs l))
abbrev n4(l:List aK)(r:Nat):PV:= .acc 6 (aK.trs l) r
instance:TC aF:=⟨aF.cs,aF.trs,1,aF.trs_at,aF.trs_len,fun l=>by rw [aF.trs_map];exact List.map_congr_left fun x _=>aF.tr_cs x,fun _=>rfl⟩
instance(l:List aF):RL (aF.trs l) aF l:=⟨rfl⟩
instance:TC aB:=⟨aB.cs,aB.trs,2,aB.trs_at,aB.trs_len,fun l=>by rw [aB.trs_map];exact List.map_congr_left fun x _=>aB.tr_cs x,fun _=>rfl⟩
instance(l:List aB):RL (aB.trs l) aB l:=⟨rfl⟩
abbrev a9(l:List aB):PV:= .t (.row 2 (aB.trs l))
abbrev dH(l:List aB)(r:Nat):PV:= .acc 2 (aB.trs l) r
instance:TC aH:=⟨aH.cs,aH.trs,6,aH.trs_at,aH.trs_len,fun l=>by rw [aH.trs_map];exact List.map_congr_left fun x _=>aH.tr_cs x,fun _=>rfl⟩
instance(l:List aH):RL (aH.trs l) aH l:=⟨rfl⟩
abbrev bY(l:List aH):PV:= .t (.row 6 (aH.trs l))
abbrev eN(l:List aH)(r:Nat):PV:= .acc 6 (aH.trs l) r
instance:TC aN:=⟨aN.cs,aN.trs,4,aN.trs_at,aN.trs_len,fun l=>by rw [aN.trs_map];exact List.map_congr_left fun x _=>aN.tr_cs x,fun _=>rfl⟩
instance(l:List aN):RL (aN.trs l) aN l:=⟨rfl⟩
abbrev kA(l:List aN):PV:= .t (.row 4 (aN.trs l))
abbrev l6(l:List aN)(r:Nat):PV:= .acc 4 (aN.trs l) r
instance:TC a8:=⟨a8.cs,a8.trs,5,a8.trs_at,a8.trs_len,fun l=>by rw [a8.trs_map];exact List.map_congr_left fun x _=>a8.tr_cs x,fun _=>rfl⟩
instance(l:List a8):RL (a8.trs l) a8 l:=⟨rfl⟩
instance:TC cA:=⟨cA.cs,cA.trs,3,cA.trs_at,cA.trs_len,fun l=>by rw [cA.trs_map];exact List.map_congr_left fun x _=>cA.tr_cs x,fun _=>rfl⟩
instance(l:List cA):RL (cA.trs l) cA l:=⟨rfl⟩
instance:TC bJ:=⟨bJ.cs,bJ.trs,2,bJ.trs_at,bJ.trs_len,fun l=>by rw [bJ.trs_map];exact List.map_congr_left fun x _=>bJ.tr_cs x,fun _=>rfl⟩
instance(l:List bJ):RL (bJ.trs l) bJ l:=⟨rfl⟩
abbrev cN(x:aA):List PV:= [pI x.asJ,pS x.asD,aX x.asG]
abbrev gF(x:aG):List PV:= [pI x.asJ,pS x.asN,pS x.asD,pI x.atN,pI x.asH.asJ,pS x.asH.asD,aX x.asH.asG,fZ x.asG,nL x.asV]
abbrev eD(x:aE):List PV:= [pS x.asN,pI x.asH.asJ,pS x.asH.asD,aX x.asH.asG]
abbrev X4(x:aD):List PV:= [pS x.asD,aX x.asU,pI x.asT.asJ,pS x.asT.asD,aX x.asT.asG,pB x.as8,rS x.asP,pI x.asM.asJ,pS x.asM.asN,pS x.asM.asD,pI x.asM.atN,pI x.asM.asH.asJ,pS x.asM.asH.asD,aX x.asM.asH.asG,fZ x.asM.asG,nL x.asM.asV]
abbrev nX(x:aQ):List PV:= [pS x.asD,rS x.asO,pB x.atF,pB x.asW,iS x.asX]
abbrev dG(x:aI):List PV:= [pS x.asD,rS x.asP,cB x.asI]
abbrev lD(x:aJ):List PV:= [pS x.asN,rS x.asP,pI x.as1.asJ,pS x.as1.asD,aX x.as1.asG,b4 x.as0,pB x.atB,pB x.as9,pI x.asW.asJ,pS x.asW.asD,aX x.asW.asG,kB x.as2]
abbrev uV(x:aL):List PV:= [pS x.asD,rS x.asP,b4 x.as0,NR x.asU,pI x.asT.asJ,pS x.asT.asD,aX x.asT.asG,pI x.asM.asJ,pS x.asM.asN,pS x.asM.asD,pI x.asM.atN,pI x.asM.asH.asJ,pS x.asM.asH.asD,aX x.asM.asH.asG,fZ x.asM.asG,nL x.asM.asV]
abbrev eI(x:aK):List PV:= [pS x.asD,rS x.atC,JT x.asQ,mG x.asL,u0 x.asS,C7 x.asY]
end Go.Proofs.YtfcoaagbccmahaaGreat

namespace Go.Proofs.YtfcoaagbccmahaaGreat
abbrev xZ:ByteArray:=⟨#[40,99,97,108,108,32,98,111,116,104,32,40,99,97,108,108,32,105,100,32,40,99,97,108,108,32,105,100,32,40,110,101,119,32,116,97,103,32,50,41,41,41,41]⟩
abbrev cH:ByteArray:=⟨(List.append [32,40,105,110,115,116,32,115,104,111,119,32,40,41,32,105,110,116,32,40,41,32,40,41,32,40,41,32,40,109,32,40,120,41,32,120,41,41,32,40,105,110,115] [116,32,115,104,111,119,32,40,41,32,98,111,111,108,32,40,41,32,40,41,32,40,41,32,40,109,32,40,120,41,32,40,105,102,32,120,32,49,32,48,41,41,41]).toArray⟩
abbrev yA:ByteArray:=⟨(List.append [40,108,101,116,32,122,32,40,109,101,116,104,111,100,32,97,100,100,32,112,108,117,115,32,40,110,101,119,32,98,111,120,32,49] [41,32,40,110,101,119,32,98,111,120,32,50,41,41,32,40,99,97,115,101,32,122,32,40,98,111,120,32,110,32,110,41,41,41]).toArray⟩
abbrev eU:ByteArray:=⟨(List.append [32,40,105,110,115,116,32,101,113,32,40,97,41,32,40,98,111,120,32,39,97,41,32,40,40,101,113,32,39,97,41,41,32,40,41,32,40,41,32,40,115,97,109,101,32,40,120,32,121,41,32,40,99] [97,115,101,32,120,32,40,98,111,120,32,112,32,40,99,97,115,101,32,121,32,40,98,111,120,32,113,32,40,109,101,116,104,111,100,32,101,113,32,115,97,109,101,32,112,32,113,41,41,41,41,41,41,41]).toArray⟩
abbrev yB:ByteArray:=⟨#[40,99,97,108,108,32,98,111,116,104,32,40,110,101,119,32,112,97,105,114,32,51,32,116,114,117,101,41,41]⟩
abbrev l8:ByteArray:=⟨#[32,40,102,110,32,109,97,105,110,32,40,41,32,40,41,32,40,41,32,105,110,116,32]⟩
abbrev HA:ByteArray:=⟨(List.append [32,40,105,110,115,116,32,115,104,111,119,32,40,41,32,40,108,105,115,116,32,116,97,103,41,32,40,41,32,40,41,32,40,41,32,40,109,32,40,120,41] [32,52,41,41,32,40,105,110,115,116,32,115,104,111,119,32,40,41,32,116,97,103,32,40,41,32,40,41,32,40,41,32,40,109,32,40,120,41,32,53,41,41]).toArray⟩
abbrev yC:ByteArray:=⟨(List.append [32,40,102,110,32,103,114,111,119,32,40,97,41,32,40,40,115,104,111,119,32,39,97,41,41,32,40,40,110,32,105,110,116,41,32,40,120,32,39,97,41,41,32,105,110,116,32,40,105,102,32,40,60,32,110,32] [49,41,32,40,109,101,116,104,111,100,32,115,104,111,119,32,109,32,120,41,32,40,99,97,108,108,32,103,114,111,119,32,40,45,32,110,32,49,41,32,40,110,101,119,32,112,97,105,114,32,120,32,120,41,41,41,41]).toArray⟩
abbrev HB:ByteArray:=⟨(List.append [32,40,105,110,115,116,32,101,113,32,40,41,32,116,97,103,32,40,41,32,40,41,32,40,41,32,40,115,97,109,101,32,40,120,32,121,41,32,116,114,117,101,41,41,32] [40,105,110,115,116,32,111,114,100,32,40,41,32,116,97,103,32,40,41,32,40,41,32,40,41,32,40,108,101,115,115,32,40,120,32,121,41,32,102,97,108,115,101,41,41]).toArray⟩
abbrev yD:ByteArray:=⟨(List.append [40,109,101,116,104,111,100,32,115,104,111,119,32,109,32,40,110,101,119,32,99,111,110,115,32,49,32,40,110,101,119,32,99,111] [110,115,32,50,32,40,116,104,101,32,40,108,105,115,116,32,105,110,116,41,32,40,110,101,119,32,110,105,108,41,41,41,41,41]).toArray⟩
abbrev yE:ByteArray:=⟨#[40,99,97,108,108,32,98,111,116,104,32,53,41]⟩
abbrev yF:ByteArray:=⟨#[40,43,32,40,99,97,108,108,32,105,100,32,52,41,32,40,109,101,116,104,111,100,32,115,104,111,119,32,109,32,40,110,101,119,32,116,97,103,32,55,41,41,41]⟩
abbrev yG:ByteArray:=⟨#[40,105,102,32,40,109,101,116,104,111,100,32,111,114,100,32,108,101,115,115,32,49,32,50,41,32,40,99,97,108,108,32,98,111,116,104,32,116,114,117,101,41,32,48,41]⟩
abbrev yH:ByteArray:=⟨(List.append [40,109,101,116,104,111,100,32,115,104,111,119,32,109,32,40,110,101,119,32,99,111,110,115,32,40,110,101,119,32,116,97] [103,32,49,41,32,40,116,104,101,32,40,108,105,115,116,32,116,97,103,41,32,40,110,101,119,32,110,105,108,41,41,41,41]).toArray⟩
abbrev HC:ByteArray:=⟨#[32,40,105,110,115,116,32,111,114,100,32,40,41,32,116,97,103,32,40,41,32,40,41,32,40,41,32,40,108,101,115,115,32,40,120,32,121,41,32,116,114,117,101,41,41]⟩
abbrev yI:ByteArray:=⟨#[40,109,101,116,104,111,100,32,115,104,111,119,32,109,32,40,110,101,119,32,110,105,108,41,41]⟩
abbrev b8:ByteArray:=⟨(List.append [40,112,97,99,107,97,103,101,32,99,111,114,101,32,40,41,32,40,116,114,97,105,116,32,115,104,111,119,32,40,41,32,40,41,32,40,109,32,40,41,32,105,110,116,41,32,40,116,119,111,32,40,39,115,101] [108,102,41,32,105,110,116,32,40,120,32,121,41,32,40,43,32,40,109,101,116,104,111,100,32,115,104,111,119,32,109,32,120,41,32,40,109,101,116,104,111,100,32,115,104,111,119,32,109,32,121,41,41,41,41]).toArray⟩
abbrev iV:ByteArray:=⟨(List.append (List.append [32,40,105,110,115,116,32,97,100,100,32,40,97,41,32,40,98,111,120,32,39,97,41,32,40,40,97,100,100,32,39,97,41,41,32] [40,41,32,40,40,98,111,120,32,40,97,115,115,111,99,32,97,100,100,32,39,97,41,41,41,32,40,112,108,117,115,32,40,120,32]) (List.append [121,41,32,40,99,97,115,101,32,120,32,40,98,111,120,32,112,32,40,99,97,115,101,32,121,32,40,98,111,120,32,113,32,40,110] [101,119,32,98,111,120,32,40,109,101,116,104,111,100,32,97,100,100,32,112,108,117,115,32,112,32,113,41,41,41,41,41,41,41,41])).toArray⟩
abbrev c5:ByteArray:=⟨(List.append [32,40,105,110,115,116,32,115,104,111,119,32,40,97,32,98,41,32,40,112,97,105,114,32,39,97,32,39,98,41,32,40,40,115,104,111,119,32,39,97,41,32,40,115,104,111,119,32,39,98,41,41,32,40,41,32,40,41,32,40,109,32,40] [120,41,32,40,99,97,115,101,32,120,32,40,112,97,105,114,32,121,32,122,32,40,45,32,40,109,101,116,104,111,100,32,115,104,111,119,32,109,32,121,41,32,40,109,101,116,104,111,100,32,115,104,111,119,32,109,32,122,41,41,41,41,41,41]).toArray⟩
abbrev yJ:ByteArray:=⟨#[40,109,101,116,104,111,100,32,115,104,111,119,32,109,32,40,112,97,99,107,32,115,104,111,119,32,51,41,41]⟩
abbrev gO:ByteArray:=⟨(List.append [32,40,105,110,115,116,32,115,104,111,119,32,40,97,41,32,40,108,105,115,116,32,39,97,41,32,40,40,115,104,111,119,32,39,97,41,41,32,40,41,32,40,41,32,40,109,32,40,120,41,32,40,99,97,115,101,32,120,32,40] [110,105,108,32,48,41,32,40,99,111,110,115,32,104,32,116,32,40,43,32,40,109,101,116,104,111,100,32,115,104,111,119,32,109,32,104,41,32,40,109,101,116,104,111,100,32,115,104,111,119,32,109,32,116,41,41,41,41,41,41]).toArray⟩
abbrev l9:ByteArray:=⟨(List.append [32,40,102,110,32,105,100,32,40,97,41,32,40,41,32,40,40,120,32,39,97,41,41,32,39,97,32,120,41,32,40,102,110,32,98,111,116,104,32,40,97,41,32,40,40] [115,104,111,119,32,39,97,41,41,32,40,40,120,32,39,97,41,41,32,105,110,116,32,40,109,101,116,104,111,100,32,115,104,111,119,32,116,119,111,32,120,32,120,41,41]).toArray⟩
abbrev HD:ByteArray:=⟨#[32,40,105,110,115,116,32,115,104,111,119,32,40,41,32,116,97,103,32,40,41,32,40,41,32,40,41,32,40,109,32,40,120,41,32,40,99,97,115,101,32,120,32,40,116,97,103,32,110,32,110,41,32,40,110,111,110,101,32,48,41,41,41,41]⟩
abbrev cC:ByteArray:=⟨(List.append [32,40,100,97,116,97,32,108,105,115,116,32,40,97,41,32,40,110,105,108,41,32,40,99,111,110,115,32,39,97,32,40,108,105,115,116,32,39,97,41,41,41,32,40,100,97,116,97,32,112,97,105,114,32,40,97,32,98,41] [32,40,112,97,105,114,32,39,97,32,39,98,41,41,32,40,100,97,116,97,32,98,111,120,32,40,97,41,32,40,98,111,120,32,39,97,41,41,32,40,100,97,116,97,32,117,110,105,116,32,40,41,32,40,117,110,105,116,41,41]).toArray⟩
abbrev BH:ByteArray:=⟨(List.append (List.append [40,112,97,99,107,97,103,101,32,112,32,40,41,32,40,116,114,97,105,116,32,115,101,110,100,32,40,41,32,40,97,117,116,111,41,41,32,40,100,97,116,97,32,100,101,101,112,32,40,97,41,32,40,100] [101,101,112,32,40,100,101,101,112,32,40,112,97,105,114,32,39,97,32,39,97,41,41,32,105,110,116,41,41,32,40,100,97,116,97,32,112,97,105,114,32,40,97,32,98,41,32,40,112,97,105,114,32,39,97]) (List.append [32,39,98,41,41,32,40,100,97,116,97,32,108,111,111,112,32,40,41,32,40,108,111,111,112,32,108,111,111,112,32,40,98,111,120,32,108,111,111,112,41,41,32,40,101,110,100,41,41,32,40,100,97,116,97] [32,98,111,120,32,40,97,41,32,40,98,111,120,32,39,97,41,41,32,40,100,97,116,97,32,98,97,100,32,40,41,32,40,98,97,100,32,108,111,111,112,32,40,100,121,110,32,115,101,110,100,41,41,41,41])).toArray⟩
abbrev HE:ByteArray:=⟨(List.append [32,40,102,110,32,108,101,110,32,40,97,41,32,40,41,32,40,40,120,32,40,108,105,115,116,32,39,97,41,41,41,32,105,110,116,32,40,99,97,115,101] [32,120,32,40,110,105,108,32,48,41,32,40,99,111,110,115,32,104,32,116,32,40,43,32,49,32,40,99,97,108,108,32,108,101,110,32,116,41,41,41,41,41]).toArray⟩
abbrev HF:ByteArray:=⟨#[32,40,105,110,115,116,32,115,104,111,119,32,40,97,41,32,39,97,32,40,40,101,113,32,39,97,41,41,32,40,41,32,40,41,32,40,109,32,40,120,41,32,49,41,41]⟩
abbrev HG:ByteArray:=⟨#[32,40,105,110,115,116,32,115,104,111,119,32,40,41,32,116,97,103,32,40,41,32,40,41,32,40,41,32,40,109,32,40,120,41,32,40,99,97,115,101,32,120,32,40,110,111,110,101,32,48,41,32,40,116,97,103,32,110,32,110,41,41,41,41]⟩
abbrev fY:ByteArray:=⟨#[32,40,105,110,115,116,32,97,100,100,32,40,41,32,105,110,116,32,40,41,32,40,41,32,40,105,110,116,41,32,40,112,108,117,115,32,40,120,32,121,41,32,40,43,32,120,32,121,41,41,41]⟩
abbrev b9:ByteArray:=⟨(List.append (List.append [32,40,116,114,97,105,116,32,101,113,32,40,41,32,40,41,32,40,115,97,109,101,32,40,39,115,101,108,102,41,32,98,111,111,108,41,41,32,40] [116,114,97,105,116,32,111,114,100,32,40,101,113,41,32,40,41,32,40,108,101,115,115,32,40,39,115,101,108,102,41,32,98,111,111,108,41,41,32]) (List.append [40,116,114,97,105,116,32,97,100,100,32,40,41,32,40,97,115,115,111,99,41,32,40,112,108,117,115,32,40,39,115,101,108,102,41,32,40,97,115] [115,111,99,32,97,100,100,32,39,115,101,108,102,41,41,41,32,40,116,114,97,105,116,32,115,101,110,100,32,40,41,32,40,97,117,116,111,41,41])).toArray⟩
abbrev HH:ByteArray:=⟨(List.append [32,40,102,110,32,115,117,109,32,40,97,41,32,40,40,97,100,100,32,39,97,41,41,32,40,40,120,32,39,97,41,32,40,121,32,39,97,41] [41,32,40,97,115,115,111,99,32,97,100,100,32,39,97,41,32,40,109,101,116,104,111,100,32,97,100,100,32,112,108,117,115,32,120,32,121,41,41]).toArray⟩
abbrev dV:ByteArray:=⟨#[40,112,97,99,107,97,103,101,32,97,112,112,32,40,99,111,114,101,41,32,40,100,97,116,97,32,116,97,103,32,40,41,32,40,116,97,103,32,105,110,116,41,32,40,110,111,110,101,41,41]⟩
abbrev dX:ByteArray:=⟨(List.append [32,40,105,110,115,116,32,101,113,32,40,41,32,105,110,116,32,40,41,32,40,41,32,40,41,32,40,115,97,109,101,32,40,120,32,121,41,32,40,61,32,120,32,121,41,41,41] [32,40,105,110,115,116,32,111,114,100,32,40,41,32,105,110,116,32,40,41,32,40,41,32,40,41,32,40,108,101,115,115,32,40,120,32,121,41,32,40,60,32,120,32,121,41,41,41]).toArray⟩
abbrev gP:ByteArray:=⟨(List.append (List.append [32,40,105,110,115,116,32,115,104,111,119,32,40,97,41,32,40,108,105,115,116,32,39,97,41,32,40,41,32,40,100,101,102,97,117,108] [116,41,32,40,41,32,40,109,32,40,120,41,32,55,41,41,32,40,105,110,115,116,32,115,104,111,119,32,40,41,32,40,108,105,115,116,32]) (List.append [105,110,116,41,32,40,41,32,40,41,32,40,41,32,40,109,32,40,120,41,32,40,99,97,115,101,32,120,32,40,110,105,108,32,48,41,32] [40,99,111,110,115,32,104,32,116,32,40,43,32,104,32,40,109,101,116,104,111,100,32,115,104,111,119,32,109,32,116,41,41,41,41,41,41])).toArray⟩
abbrev HI:ByteArray:=⟨#[32,40,105,110,115,116,32,115,104,111,119,32,40,41,32,105,110,116,32,40,41,32,40,41,32,40,41,32,40,109,32,40,120,41,32,57,41,41]⟩
abbrev s_:ByteArray:=⟨#[]⟩
abbrev s_0:ByteArray:=⟨#[48]⟩
abbrev s_A:ByteArray:=⟨#[65]⟩
abbrev eQ:ByteArray:=⟨#[97]⟩
abbrev cX:ByteArray:=⟨#[97,100,100]⟩
abbrev gI:ByteArray:=⟨#[97,115,115,111,99]⟩
abbrev vT:ByteArray:=⟨#[97,117,116,111]⟩
abbrev t2:ByteArray:=⟨#[98]⟩
abbrev yU:ByteArray:=⟨#[98,97,100]⟩
abbrev c9:ByteArray:=⟨#[98,111,111,108]⟩
abbrev tD:ByteArray:=⟨#[98,111,120]⟩
abbrev s_c:ByteArray:=⟨#[99]⟩
abbrev KA:ByteArray:=⟨#[99,97,108,108]⟩
abbrev t3:ByteArray:=⟨#[99,97,115,101]⟩
abbrev bZ:ByteArray:=⟨#[99,111,110,115]⟩
abbrev e9:ByteArray:=⟨#[99,111,114,101]⟩
abbrev KB:ByteArray:=⟨#[100,97,116,97]⟩
abbrev nZ:ByteArray:=⟨#[100,101,101,112]⟩
abbrev sJ:ByteArray:=⟨#[100,101,102,97,117,108,116]⟩
abbrev uF:ByteArray:=⟨#[100,121,110]⟩
abbrev iC:ByteArray:=⟨#[101,113]⟩
abbrev s_f:ByteArray:=⟨#[102]⟩
abbrev jO:ByteArray:=⟨#[102,97,108,115,101]⟩
abbrev ab8:ByteArray:=⟨#[102,110]⟩
abbrev s_g:ByteArray:=⟨#[103]⟩
abbrev Y2:ByteArray:=⟨#[104]⟩
abbrev z0:ByteArray:=⟨#[105,102]⟩
abbrev KC:ByteArray:=⟨#[105,110,115,116]⟩
abbrev dK:ByteArray:=⟨#[105,110,116]⟩
abbrev AY:ByteArray:=⟨#[108,101,116]⟩
abbrev b0:ByteArray:=⟨#[108,105,115,116]⟩
abbrev sK:ByteArray:=⟨#[108,111,111,112]⟩
abbrev dY:ByteArray:=⟨#[109]⟩
abbrev mC:ByteArray:=⟨#[109,101,116,104,111,100]⟩
abbrev AZ:ByteArray:=⟨#[110,101,119]⟩
abbrev eV:ByteArray:=⟨#[110,105,108]⟩
abbrev N8:ByteArray:=⟨#[111,110,101]⟩
abbrev c3:ByteArray:=⟨#[111,114,100]⟩
abbrev XK:ByteArray:=⟨#[112]⟩
abbrev t4:ByteArray:=⟨#[112,97,99,107]⟩
abbrev RH:ByteArray:=⟨#[112,97,99,107,97,103,101]⟩
abbrev pW:ByteArray:=⟨#[112,97,105,114]⟩
abbrev s_q:ByteArray:=⟨#[113]⟩
abbrev g0:ByteArray:=⟨#[115,101,108,102]⟩
abbrev fG:ByteArray:=⟨#[115,101,110,100]⟩
abbrev a4:ByteArray:=⟨#[115,104,111,119]⟩
abbrev Y3:ByteArray:=⟨#[116]⟩
abbrev B6:ByteArray:=⟨#[116,97,103]⟩
abbrev RI:ByteArray:=⟨#[116,104,101]⟩
abbrev C8:ByteArray:=⟨#[116,114,97,105,116]⟩
abbrev mQ:ByteArray:=⟨#[116,114,117,101]⟩
abbrev eK:ByteArray:=⟨#[116,119,105,99,101]⟩
abbrev gM:ByteArray:=⟨#[117,110,105,116]⟩
abbrev dT:ByteArray:=⟨#[120]⟩
abbrev nP:ByteArray:=⟨#[121]⟩
abbrev rV:ByteArray:=⟨#[122,122]⟩
abbrev acR:ByteArray:=⟨#[10]⟩
abbrev acS:ByteArray:=⟨#[39]⟩
abbrev wG:ByteArray:=⟨#[41]⟩
abbrev IQ:ByteArray:=⟨#[42]⟩
abbrev wH:ByteArray:=⟨#[43]⟩
abbrev A5:ByteArray:=⟨#[45]⟩
abbrev IR:ByteArray:=⟨#[60]⟩
abbrev IS:ByteArray:=⟨#[61]⟩
end Go.Proofs.YtfcoaagbccmahaaGreat

namespace Go.Proofs.YtfcoaagbccmahaaGreat
open Go.RowKit Go.WalkArith Go.IntWalk Go.WideShapes
def CN(a:Int):UInt8:=UInt8.ofNat (a%256).toNat
theorem UL(a:Int):IntKind.wrap .u8 a=((CN a).toNat:Int):=by
 unfold CN IntKind.wrap
 simp [IntKind.bits,IntKind.signed]
 omega
def bytesStr(l:List UInt8):ByteArray:=⟨l.toArray⟩
theorem PI(l:List UInt8):(bytesStr l).size=l.length:=by simp [bytesStr,ByteArray.size]
theorem PH(l:List UInt8):strOfNums (l.map fun b=>(b.toNat:Int))=bytesStr l:=by
 unfold strOfNums bytesStr
 congr 2
 rw [List.map_map]
 conv=>rhs;rw [← List.map_id l]
 apply List.map_congr_left
 intro b _
 simp
section
variable {P:Program} {C:lL} {n:Nat} {s:AS} {o:Oper}
theorem a5.quoI{T yT:TypeId}{x y:Operand}{a b:Int}(ho:o.op= .binOp .quo T x y yT)(hd:bA o.dst n=true)(hx:s.ev x=some (.t (.leaf (.int .i64 a))))(hy:s.ev y=some (.t (.leaf (.int .i64 b))))(hb:b≠0):
 a5 P C n o s (s.putO o.dst (.t (.leaf (.int .i64 (aY (a.tdiv b)))))):=a5.bin ho hd hx hy (fun w=>by simp [eqGuard,binOp,Op.intDiv,hb,aY]) (wf_wrap .i64 _)
theorem a5.remI{T yT:TypeId}{x y:Operand}{a b:Int}(ho:o.op= .binOp .rem T x y yT)(hd:bA o.dst n=true)(hx:s.ev x=some (.t (.leaf (.int .i64 a))))(hy:s.ev y=some (.t (.leaf (.int .i64 b))))(hb:b≠0):
 a5 P C n o s (s.putO o.dst (.t (.leaf (.int .i64 (a.tmod b))))):=
 a5.quiet (cE hd) fun m ac w h=>by
  obtain⟨h1,h3⟩:=b5.leaf_eq (h.eval hx)
  have h2:=(b5.leaf_eq (h.eval hy)).1
  have h4: -9223372036854775808≤a∧a≤9223372036854775807:=by
   have h5:(Lit.int .i64 a).wf=true:=h3
   simpa [Lit.wf,IntKind.min,IntKind.max,IntKind.bits,IntKind.signed] using h5
  have h6:(a.tmod b).natAbs≤a.natAbs:=by rw [Int.natAbs_tmod];exact Nat.mod_le _ _
  have h7:0≤a→0≤a.tmod b:=fun h=>Int.tmod_nonneg b h
  have h8:a≤0→a.tmod b≤0:=fun h=>by have:=Int.tmod_nonneg b (show 0≤ -a by omega);rw [Int.neg_tmod] at this;omega
  refine⟨.int .i64 (a.tmod b),?_,b5.leaf (wf_i64 (by omega))⟩
  unfold execOp
  simp [ho,h1,h2,eqGuard,binOp,Op.intDiv,hb]
theorem a5.convU8{S T:TypeId}{x:Operand}{k:IntKind}{a:Int}(ho:o.op= .convert S T x)(hd:bA o.dst n=true)(hx:s.ev x=some (.t (.leaf (.int k a))))(hS: ∃k',P.underlying S=some (.int k'))(hT:P.underlying T=some (.int .u8)):
 a5 P C n o s (s.putO o.dst (.t (.leaf (.int .u8 ((CN a).toNat:Int))))):=
 a5.quiet (cE hd) fun m ac w h=>⟨.int .u8 ((CN a).toNat:Int),by
  have h3:=(b5.leaf_eq (h.eval hx)).1
  obtain⟨k',hS⟩:=hS
  unfold execOp
  simp [ho,h3,convert,run_underlying hS,run_underlying hT,Conv.intToInt,UL],b5.leaf (by rw [← UL];exact wf_wrap .u8 a)⟩
theorem a5.subU8{T yT:TypeId}{x y:Operand}{a b:Int}(ho:o.op= .binOp .sub T x y yT)(hd:bA o.dst n=true)(hx:s.ev x=some (.t (.leaf (.int .u8 a))))(hy:s.ev y=some (.t (.leaf (.int .u8 b)))):
 a5 P C n o s (s.putO o.dst (.t (.leaf (.int .u8 ((CN (a-b)).toNat:Int))))):=by
 rw [← UL]
 exact a5.subW ho hd hx hy
theorem a5.bytesStr{S T e:TypeId}{x:Operand}{p:PV}{l:List UInt8}(ho:o.op= .convert S T x)(hd:bA o.dst n=true)(hx:s.ev x=some p)(hp:jK p=some (1,iY l))(hS:P.underlying S=some (.slice e))(he:P.underlying e=some (.int .u8))(hT:P.underlying T=some .string):
 a5 P C n o s (s.putO o.dst (.t (.leaf (.string (bytesStr l))))):=
 a5.quiet (cE hd) fun m ac w h=>by
  have h1:=tC hp (h.eval hx)
  obtain⟨a0,cap0,hv0,hl0,hm0⟩:=h1.shape
  rw [mZ] at hl0
  have hsz:oT (.string (Go.Proofs.YtfcoaagbccmahaaGreat.bytesStr l)):=by show(Go.Proofs.YtfcoaagbccmahaaGreat.bytesStr l).size≤maxLen;rw [PI];omega
  refine⟨.string (Go.Proofs.YtfcoaagbccmahaaGreat.bytesStr l),?_,b5.leaf hsz⟩
  generalize hv:ac.eval x=v at*
  cases h1 with
  |row c q1 q2 q3 q4=>
   have keyAll: ∀(a:Option Addr) (cap:Nat) (q3:iY l≠ []→ ∃b off,a=some ⟨b,off,none⟩∧b<w.heap.size∧ ∀(i:Nat) (e:List Tr),(iY l)[i]?=some e→ ∀(j:Nat) (d:Tr),e[j]?=some d→iZ C.av s.st m b (off+i*1+j)∧w.cell? ⟨b,off+i*1+j,none⟩=some (c i j)),(convert S T (.slice a (iY l).length cap)).run P w= .ok (.string (Go.Proofs.YtfcoaagbccmahaaGreat.bytesStr l)) w:=fun a cap q3=>by
    by_cases hne:l= []
    ·subst hne
     have hlen:(iY []).length=0:=rfl
     rw [hlen]
     cases a with
     |none=>exact run_convert_bytes_nil (P:=P) w S e hS he 0 cap T hT
     |some a=>
      obtain⟨b,off,sp⟩:=a
      have hld:(loadCells ⟨b,off,sp⟩ 0).run P w= .ok (([]:List Int).map (Value.int .u8)).toArray w:=by simp [loadCells,loadCellsFrom]
      rw [run_convert_bytes_string w S T e _ 0 cap hS he hT,run_bytesToString w _ 0 cap [] hld]
      rfl
    ·obtain⟨b,off,ha,hb,hc⟩:=q3 (by intro h0;apply hne;have:=congrArg List.length h0;rw [mZ] at this;exact List.eq_nil_of_length_eq_zero this)
     subst ha
     have:=run_convert_bytes_arg (P:=P) w S e hS he b off (iY l).length cap (l.map fun b=>(b.toNat:Int)) (by simp [mZ]) (fun i hi=>by
      rw [mZ] at hi
      have h4:=(hc i _ (vG hi) 0 (.leaf (.int .u8 ((l[i]).toNat:Int))) rfl).2
      have h5:=(q4 i _ (vG hi) 0 (.leaf (.int .u8 ((l[i]).toNat:Int))) rfl).rep.leaf_eq.1
      rw [Nat.mul_one,Nat.add_zero] at h4
      rw [h4,h5]
      simp [hi]) T hT
     rw [PH] at this
     exact this
   unfold execOp
   simp only [ho,hv]
   rw [Sem.run_bind,keyAll _ _ q3]
   rfl
end
end Go.Proofs.YtfcoaagbccmahaaGreat

namespace Go.Proofs.YtfcoaagbccmahaaGreat.W
set_option maxRecDepth 100000
set_option maxHeartbeats 40000000
noncomputable section
open Tryz Go.RowKit Go.Proofs
attribute [local irreducible] lt
def P7(fu:Nat)(ps:ByteArray)(pE:UInt8):((LB)×Int×Int)→Option (LR ((LB)×Int×Int) ((LB))):=fun(v4,v2,v3)=>sw (decide (v3≤(ps.size:Int))) (sw (decide (v3=(ps.size:Int))) (gd ((0:Int)≤v2∧(v2:Int)≤v3∧(v3:Int)≤(ps.size:Int)) (gd ((v4).length+(([(ps.extract (v2:Int).toNat (v3:Int).toNat)]:LB)).length≤68719476736) (some (.next ((v4++([(ps.extract (v2:Int).toNat (v3:Int).toNat)]:LB)),(aY (v3+1)),(aY (v3+1))))))) (gd (0≤v3∧(v3).toNat<(ps).size) (sw (decide ((((zF ps ((v3).toNat)).toNat:Int):Int)=(pE.toNat:Int))) (gd ((0:Int)≤v2∧(v2:Int)≤v3∧(v3:Int)≤(ps.size:Int)) (gd ((v4).length+(([(ps.extract (v2:Int).toNat (v3:Int).toNat)]:LB)).length≤68719476736) (some (.next ((v4++([(ps.extract (v2:Int).toNat (v3:Int).toNat)]:LB)),(aY (v3+1)),(aY (v3+1))))))) (some (.next (v4,v2,(aY (v3+1)))))))) (some (.brk (v4,v2,v3)))
def zY(fu:Nat)(ps:ByteArray)(pE:UInt8):Option ((LB)):=so (loopW (P7 fu ps pE) fu (([]),0,0)) fun(v4,v2,v3)=>some v4
theorem P8(fu:Nat)(ps:ByteArray)(pE:UInt8)(r:(LB))(H:zY fu ps pE=some r):bP Tryz.prog 96 [pS ps,pU pE] (rS r):=by
 refine qJ func96 H (fun C hC H=>?_)
 refine gQ 6 ?_;refine q1 (n0 ([]:LB)) ?_;refine gQ 11 ?_;refine iG 5 (bI _) (fun hl6=>?_)
 refine NN (σ:=(LB)×Int×Int) (fun(v4,v2,v3)=>⟨[(0,pS ps),(1,pU pE),(4,.nil),(5,aS v4 0),(6,pI v2),(7,pI v3)],⟨[],[⟨9,1,aW (v4),false⟩]⟩⟩) (fun(v4,v2,v3)=>⟨[(4,.nil),(5,aS v4 0)],⟨[],[⟨9,1,aW (v4),false⟩]⟩⟩) (eR H) ?_ ?_
 ·rintro k5 ⟨v4,v2,v3⟩ H
  refine gQ 5 ?_;refine q1 (a5.lenS rfl rfl rfl Tryz.underlying9) ?_;refine gQ 2 ?_;refine a7 H (fun h7 H=>?_) (fun h7 H=>?_)
  ·refine gQ 7 ?_;refine q1 (a5.lenS rfl rfl rfl Tryz.underlying9) ?_;refine gQ 2 ?_;refine dF 19 H (fun g8 H=>?_) fun g8 H=>?_
   ·refine gQ 14 ?_;refine cQ H fun z9 H=>(q1 (a5.sliceS (l:=v2) (k:=v3) rfl rfl rfl rfl rfl z9 Tryz.underlying9) (q1 (gC ([(ps.extract (v2:Int).toNat (v3:Int).toNat)]:LB)) (cQ H fun z10 H=>(q1 (jS z10) ?_))))
    exact gE 12
   refine gQ 2 ?_;refine cQ H fun z11 H=>(qg g8 (a5.indexSI (y:=v3) rfl rfl rfl rfl z11.1 z11.2 Tryz.underlying9) ?_)
   refine gQ 4 ?_;refine a7 H (fun h12 H=>?_) (fun h12 H=>?_)
   ·refine gQ 6 ?_;refine cQ H fun z13 H=>(q1 (a5.sliceS (l:=v2) (k:=v3) rfl rfl rfl rfl rfl z13 Tryz.underlying9) (q1 (gC ([(ps.extract (v2:Int).toNat (v3:Int).toNat)]:LB)) (cQ H fun z14 H=>(q1 (jS z14) ?_))))
    exact gE 12
   exact gE 6
  exact gE 0
 rintro⟨v4,v2,v3⟩ H
 exact gE 5
def OQ(fu:Nat)(pr:cS):Int→Option (LR Int cS):=fun v1=>sw (decide (v1<(pr.atO.size:Int))) (gd (0≤v1∧(v1).toNat<(pr.atO).size) (sw (decide ((((zF pr.atO ((v1).toNat)).toNat:Int):Int)=32)) (some (.next (aY (v1+1)))) (sw (decide ((((zF pr.atO ((v1).toNat)).toNat:Int):Int)=10)) (some (.next (aY (v1+1)))) (some (.brk v1))))) (some (.brk v1))
def u9(fu:Nat)(pr:cS):Option cS:=so (loopW (OQ fu pr) fu pr.as7) fun v1=>some (cS.mk pr.atO v1 pr.as3 pr.as6 pr.atA)
theorem GH(fu:Nat)(pr:cS)(r:cS)(H:u9 fu pr=some r):cJ Tryz.prog 172 [.ptr 0 0] ⟨[some ⟨220,[pS pr.atO,pI pr.as7,pI pr.as3,pI pr.as6,pB pr.atA]⟩],[]⟩ (fun q t=>q=(.tup [])∧t=⟨[some ⟨220,[pS r.atO,pI r.as7,pI r.as3,pI r.as6,pB r.atA]⟩],[]⟩):=by
 refine qJ func172 H (fun C hC H=>?_)
 refine NN (σ:=Int) (fun v1=>⟨[(0,.ptr 0 0)],⟨[some ⟨220,[pS pr.atO,pI v1,pI pr.as3,pI pr.as6,pB pr.atA]⟩],[]⟩⟩) (fun v1=>⟨[],⟨[some ⟨220,[pS pr.atO,pI v1,pI pr.as3,pI pr.as6,pB pr.atA]⟩],[]⟩⟩) (eR H) ?_ ?_
 ·rintro k2 v1 H
  refine gQ 2 ?_
  rcases qB (decide (v1<(pr.atO.size:Int))) with g3|g3
  ·have H:=wF H g3
   refine cQ H fun z4 H=>?_
   rcases qB (decide ((((zF pr.atO ((v1).toNat)).toNat:Int):Int)=32)) with g5|g5
   ·have H:=wF H g5
    refine dW (dI [0] bG (dI [2] sU (dI [3] bS (dD [4] eE (dI [0] bG (dI [6] sU (dI [7] bS (dD [8] eE (dI [9] (a5.lenS rfl rfl rfl Tryz.underlying9) (dI [5,10] rLt (dI [11] bG (dI (hg:=a6 g3) [0] bG (dI (hg:=a6 g3) [13] sU ?_)))))))))))))
    refine dI (hg:=a6 g3) [14] bS (dD (hg:=a6 g3) [15] eE (dI (hg:=a6 g3) [0] bG (dI (hg:=a6 g3) [17] sU (dI (hg:=a6 g3) [18] bS (dD (hg:=a6 g3) [19] eE (dI (hg:=a6 g3) [16,20] (a5.indexSI (y:=v1) rfl rfl rfl rfl z4.1 z4.2 Tryz.underlying9) (dI (hg:=a6 g3) [21] XJ (dI (hg:=a6 g3) [22] bG ?_))))))))
    iterate 10 refine ME g5 ?_
    refine dI (hg:=a6 g3) [23] (A6 g5) (dI [12,34] (A6 g3) (dN ?_))
    exact gE 14
   have H:=wE H g5
   refine dW (dI [0] bG (dI [2] sU (dI [3] bS (dD [4] eE (dI [0] bG (dI [6] sU (dI [7] bS (dD [8] eE (dI [9] (a5.lenS rfl rfl rfl Tryz.underlying9) (dI [5,10] rLt (dI [11] bG (dI (hg:=a6 g3) [0] bG (dI (hg:=a6 g3) [13] sU ?_)))))))))))))
   refine dI (hg:=a6 g3) [14] bS (dD (hg:=a6 g3) [15] eE (dI (hg:=a6 g3) [0] bG (dI (hg:=a6 g3) [17] sU (dI (hg:=a6 g3) [18] bS (dD (hg:=a6 g3) [19] eE (dI (hg:=a6 g3) [16,20] (a5.indexSI (y:=v1) rfl rfl rfl rfl z4.1 z4.2 Tryz.underlying9) (dI (hg:=a6 g3) [21] XJ (dI (hg:=a6 g3) [22] bG (dI (hg:=a6 g5) [0] bG (dI (hg:=a6 g5) [24] sU (dI (hg:=a6 g5) [25] bS (dD (hg:=a6 g5) [26] eE (dI (hg:=a6 g5) [0] bG ?_)))))))))))))
   refine dI (hg:=a6 g5) [28] sU (dI (hg:=a6 g5) [29] bS (dD (hg:=a6 g5) [30] eE (dI (hg:=a6 g5) [27,31] (a5.indexSI (y:=v1) rfl rfl rfl rfl z4.1 z4.2 Tryz.underlying9) (dI (hg:=a6 g5) [32] XJ (dI (hg:=a6 g3) [23,33] (DZ g5) (dI [12,34] (A6 g3) (dN ?_)))))))
   refine a7 H (fun h6 H=>gE 13) fun h6 H=>?_;exact gE 0
  have H:=wE H g3
  refine dW (dI [0] bG (dI [2] sU (dI [3] bS (dD [4] eE (dI [0] bG (dI [6] sU (dI [7] bS (dD [8] eE (dI [9] (a5.lenS rfl rfl rfl Tryz.underlying9) (dI [5,10] rLt (dI [11] bG ?_)))))))))))
  iterate 11 refine ME g3 ?_
  iterate 10 refine dSu ?_
  refine ME g3 (dI [12] (DZ g3) (dN ?_))
  exact gE 1
 rintro v1 H
 cases xQ H
 exact qe (ps:= []) ⟨rfl,rfl⟩ trivial
def DB(fu:Nat)(px:UInt8):Option Bool:=sw (decide ((px.toNat:Int)≥97)) (sw (decide ((px.toNat:Int)≤122)) (some true) (sw (decide ((px.toNat:Int)≥48)) (sw (decide ((px.toNat:Int)≤57)) (some true) (sw (decide ((px.toNat:Int)=39)) (some true) (sw (decide ((px.toNat:Int)=45)) (some true) (sw (decide ((px.toNat:Int)=43)) (some true) (sw (decide ((px.toNat:Int)=42)) (some true) (sw (decide ((px.toNat:Int)=60)) (some true) (sw (decide ((px.toNat:Int)=61)) (some true) (some (decide ((px.toNat:Int)=46)))))))))) (sw (decide ((px.toNat:Int)=39)) (some true) (sw (decide ((px.toNat:Int)=45)) (some true) (sw (decide ((px.toNat:Int)=43)) (some true) (sw (decide ((px.toNat:Int)=42)) (some true) (sw (decide ((px.toNat:Int)=60)) (some true) (sw (decide ((px.toNat:Int)=61)) (some true) (some (decide ((px.toNat:Int)=46))))))))))) (sw (decide ((px.toNat:Int)≥48)) (sw (decide ((px.toNat:Int)≤57)) (some true) (sw (decide ((px.toNat:Int)=39)) (some true) (sw (decide ((px.toNat:Int)=45)) (some true) (sw (decide ((px.toNat:Int)=43)) (some true) (sw (decide ((px.toNat:Int)=42)) (some true) (sw (decide ((px.toNat:Int)=60)) (some true) (sw (decide ((px.toNat:Int)=61)) (some true) (some (decide ((px.toNat:Int)=46)))))))))) (sw (decide ((px.toNat:Int)=39)) (some true) (sw (decide ((px.toNat:Int)=45)) (some true) (sw (decide ((px.toNat:Int)=43)) (some true) (sw (decide ((px.toNat:Int)=42)) (some true) (sw (decide ((px.toNat:Int)=60)) (some true) (sw (decide ((px.toNat:Int)=61)) (some true) (some (decide ((px.toNat:Int)=46))))))))))
theorem ON(fu:Nat)(px:UInt8)(r:Bool)(H:DB fu px=some r):bP Tryz.prog 196 [pU px] (pB r):=by
 refine qJ func196 H (fun C hC H=>?_)
 refine gQ 9 ?_;refine dF 5 H (fun g1 H=>?_) fun g1 H=>?_
 ·refine gQ 4 ?_;refine dF 9 H (fun g2 H=>gE 37) fun g2 H=>?_;refine gQ 3 ?_;refine dF 12 H (fun g3 H=>?_) fun g3 H=>?_
  ·refine gQ 5 ?_;refine dF 17 H (fun g4 H=>gE 29) fun g4 H=>?_;refine gQ 4 ?_;refine dF 21 H (fun g5 H=>gE 25) fun g5 H=>?_;refine gQ 4 ?_;refine dF 25 H (fun g6 H=>gE 21) fun g6 H=>?_;refine gQ 4 ?_;refine dF 29 H (fun g7 H=>gE 17) fun g7 H=>?_;refine gQ 4 ?_;refine dF 33 H (fun g8 H=>gE 13) fun g8 H=>?_;refine gQ 4 ?_;refine dF 37 H (fun g9 H=>gE 9) fun g9 H=>?_;refine gQ 4 ?_;refine dF 41 H (fun g10 H=>gE 5) fun g10 H=>?_;exact gE 5
  refine gQ 9 ?_;refine dF 21 H (fun g11 H=>gE 25) fun g11 H=>?_;refine gQ 4 ?_;refine dF 25 H (fun g12 H=>gE 21) fun g12 H=>?_;refine gQ 4 ?_;refine dF 29 H (fun g13 H=>gE 17) fun g13 H=>?_;refine gQ 4 ?_;refine dF 33 H (fun g14 H=>gE 13) fun g14 H=>?_;refine gQ 4 ?_;refine dF 37 H (fun g15 H=>gE 9) fun g15 H=>?_;refine gQ 4 ?_;refine dF 41 H (fun g16 H=>gE 5) fun g16 H=>?_;exact gE 5
 refine gQ 7 ?_;refine dF 12 H (fun g17 H=>?_) fun g17 H=>?_
 ·refine gQ 5 ?_;refine dF 17 H (fun g18 H=>gE 29) fun g18 H=>?_;refine gQ 4 ?_;refine dF 21 H (fun g19 H=>gE 25) fun g19 H=>?_;refine gQ 4 ?_;refine dF 25 H (fun g20 H=>gE 21) fun g20 H=>?_;refine gQ 4 ?_;refine dF 29 H (fun g21 H=>gE 17) fun g21 H=>?_;refine gQ 4 ?_;refine dF 33 H (fun g22 H=>gE 13) fun g22 H=>?_;refine gQ 4 ?_;refine dF 37 H (fun g23 H=>gE 9) fun g23 H=>?_;refine gQ 4 ?_;refine dF 41 H (fun g24 H=>gE 5) fun g24 H=>?_;exact gE 5
 refine gQ 9 ?_;refine dF 21 H (fun g25 H=>gE 25) fun g25 H=>?_;refine gQ 4 ?_;refine dF 25 H (fun g26 H=>gE 21) fun g26 H=>?_;refine gQ 4 ?_;refine dF 29 H (fun g27 H=>gE 17) fun g27 H=>?_;refine gQ 4 ?_;refine dF 33 H (fun g28 H=>gE 13) fun g28 H=>?_;refine gQ 4 ?_;refine dF 37 H (fun g29 H=>gE 9) fun g29 H=>?_;refine gQ 4 ?_;refine dF 41 H (fun g30 H=>gE 5) fun g30 H=>?_;exact gE 5
abbrev u7:=cS→Option (aB×cS)
def DG(m:u7):Prop:= ∀(pA:cS) (r:aB×cS),m pA=some r→cJ Tryz.prog 171 [.ptr 0 0] ⟨[some ⟨220,[pS pA.atO,pI pA.as7,pI pA.as3,pI pA.as6,pB pA.atA]⟩],[]⟩ (fun q t=>q=((aB.pv r.1):PV)∧t=⟨[some ⟨220,[pS r.2.atO,pI r.2.as7,pI r.2.as3,pI r.2.as6,pB r.2.atA]⟩],[]⟩)
def OO(fu:Nat)(p3:u7)(pA x2:cS):Int→Option (LR Int (aB×cS)):=fun v5=>sw (decide (v5<(x2.atO.size:Int))) (gd (0≤v5∧(v5).toNat<(x2.atO).size) (bd (DB fu (zF x2.atO ((v5).toNat))) fun x10=>sw x10 (some (.next (aY (v5+1)))) (some (.brk v5)))) (some (.brk v5))
def OP(fu:Nat)(p3:u7)(pA x2:cS)(v5:Int):(ByteArray×Int×Int×Int×Bool×(List aB))→Option (LR (ByteArray×Int×Int×Int×Bool×(List aB)) (aB×cS)):=fun(v17,v18,v19,v20,v21,v23)=>sw (!(v21)) (bd (u9 fu (cS.mk v17 v18 v19 v20 v21)) fun x27=>sw (decide (x27.as7<(x27.atO.size:Int))) (gd (0≤x27.as7∧(x27.as7).toNat<(x27.atO).size) (sw (decide ((((zF x27.atO ((x27.as7).toNat)).toNat:Int):Int)=41)) (some (.ret ((aB.mk s_ v23),(cS.mk x27.atO (aY (x27.as7+1)) (aY (x27.as3-1)) x27.as6 x27.atA)))) (bd (p3 x27) fun(x32,x33)=>gd ((v23).length+(([x32]:List aB)).length≤68719476736) (some (.next (x33.atO,x33.as7,x33.as3,x33.as6,x33.atA,(v23++([x32]:List aB)))))))) (bd (p3 x27) fun(x36,x37)=>gd ((v23).length+(([x36]:List aB)).length≤68719476736) (some (.next (x37.atO,x37.as7,x37.as3,x37.as6,x37.atA,(v23++([x36]:List aB))))))) (some (.brk (v17,v18,v19,v20,v21,v23)))
def DF(fu:Nat)(p3:u7)(pA:cS):Option (aB×cS):=bd (u9 fu pA) fun x2=>sw (decide (x2.as7≥(x2.atO.size:Int))) (some ((aB.mk s_ []),(cS.mk x2.atO x2.as7 x2.as3 (aY (x2.as6+1)) true))) (sw (decide ((aY (x2.as6+1):Int)>900)) (some ((aB.mk s_ []),(cS.mk x2.atO x2.as7 x2.as3 (aY (x2.as6+1)) true))) (so (loopW (OO fu p3 pA x2) fu x2.as7) fun v5=>sw (decide (v5>x2.as7)) (gd ((0:Int)≤x2.as7∧(x2.as7:Int)≤v5∧(v5:Int)≤(x2.atO.size:Int)) (some ((aB.mk (x2.atO.extract (x2.as7:Int).toNat (v5:Int).toNat) []),(cS.mk x2.atO v5 x2.as3 (aY (x2.as6+1)) x2.atA)))) (gd (0≤v5∧(v5).toNat<(x2.atO).size) (sw (!decide ((((zF x2.atO ((v5).toNat)).toNat:Int):Int)=40)) (some ((aB.mk s_ []),(cS.mk x2.atO v5 x2.as3 (aY (x2.as6+1)) true))) (sw (decide (x2.as3=14)) (some ((aB.mk s_ []),(cS.mk x2.atO v5 x2.as3 (aY (x2.as6+1)) true))) (so (loopW (OP fu p3 pA x2 v5) fu (x2.atO,(aY (v5+1)),(aY (x2.as3+1)),(aY (x2.as6+1)),x2.atA,([]))) fun(v17,v18,v19,v20,v21,v23)=>some ((aB.mk s_ v23),(cS.mk v17 v18 v19 v20 v21))))))))
theorem T5(fu:Nat)(p3:u7)(p9:DG p3):DG (DF fu p3):=by
 intro pA r H
 refine qJ func171 H (fun C hC H=>?_)
 refine gQ 7 ?_;refine bD H fun x2 z1 H=>(q1 (eW [0] [] func172 (GH fu pA _ z1)) ?_)
 refine gQ 15 ?_
 rcases qB (decide (x2.as7≥(x2.atO.size:Int))) with g3|g3
 ·have H:=wF H g3
  refine dW (dI [0] bG (dI [15] sU (dI [16] bS (dD [17] eE (dI [0] bG (dI [19] sU (dI [20] bS (dD [21] eE (dI [22] (a5.lenS rfl rfl rfl Tryz.underlying9) (dI [18,23] rGe (dI [24] bG ?_)))))))))))
  iterate 5 refine ME g3 ?_
  refine dI [25] (A6 g3) (dN ?_)
  exact gE 13
 have H:=wE H g3
 refine dW (dI [0] bG (dI [15] sU (dI [16] bS (dD [17] eE (dI [0] bG (dI [19] sU (dI [20] bS (dD [21] eE (dI [22] (a5.lenS rfl rfl rfl Tryz.underlying9) (dI [18,23] rGe (dI [24] bG (dI (hg:=a6 g3) [0] bG (dI (hg:=a6 g3) [26] sU ?_)))))))))))))
 refine dI (hg:=a6 g3) [27] bS (dD (hg:=a6 g3) [28] eE (dI (hg:=a6 g3) [29] rGt (dI [25,30] (DZ g3) (dN ?_))))
 refine a7 H (fun h4 H=>gE 12) fun h4 H=>?_;refine gQ 10 ?_;refine NN (σ:=Int) (fun v5=>⟨[(0,.ptr 0 0),(2,.ptr 1 0),(3,pI x2.as7)],⟨[some ⟨220,[pS x2.atO,pI v5,pI x2.as3,pI (aY (x2.as6+1)),pB x2.atA]⟩,some ⟨189,[pS s_,.nil]⟩],[]⟩⟩) (fun v5=>⟨[(0,.ptr 0 0),(2,.ptr 1 0),(3,pI x2.as7)],⟨[some ⟨220,[pS x2.atO,pI v5,pI x2.as3,pI (aY (x2.as6+1)),pB x2.atA]⟩,some ⟨189,[pS s_,.nil]⟩],[]⟩⟩) (eR H) ?_ ?_
 ·rintro k6 v5 H
  refine gQ 2 ?_
  rcases qB (decide (v5<(x2.atO.size:Int))) with g7|g7
  ·have H:=wF H g7
   refine cQ H fun z8 H=>(bD H fun x10 z9 H=>(dW (dI [0] bG (dI [40] sU (dI [41] bS (dD [42] eE (dI [0] bG (dI [44] sU (dI [45] bS (dD [46] eE (dI [47] (a5.lenS rfl rfl rfl Tryz.underlying9) (dI [43,48] rLt (dI [49] bG ?_)))))))))))))
   refine dI (hg:=a6 g7) [0] bG (dI (hg:=a6 g7) [51] sU (dI (hg:=a6 g7) [52] bS (dD (hg:=a6 g7) [53] eE (dI (hg:=a6 g7) [0] bG (dI (hg:=a6 g7) [55] sU (dI (hg:=a6 g7) [56] bS (dD (hg:=a6 g7) [57] eE (dI (hg:=a6 g7) [54,58] (a5.indexSI (y:=v5) rfl rfl rfl rfl z8.1 z8.2 Tryz.underlying9) (dI (hg:=a6 g7) [59] (bC func196 (ON fu (zF x2.atO ((v5).toNat)) _ z9)) (dI [50,60] (A6 g7) (dN ?_)))))))))))
   refine a7 H (fun h11 H=>gE 13) fun h11 H=>?_;exact gE 0
  have H:=wE H g7
  refine dW (dI [0] bG (dI [40] sU (dI [41] bS (dD [42] eE (dI [0] bG (dI [44] sU (dI [45] bS (dD [46] eE (dI [47] (a5.lenS rfl rfl rfl Tryz.underlying9) (dI [43,48] rLt (dI [49] bG ?_)))))))))))
  iterate 10 refine ME g7 ?_
  refine dI [50] (DZ g7) (dN ?_)
  exact gE 1
 rintro v5 H
 refine gQ 10 ?_;refine a7 H (fun h12 H=>?_) (fun h12 H=>?_)
 ·refine qS (cQ H fun z13 H=>(dW (dI [0] bG (dI [76] sU (dI [77] bS (dD [78] eE (dI [3] bG (dI [0] bG (dI [81] sU (dI [82] bS (dD [83] eE (dI [79,80,84] (a5.sliceS (l:=x2.as7) (k:=v5) rfl rfl rfl rfl rfl z13 Tryz.underlying9) (dI [85] nU ?_)))))))))))))
  refine kS [2,86] jP (dN ?_)
  exact gE 0
 refine gQ 3 ?_;refine cQ H fun z14 H=>?_
 rcases qB (!decide ((((zF x2.atO ((v5).toNat)).toNat:Int):Int)=40)) with g15|g15
 ·have H:=wF H g15
  refine dW (dI [0] bG (dI [87] sU (dI [88] bS (dD [89] eE (dI [0] bG (dI [91] sU (dI [92] bS (dD [93] eE (dI [90,94] (a5.indexSI (y:=v5) rfl rfl rfl rfl z14.1 z14.2 Tryz.underlying9) (dI [95] rNe (dI [96] bG ?_)))))))))))
  iterate 5 refine ME g15 ?_
  refine dI [97] (A6 g15) (dN ?_)
  exact gE 13
 have H:=wE H g15
 refine dW (dI [0] bG (dI [87] sU (dI [88] bS (dD [89] eE (dI [0] bG (dI [91] sU (dI [92] bS (dD [93] eE (dI [90,94] (a5.indexSI (y:=v5) rfl rfl rfl rfl z14.1 z14.2 Tryz.underlying9) (dI [95] rNe (dI [96] bG (dI (hg:=a6 g15) [0] bG (dI (hg:=a6 g15) [98] sU ?_)))))))))))))
 refine dI (hg:=a6 g15) [99] bS (dD (hg:=a6 g15) [100] eE (dI (hg:=a6 g15) [101] XJ (dI [97,102] (DZ g15) (dN ?_))))
 refine a7 H (fun h16 H=>gE 12) fun h16 H=>?_;refine gQ 32 ?_;refine cF.wk (Wk.regBox (k:=2) (j:=1) 189 2 (by decide) rfl rfl) ?_;refine NN (σ:=ByteArray×Int×Int×Int×Bool×(List aB)) (fun(v17,v18,v19,v20,v21,v23)=>⟨[(0,.ptr 0 0),(2,.ptr 1 0),(4,.ptr 2 0)],⟨[some ⟨220,[pS v17,pI v18,pI v19,pI v20,pB v21]⟩,some ⟨189,[pS s_,.nil]⟩,some ⟨189,[pS s_,dH v23 0]⟩],[⟨189,2,aB.trs (v23),false⟩]⟩⟩) (fun(v17,v18,v19,v20,v21,v23)=>⟨[(2,.ptr 1 0),(4,.ptr 2 0)],⟨[some ⟨220,[pS v17,pI v18,pI v19,pI v20,pB v21]⟩,some ⟨189,[pS s_,.nil]⟩,some ⟨189,[pS s_,dH v23 0]⟩],[⟨189,2,aB.trs (v23),false⟩]⟩⟩) (eR H) ?_ ?_
 ·rintro k24 ⟨v17,v18,v19,v20,v21,v23⟩ H
  refine gQ 9 ?_;refine a7 H (fun h25 H=>?_) (fun h25 H=>?_)
  ·refine gQ 5 ?_;refine bD H fun x27 z26 H=>(q1 (eW [0] [] func172 (GH fu (cS.mk v17 v18 v19 v20 v21) _ z26)) ?_)
   refine gQ 3 ?_
   rcases qB (decide (x27.as7<(x27.atO.size:Int))) with g28|g28
   ·have H:=wF H g28
    refine cQ H fun z29 H=>(dW (dI [0] bG (dI [132] sU (dI [133] bS (dD [134] eE (dI [0] bG (dI [136] sU (dI [137] bS (dD [138] eE (dI [139] (a5.lenS rfl rfl rfl Tryz.underlying9) (dI [135,140] rLt (dI [141] bG (dI (hg:=a6 g28) [0] bG ?_)))))))))))))
    refine dI (hg:=a6 g28) [143] sU (dI (hg:=a6 g28) [144] bS (dD (hg:=a6 g28) [145] eE (dI (hg:=a6 g28) [0] bG (dI (hg:=a6 g28) [147] sU (dI (hg:=a6 g28) [148] bS (dD (hg:=a6 g28) [149] eE (dI (hg:=a6 g28) [146,150] (a5.indexSI (y:=x27.as7) rfl rfl rfl rfl z29.1 z29.2 Tryz.underlying9) (dI (hg:=a6 g28) [151] XJ (dI [142,152] (A6 g28) (dN ?_))))))))))
    refine a7 H (fun h30 H=>?_) (fun h30 H=>?_)
    ·refine gQ 26 ?_;refine q1 (cK [pS s_,dH v23 0]) ?_;exact gE 2
    refine cF.skip (eY H fun x32 x33 z31 H=>(cQ H fun z34 H=>(dW (dI [4] bS (dB [171] 0 1 t7 (dI [0] bG (dE [173] (eW [0] [] func171 (p9 x27 _ z31)) (dI [174] (gC ([x32]:List aB)) (dE [172,175] (jS z34) (dI [4] bS (kS [177,176] jP (dN ?_))))))))))))
    exact gE 0
   have H:=wE H g28
   refine dW (dI [0] bG (dI [132] sU (dI [133] bS (dD [134] eE (dI [0] bG (dI [136] sU (dI [137] bS (dD [138] eE (dI [139] (a5.lenS rfl rfl rfl Tryz.underlying9) (dI [135,140] rLt (dI [141] bG ?_)))))))))))
   iterate 10 refine ME g28 ?_
   refine dI [142] (DZ g28) (dN ?_)
   refine gQ 2 ?_;refine eY H fun x36 x37 z35 H=>(cQ H fun z38 H=>(dW (dI [4] bS (dB [171] 0 1 t7 (dI [0] bG (dE [173] (eW [0] [] func171 (p9 x27 _ z35)) (dI [174] (gC ([x36]:List aB)) (dE [172,175] (jS z38) (dI [4] bS (kS [177,176] jP (dN ?_)))))))))))
   exact gE 0
  exact gE 0
 rintro⟨v17,v18,v19,v20,v21,v23⟩ H
 refine gQ 2 ?_;refine q1 (cK [pS s_,dH v23 0]) ?_;exact gE 2
def nR:Nat→cS→Option (aB×cS)
 |0,_=>none
 |fu+1,pA=>DF fu (nR fu) pA
theorem W6(fu:Nat):DG (nR fu):=by
 induction fu with
 |zero=>exact(fun pA r H=>by simp only [nR] at H;cases H)
 |succ fu ih=>exact(fun pA r H=>by simp only [nR] at H;exact T5 fu (nR fu) ih pA r H)
theorem ZX(fu:Nat):DG (nR fu):=(W6 fu)
abbrev u6:=aB→Int→Option Int
def DE(m:u6):Prop:= ∀(px:aB) (p6:Int) (r:Int),m px p6=some r→bP Tryz.prog 197 [(aB.pv px),pI p6] (pI r:PV)
def ZT(fu:Nat)(p4:u6)(px:aB)(p6:Int):Nat→Int→Option (LR Int Int):=fun i1 v2=>sw (decide (v2≥0)) (bd (p4 (aP px.asF i1) v2) fun x7=>some (.next x7)) (some (.brk v2))
def KL(fu:Nat)(p4:u6)(px:aB)(p6:Int):Option Int:=so (loopN (ZT fu p4 px p6) (px.asF.length-0) 0 (aY (p6-1))) fun v2=>some v2
theorem T4(fu:Nat)(p4:u6)(pC:DE p4):DE (KL fu p4):=by
 intro px p6 r H
 refine qJ func197 H (fun C hC H=>?_)
 refine gQ 2 ?_;refine q1 (iR ([pS px.asK,a9 px.asF])) ?_;refine gQ 13 ?_;refine cF.fact (b6 0 1 rfl rfl rfl (aB.trs_len _)) (fun hl3=>?_)
 refine bM (σ:=Int) (fun i1 v2=>⟨[(1,pI v2),(2,.ptr 0 0),(4,pI 0),(5,pN i1)],⟨[some ⟨189,[pS px.asK,a9 px.asF]⟩],[]⟩⟩) (fun v2=>⟨[(1,pI v2),(4,pI 0)],⟨[some ⟨189,[pS px.asK,a9 px.asF]⟩],[]⟩⟩) (eR H) ?_ ?_
 ·rintro i1 v2 H
  refine gQ 9 ?_;refine AL.splitB 13 rfl (fun g4=>?_) (fun g4=>?_)
  ·have g4l:=sE g4
   have H:=lnT g4l H
   have g4n:=uZ g4
   refine gQ 4 ?_;refine a7 H (fun h5 H=>?_) (fun h5 H=>?_)
   ·refine gQ 8 ?_;refine q1 (jB (aB.cs (aP px.asF i1))) (q1 bG (bD H fun x7 z6 H=>(q1 (bC func197 (pC (aP px.asF i1) v2 _ z6)) ?_)))
    exact gE 7
   exact gE 0
  have H:=lnE (sD g4) H
  exact gE 5
 rintro v2 H
 exact gE 5
def mK:Nat→aB→Int→Option Int
 |0,_,_=>none
 |fu+1,px,p6=>KL fu (mK fu) px p6
theorem W5(fu:Nat):DE (mK fu):=by
 induction fu with
 |zero=>exact(fun px p6 r H=>by simp only [mK] at H;cases H)
 |succ fu ih=>exact(fun px p6 r H=>by simp only [mK] at H;exact T4 fu (mK fu) ih px p6 r H)
theorem ZV(fu:Nat):DE (mK fu):=(W5 fu)
def AI(fu:Nat)(px pF pG:Int):Option Bool:=sw (decide (px≥pF)) (some (decide (px≤pG))) (some false)
theorem CG(fu:Nat)(px:Int)(pF:Int)(pG:Int)(r:Bool)(H:AI fu px pF pG=some r):bP Tryz.prog 64 [pI px,pI pF,pI pG] (pB r):=by
 refine qJ func64 H (fun C hC H=>?_)
 refine gQ 10 ?_;refine dF 10 H (fun g1 H=>gE 6) fun g1 H=>?_;exact gE 6
def L3(fu:Nat)(ps:ByteArray):Nat→Unit→Option (LR Unit Bool):=fun i1 _=>gd (i1<(ps).size) (bd (DB fu (zF ps i1)) fun x6=>sw (!(x6)) (some (.ret false)) (some (.next ())))
def vQ(fu:Nat)(ps:ByteArray):Option Bool:=so (loopN (L3 fu ps) (ps.size-0) 0 ()) fun _=>bd (AI fu (ps.size:Int) 1 12) fun x9=>some x9
theorem L4(fu:Nat)(ps:ByteArray)(r:Bool)(H:vQ fu ps=some r):bP Tryz.prog 214 [pS ps] (pB r):=by
 refine qJ func214 H (fun C hC H=>?_)
 refine gQ 9 ?_;refine szF 0 (fun hl2=>?_)
 refine bM (σ:=Unit) (fun i1 _=>⟨[(0,pS ps),(2,pB false),(3,pN i1)],⟨[],[]⟩⟩) (fun _=>⟨[(0,pS ps),(2,pB false)],⟨[],[]⟩⟩) (eR H) ?_ ?_
 ·rintro i1 ⟨⟩ H
  refine gQ 5 ?_;refine q1 (a5.lenS rfl rfl rfl Tryz.underlying9) ?_;refine gQ 2 ?_;refine cW H (fun h3 h3l H=>?_) (fun h3 H=>?_)
  ·have h3n:i1<ps.size:=by have:=of_decide_eq_true h3;omega
   refine gQ 7 ?_;refine cQ H fun z4 H=>(q1 (a5.indexS (k:=i1) rfl rfl rfl rfl z4 Tryz.underlying9) (bD H fun x6 z5 H=>(q1 (bC func196 (ON fu (zF ps i1) _ z5)) ?_)))
   refine gQ 2 ?_;refine a7 H (fun h7 H=>gE 4) fun h7 H=>?_;exact gE 6
  exact gE 0
 rintro⟨⟩ H
 refine gQ 3 ?_;refine q1 (a5.lenS rfl rfl rfl Tryz.underlying9) (bD H fun x9 z8 H=>(q1 (bC func64 (CG fu (ps.size:Int) 1 12 _ z8)) ?_))
 exact gE 2
abbrev u5:=aB→Option Bool
def DC(m:u5):Prop:= ∀(px:aB) (r:Bool),m px=some r→bP Tryz.prog 198 [(aB.pv px)] (pB r:PV)
def ZP(fu:Nat)(p5:u5)(px:aB):Nat→Unit→Option (LR Unit Bool):=fun i5 _=>bd (p5 (aP px.asF i5)) fun x9=>sw (!(x9)) (some (.ret false)) (some (.next ()))
def KK(fu:Nat)(p5:u5)(px:aB):Option Bool:=sw (!decide (px.asK=s_)) (bd (vQ fu px.asK) fun x3=>sw x3 (some (decide ((px.asF.length:Int)=0))) (some false)) (so (loopN (ZP fu p5 px) (px.asF.length-0) 0 ()) fun _=>some true)
theorem T3(fu:Nat)(p5:u5)(pD:DC p5):DC (KK fu p5):=by
 intro px r H
 refine qJ func198 H (fun C hC H=>?_)
 refine gQ 2 ?_;refine q1 (iR ([pS px.asK,a9 px.asF])) ?_;refine gQ 9 ?_;refine a7 H (fun h1 H=>?_) (fun h1 H=>?_)
 ·refine gQ 4 ?_;refine bD H fun x3 z2 H=>(q1 (bC func214 (L4 fu px.asK _ z2)) (q1 bG ?_))
  refine dF 10 H (fun g4 H=>gE 7) fun g4 H=>?_;exact gE 7
 refine gQ 6 ?_;refine cF.fact (b6 0 1 rfl rfl rfl (aB.trs_len _)) (fun hl6=>?_)
 refine bM (σ:=Unit) (fun i5 _=>⟨[(1,.ptr 0 0),(2,pB false),(3,pN i5)],⟨[some ⟨189,[pS px.asK,a9 px.asF]⟩],[]⟩⟩) (fun _=>⟨[(2,pB false)],⟨[some ⟨189,[pS px.asK,a9 px.asF]⟩],[]⟩⟩) (eR H) ?_ ?_
 ·rintro i5 ⟨⟩ H
  refine gQ 9 ?_;refine cW H (fun h7 h7l H=>?_) (fun h7 H=>?_)
  ·refine gQ 9 ?_;refine q1 (jB (aB.cs (aP px.asF i5))) (bD H fun x9 z8 H=>(q1 (bC func198 (pD (aP px.asF i5) _ z8)) ?_))
   refine gQ 2 ?_;refine a7 H (fun h10 H=>gE 4) fun h10 H=>?_;exact gE 6
  exact gE 0
 rintro⟨⟩ H
 exact gE 4
def mJ:Nat→aB→Option Bool
 |0,_=>none
 |fu+1,px=>KK fu (mJ fu) px
theorem W4(fu:Nat):DC (mJ fu):=by
 induction fu with
 |zero=>exact(fun px r H=>by simp only [mJ] at H;cases H)
 |succ fu ih=>exact(fun px r H=>by simp only [mJ] at H;exact T3 fu (mJ fu) ih px r H)
theorem ZS(fu:Nat):DC (mJ fu):=(W4 fu)
def IH(fu:Nat)(pa pb:Int):Option Int:=sw (decide (pa>pb)) (some pa) (some pb)
theorem RM(fu:Nat)(pa:Int)(pb:Int)(r:Int)(H:IH fu pa pb=some r):bP Tryz.prog 215 [pI pa,pI pb] (pI r):=by
 refine qJ func215 H (fun C hC H=>?_)
 refine gQ 11 ?_;refine a7 H (fun h1 H=>gE 5) fun h1 H=>?_;exact gE 6
abbrev mI:=aB→Option Int
def sZ(m:mI):Prop:= ∀(px:aB) (r:Int),m px=some r→bP Tryz.prog 199 [(aB.pv px)] (pI r:PV)
def N3(fu:Nat)(p1:mI)(px:aB):Nat→Int→Option (LR Int Int):=fun i2 v3=>bd (p1 (aP px.asF i2)) fun x7=>bd (IH fu v3 x7) fun x9=>some (.next x9)
def xN(fu:Nat)(p1:mI)(px:aB):Option Int:=sw (!decide (px.asK=s_)) (some 0) (so (loopN (N3 fu p1 px) (px.asF.length-0) 0 0) fun v3=>some (aY (v3+1)))
theorem J3(fu:Nat)(p1:mI)(p7:sZ p1):sZ (xN fu p1):=by
 intro px r H
 refine qJ func199 H (fun C hC H=>?_)
 refine gQ 2 ?_;refine q1 (iR ([pS px.asK,a9 px.asF])) ?_;refine gQ 9 ?_;refine a7 H (fun h1 H=>gE 4) fun h1 H=>?_;refine gQ 10 ?_;refine cF.fact (b6 0 1 rfl rfl rfl (aB.trs_len _)) (fun hl4=>?_)
 refine bM (σ:=Int) (fun i2 v3=>⟨[(1,.ptr 0 0),(2,pI 0),(3,pI v3),(4,pN i2)],⟨[some ⟨189,[pS px.asK,a9 px.asF]⟩],[]⟩⟩) (fun v3=>⟨[(2,pI 0),(3,pI v3)],⟨[some ⟨189,[pS px.asK,a9 px.asF]⟩],[]⟩⟩) (eR H) ?_ ?_
 ·rintro i2 v3 H
  refine gQ 9 ?_;refine cW H (fun h5 h5l H=>?_) (fun h5 H=>?_)
  ·refine gQ 9 ?_;refine q1 (jB (aB.cs (aP px.asF i2))) (bD H fun x7 z6 H=>(q1 (bC func199 (p7 (aP px.asF i2) _ z6)) (bD H fun x9 z8 H=>(q1 (bC func215 (RM fu v3 x7 _ z8)) ?_))))
   exact gE 7
  exact gE 0
 rintro v3 H
 exact gE 6
def gD:Nat→aB→Option Int
 |0,_=>none
 |fu+1,px=>xN fu (gD fu) px
theorem L7(fu:Nat):sZ (gD fu):=by
 induction fu with
 |zero=>exact(fun px r H=>by simp only [gD] at H;cases H)
 |succ fu ih=>exact(fun px r H=>by simp only [gD] at H;exact J3 fu (gD fu) ih px r H)
theorem N5(fu:Nat):sZ (gD fu):=(L7 fu)
def fU(fu:Nat)(px:aB):Option Bool:=bd (mK fu px 900) fun x2=>sw (decide (x2≥0)) (bd (mJ fu px) fun x5=>sw x5 (bd (gD fu px) fun x8=>some (decide (x8≤14))) (some false)) (some false)
theorem cP(fu:Nat)(px:aB)(r:Bool)(H:fU fu px=some r):bP Tryz.prog 173 [(aB.pv px)] (pB r):=by
 refine qJ func173 H (fun C hC H=>?_)
 refine gQ 2 ?_;refine q1 (iR ([pS px.asK,a9 px.asF])) ?_;refine gQ 4 ?_;refine q1 (cK [pS px.asK,a9 px.asF]) (bD H fun x2 z1 H=>(q1 (bC func197 (ZV fu px 900 _ z1)) ?_))
 refine gQ 2 ?_;refine dF 6 H (fun g3 H=>?_) fun g3 H=>?_
 ·refine qg g3 (cK [pS px.asK,a9 px.asF]) (bD H fun x5 z4 H=>(qg g3 (bC func198 (ZS fu px _ z4)) ?_))
  refine gQ 2 ?_;refine dF 10 H (fun g6 H=>?_) fun g6 H=>?_
  ·refine qg g6 (cK [pS px.asK,a9 px.asF]) (bD H fun x8 z7 H=>(qg g6 (bC func199 (N5 fu px _ z7)) ?_))
   exact gE 4
  exact gE 6
 exact gE 10
def sY(fu:Nat)(ps:ByteArray):Option (aB×Bool):=bd (nR fu (cS.mk ps 0 0 0 false)) fun(x2,x3)=>bd (u9 fu x3) fun x5=>sw (x5.atA) (some ((aB.mk s_ []),false)) (sw (!decide (x5.as7=(ps.size:Int))) (some ((aB.mk s_ []),false)) (bd (fU fu x2) fun x9=>sw (!(x9)) (some ((aB.mk s_ []),false)) (some (x2,true))))
theorem N2(fu:Nat)(ps:ByteArray)(r:aB×Bool)(H:sY fu ps=some r):bP Tryz.prog 145 [pS ps] (.tup [(aB.pv r.1),pB r.2]):=by
 refine qJ func145 H (fun C hC H=>?_)
 refine gQ 9 ?_;refine q1 (iR ([pS ps,pI 0,pI 0,pI 0,pB false])) ?_;refine gQ 5 ?_;refine eY H fun x2 x3 z1 H=>(q1 (eW [1] [] func171 (ZX fu (cS.mk ps 0 0 0 false) _ z1)) ?_)
 refine gQ 6 ?_;refine bD H fun x5 z4 H=>(q1 (eW [1] [] func172 (GH fu x3 _ z4)) ?_)
 refine gQ 9 ?_;refine dF 17 H (fun g6 H=>gE 21) fun g6 H=>?_;refine qg g6 bG (qg g6 sU ?_)
 refine gQ 3 ?_;refine qg g6 (a5.lenS rfl rfl rfl Tryz.underlying9) ?_;refine gQ 3 ?_;refine dF 26 H (fun g7 H=>gE 12) fun g7 H=>?_;refine qg g7 (cK [pS x2.asK,a9 x2.asF]) (bD H fun x9 z8 H=>(qg g7 (bC func173 (cP fu x2 _ z8)) ?_))
 refine gQ 3 ?_;refine a7 H (fun h10 H=>gE 6) fun h10 H=>?_;refine gQ 3 ?_;refine q1 (cK [pS x2.asK,a9 x2.asF]) ?_;exact gE 3
def W3(fu:Nat)(p0:List aB):Nat→((LB))→Option (LR ((LB)) ((LB)×Bool)):=fun i1 v3=>sw (decide ((aP p0 i1).asK=s_)) (some (.ret (([]),false))) (gd ((v3).length+(([((aP p0 i1).asK)]:LB)).length≤68719476736) (some (.next (v3++([((aP p0 i1).asK)]:LB)))))
def wA(fu:Nat)(p0:List aB):Option ((LB)×Bool):=so (loopN (W3 fu p0) (p0.length-0) 0 ([])) fun v3=>some (v3,true)
theorem CK(fu:Nat)(p0:List aB)(r:(LB)×Bool)(H:wA fu p0=some r):bP Tryz.prog 174 [a9 p0] (.tup [rS r.1,pB r.2]):=by
 refine qJ func174 H (fun C hC H=>?_)
 refine gQ 7 ?_;refine q1 (n0 ([]:LB)) ?_;refine gQ 7 ?_;refine iG 0 (aB.trs_len _) (fun hl4=>?_)
 refine bM (σ:=(LB)) (fun i1 v3=>⟨[(0,a9 p0),(2,.nil),(3,pB false),(4,aS v3 0),(5,pN i1)],⟨[],[⟨9,1,aW (v3),false⟩]⟩⟩) (fun v3=>⟨[(2,.nil),(3,pB false),(4,aS v3 0)],⟨[],[⟨9,1,aW (v3),false⟩]⟩⟩) (eR H) ?_ ?_
 ·rintro i1 v3 H
  refine gQ 8 ?_;refine cW H (fun h5 h5l H=>?_) (fun h5 H=>?_)
  ·refine gQ 13 ?_;refine a7 H (fun h6 H=>?_) (fun h6 H=>?_)
   ·refine gQ 2 ?_;refine q1 (n0 ([]:LB)) ?_;exact gE 3
   refine gQ 8 ?_;refine q1 (gC ([((aP p0 i1).asK)]:LB)) (cQ H fun z7 H=>(q1 (jS z7) ?_))
   exact gE 7
  exact gE 0
 rintro v3 H
 exact gE 6
def bV(fu:Nat)(ps:ByteArray):Option aB:=some (aB.mk ps [])
theorem bO(fu:Nat)(ps:ByteArray)(r:aB)(H:bV fu ps=some r):bP Tryz.prog 239 [pS ps] ((aB.pv r)):=by
 refine qJ func239 H (fun C hC H=>?_)
 exact gE 10
def W7(fu:Nat)(p0:LB):Nat→((List aB))→Option (LR ((List aB)) ((List aB))):=fun i1 v3=>bd (bV fu (aP p0 i1)) fun x7=>gd ((v3).length+(([x7]:List aB)).length≤68719476736) (some (.next (v3++([x7]:List aB))))
def AO(fu:Nat)(p0:LB):Option ((List aB)):=so (loopN (W7 fu p0) (p0.length-0) 0 ([])) fun v3=>some v3
theorem LC(fu:Nat)(p0:LB)(r:(List aB))(H:AO fu p0=some r):bP Tryz.prog 254 [rS p0] (a9 r):=by
 refine qJ func254 H (fun C hC H=>?_)
 refine gQ 6 ?_;refine q1 (n0 ([]:List aB)) ?_;refine gQ 7 ?_;refine iG 0 (bI _) (fun hl4=>?_)
 refine bM (σ:=(List aB)) (fun i1 v3=>⟨[(0,rS p0),(2,.nil),(3,dH v3 0),(4,pN i1)],⟨[],[⟨189,2,aB.trs (v3),false⟩]⟩⟩) (fun v3=>⟨[(2,.nil),(3,dH v3 0)],⟨[],[⟨189,2,aB.trs (v3),false⟩]⟩⟩) (eR H) ?_ ?_
 ·rintro i1 v3 H
  refine gQ 8 ?_;refine cW H (fun h5 h5l H=>?_) (fun h5 H=>?_)
  ·refine gQ 9 ?_;refine bD H fun x7 z6 H=>(q1 (bC func239 (bO fu (aP p0 i1) _ z6)) (q1 (gC ([x7]:List aB)) (cQ H fun z8 H=>(q1 (jS z8) ?_))))
   exact gE 7
  exact gE 0
 rintro v3 H
 exact gE 5
def RO(m:(List aB)→Option aB):Prop:= ∀(p0:List aB) (r:aB),m p0=some r→xA Tryz.prog 238 [a9 p0] ⟨[],[]⟩ [] 189 2 (aB.trs (r.asF)) (fun k=> .agg [pS r.asK,dH r.asF k])
theorem AN{m:(List aB)→Option aB}(h:RO m)(p0:List aB)(r:aB)(H:m p0=some r):bP Tryz.prog 238 [a9 p0] ((aB.pv r):PV):=(h p0 r H).plain (fun _=>jH) (hp:=SQ)
def jZ(fu:Nat)(p0:List aB):Option aB:=gd (([]:List aB).length+(p0).length≤68719476736) (some (aB.mk s_ (([])++p0)))
theorem k7(fu:Nat):RO (jZ fu):=by
 intro p0 r H
 unfold xA
 refine qJ func238 H (fun C hC H=>?_)
 refine gQ 6 ?_;refine q1 (n0 ([]:List aB)) (q1 bG (cQ H fun z1 H=>(q1 (jS z1) ?_)))
 refine gQ 3 ?_;refine cF.ret ?_
 obtain rfl:_=r:=(xQ H:)
 exact NQ (st':=⟨[],[⟨189,2,aB.trs (([])++p0),false⟩]⟩) ⟨0,rfl,rfl,rfl⟩ (hr:=⟨⟨_,_,_,rfl,rfl,ahR.h,rfl,rfl⟩,trivial⟩)
abbrev mH:=aB→aB→Option Bool
def sV(m:mH):Prop:= ∀(pa:aB) (pb:aB) (r:Bool),m pa pb=some r→bP Tryz.prog 221 [(aB.pv pa),(aB.pv pb)] (pB r:PV)
def NX(fu:Nat)(p2:mH)(pa pb:aB):Nat→Unit→Option (LR Unit Bool):=fun i3 _=>gd (i3<(pb.asF).length) (bd (p2 (aP pa.asF i3) (aP pb.asF i3)) fun x8=>sw (!(x8)) (some (.ret false)) (some (.next ())))
def xL(fu:Nat)(p2:mH)(pa pb:aB):Option Bool:=sw (!decide (pa.asK=pb.asK)) (some false) (sw (!decide ((pa.asF.length:Int)=(pb.asF.length:Int))) (some false) (so (loopN (NX fu p2 pa pb) (pa.asF.length-0) 0 ()) fun _=>some true))
theorem JV(fu:Nat)(p2:mH)(p8:sV p2):sV (xL fu p2):=by
 intro pa pb r H
 refine qJ func221 H (fun C hC H=>?_)
 refine gQ 2 ?_;refine q1 (iR ([pS pa.asK,a9 pa.asF])) (q1 (iR ([pS pb.asK,a9 pb.asF])) ?_)
 refine gQ 11 ?_;refine dF 11 H (fun g1 H=>gE 14) fun g1 H=>?_;refine gQ 9 ?_;refine a7 H (fun h2 H=>gE 4) fun h2 H=>?_;refine gQ 6 ?_;refine iG 13 (aB.trs_len _) (fun hl4=>?_)
 refine bM (σ:=Unit) (fun i3 _=>⟨[(2,.ptr 0 0),(3,.ptr 1 0),(4,pB false),(5,pN i3)],⟨[some ⟨189,[pS pa.asK,a9 pa.asF]⟩,some ⟨189,[pS pb.asK,a9 pb.asF]⟩],[]⟩⟩) (fun _=>⟨[(4,pB false)],⟨[some ⟨189,[pS pa.asK,a9 pa.asF]⟩,some ⟨189,[pS pb.asK,a9 pb.asF]⟩],[]⟩⟩) (eR H) ?_ ?_
 ·rintro i3 ⟨⟩ H
  refine gQ 9 ?_;refine cW H (fun h5 h5l H=>?_) (fun h5 H=>?_)
  ·refine gQ 4 ?_;refine cQ H fun z6 H=>(bD H fun x8 z7 H=>(dW (dI [2] bS (dD [27] eE (dI [5] bG (dI [28,29] qY (dI [30] (jB (aB.cs (aP pa.asF i3))) (dI [3] bS (dD [32] eE (dI [5] bG (dI [33,34] qY (dI [35] (jB (aB.cs (aP pb.asF i3))) (dI [31,36] (bC func221 (p8 (aP pa.asF i3) (aP pb.asF i3) _ z7)) ?_)))))))))))))
   refine dI [37] F0 (dN ?_)
   refine a7 H (fun h9 H=>gE 4) fun h9 H=>?_;exact gE 6
  exact gE 0
 rintro⟨⟩ H
 exact gE 4
def eM:Nat→aB→aB→Option Bool
 |0,_,_=>none
 |fu+1,pa,pb=>xL fu (eM fu) pa pb
theorem LY(fu:Nat):sV (eM fu):=by
 induction fu with
 |zero=>exact(fun pa pb r H=>by simp only [eM] at H;cases H)
 |succ fu ih=>exact(fun pa pb r H=>by simp only [eM] at H;exact JV fu (eM fu) ih pa pb r H)
theorem rK(fu:Nat):sV (eM fu):=(LY fu)
end
end Go.Proofs.YtfcoaagbccmahaaGreat.W

namespace Go.Proofs.YtfcoaagbccmahaaGreat.W
set_option maxRecDepth 100000
set_option maxHeartbeats 40000000
noncomputable section
open Tryz Go.RowKit Go.Proofs
attribute [local irreducible] lt
def RJ(fu:Nat)(p3:LB)(ps:ByteArray):Nat→Unit→Option (LR Unit Bool):=fun i1 _=>sw (decide (aP p3 i1=ps)) (some (.ret true)) (some (.next ()))
def iW(fu:Nat)(p3:LB)(ps:ByteArray):Option Bool:=so (loopN (RJ fu p3 ps) (p3.length-0) 0 ()) fun _=>some false
theorem jY(fu:Nat)(p3:LB)(ps:ByteArray)(r:Bool)(H:iW fu p3 ps=some r):bP Tryz.prog 153 [rS p3,pS ps] (pB r):=by
 refine qJ func153 H (fun C hC H=>?_)
 refine gQ 9 ?_;refine iG 0 (bI _) (fun hl2=>?_)
 refine bM (σ:=Unit) (fun i1 _=>⟨[(0,rS p3),(1,pS ps),(4,pB false),(5,pN i1)],⟨[],[]⟩⟩) (fun _=>⟨[(4,pB false)],⟨[],[]⟩⟩) (eR H) ?_ ?_
 ·rintro i1 ⟨⟩ H
  refine gQ 8 ?_;refine cW H (fun h3 h3l H=>?_) (fun h3 H=>?_)
  ·refine gQ 12 ?_;refine a7 H (fun h4 H=>gE 4) fun h4 H=>?_;exact gE 6
  exact gE 0
 rintro⟨⟩ H
 exact gE 4
def sW(fu:Nat)(ps:ByteArray):Option Bool:=bd (iW fu ([dK,c9,gI,uF,z0,AY,t3,AZ,mC,t4,mQ,jO]:LB) ps) fun x2=>some x2
theorem N0(fu:Nat)(ps:ByteArray)(r:Bool)(H:sW fu ps=some r):bP Tryz.prog 227 [pS ps] (pB r):=by
 refine qJ func227 H (fun C hC H=>?_)
 refine gQ 6 ?_;refine q1 (gC ([dK,c9,gI,uF,z0,AY,t3,AZ,mC,t4,mQ,jO]:LB)) (q1 bG (bD H fun x2 z1 H=>(q1 (bC func153 (jY fu ([dK,c9,gI,uF,z0,AY,t3,AZ,mC,t4,mQ,jO]:LB) ps _ z1)) ?_)))
 exact gE 2
def L6(fu:Nat)(ps:ByteArray)(x2 x5:Bool):Nat→Unit→Option (LR Unit Bool):=fun i7 _=>gd (i7<(ps).size) (sw (decide ((((zF ps i7).toNat:Int):Int)≥97)) (sw (!(decide ((((zF ps i7).toNat:Int):Int)≤122))) (sw (decide ((i7:Int)=0)) (some (.ret false)) (sw (decide ((((zF ps i7).toNat:Int):Int)<48)) (some (.ret false)) (sw (decide ((((zF ps i7).toNat:Int):Int)>57)) (some (.ret false)) (some (.next ()))))) (some (.next ()))) (sw (decide ((i7:Int)=0)) (some (.ret false)) (sw (decide ((((zF ps i7).toNat:Int):Int)<48)) (some (.ret false)) (sw (decide ((((zF ps i7).toNat:Int):Int)>57)) (some (.ret false)) (some (.next ()))))))
def cO(fu:Nat)(ps:ByteArray):Option Bool:=bd (AI fu (ps.size:Int) 1 8) fun x2=>sw (!(x2)) (some false) (bd (sW fu ps) fun x5=>sw x5 (some false) (so (loopN (L6 fu ps x2 x5) (ps.size-0) 0 ()) fun _=>some true))
theorem c8(fu:Nat)(ps:ByteArray)(r:Bool)(H:cO fu ps=some r):bP Tryz.prog 205 [pS ps] (pB r):=by
 refine qJ func205 H (fun C hC H=>?_)
 refine gQ 8 ?_;refine q1 (a5.lenS rfl rfl rfl Tryz.underlying9) (bD H fun x2 z1 H=>(q1 (bC func64 (CG fu (ps.size:Int) 1 8 _ z1)) ?_))
 refine gQ 2 ?_;refine dF 9 H (fun g3 H=>gE 9) fun g3 H=>?_;refine qg g3 bG (bD H fun x5 z4 H=>(qg g3 (bC func227 (N0 fu ps _ z4)) ?_))
 refine gQ 2 ?_;refine a7 H (fun h6 H=>gE 4) fun h6 H=>?_;refine gQ 6 ?_;refine szF 0 (fun hl8=>?_)
 refine bM (σ:=Unit) (fun i7 _=>⟨[(0,pS ps),(2,pB false),(3,pN i7)],⟨[],[]⟩⟩) (fun _=>⟨[(2,pB false)],⟨[],[]⟩⟩) (eR H) ?_ ?_
 ·rintro i7 ⟨⟩ H
  refine gQ 5 ?_;refine q1 (a5.lenS rfl rfl rfl Tryz.underlying9) ?_;refine gQ 2 ?_;refine cW H (fun h9 h9l H=>?_) (fun h9 H=>?_)
  ·have h9n:i7<ps.size:=by have:=of_decide_eq_true h9;omega
   refine gQ 7 ?_;refine cQ H fun z10 H=>(q1 (a5.indexS (k:=i7) rfl rfl rfl rfl z10 Tryz.underlying9) ?_)
   refine gQ 2 ?_;refine dF 23 H (fun g11 H=>?_) fun g11 H=>?_
   ·refine gQ 2 ?_;refine qg g11 (a5.indexS (k:=i7) rfl rfl rfl rfl z10 Tryz.underlying9) ?_;refine gQ 9 ?_;refine dF 31 H (fun g12 H=>?_) fun g12 H=>?_
    ·refine gQ 3 ?_;refine dF 34 H (fun g13 H=>gE 18) fun g13 H=>?_;refine gQ 2 ?_;refine qg g13 (a5.indexS (k:=i7) rfl rfl rfl rfl z10 Tryz.underlying9) ?_;refine gQ 3 ?_;refine dF 40 H (fun g14 H=>gE 12) fun g14 H=>?_;refine gQ 2 ?_;refine qg g14 (a5.indexS (k:=i7) rfl rfl rfl rfl z10 Tryz.underlying9) ?_;refine gQ 4 ?_;refine a7 H (fun h15 H=>gE 4) fun h15 H=>?_;exact gE 6
    exact gE 23
   refine gQ 12 ?_;refine qg (congrArg (fun b=> !b) (rfl:false=false)) bG (qg (congrArg (fun b=> !b) (rfl:false=false)) XJ (qg (congrArg (fun b=> !b) (rfl:false=false)) bG ?_))
   refine dF 34 H (fun g16 H=>?_) fun g16 H=>?_
   ·refine gQ 4 ?_;refine qg (congrArg (fun b=> !b) (rfl:false=false)) (A6 g16) (qg (congrArg (fun b=> !b) (rfl:false=false)) bG ?_)
    refine gQ 4 ?_;refine qg (congrArg (fun b=> !b) (rfl:false=false)) (A6 rfl) (q1 (A6 (congrArg (fun b=> !b) (rfl:false=false))) ?_)
    exact gE 6
   refine gQ 2 ?_;refine qg g16 (a5.indexS (k:=i7) rfl rfl rfl rfl z10 Tryz.underlying9) (qg g16 rLt (qg (congrArg (fun b=> !b) (rfl:false=false)) (DZ g16) (qg (congrArg (fun b=> !b) (rfl:false=false)) bG ?_)))
   refine dF 40 H (fun g17 H=>?_) fun g17 H=>?_
   ·refine gQ 4 ?_;refine qg (congrArg (fun b=> !b) (rfl:false=false)) (A6 g17) (q1 (A6 (congrArg (fun b=> !b) (rfl:false=false))) ?_)
    exact gE 6
   refine gQ 2 ?_;refine qg g17 (a5.indexS (k:=i7) rfl rfl rfl rfl z10 Tryz.underlying9) (qg g17 rGt (qg (congrArg (fun b=> !b) (rfl:false=false)) (DZ g17) (q1 (A6 (congrArg (fun b=> !b) (rfl:false=false))) (qN ?_))))
   refine a7 H (fun h18 H=>gE 4) fun h18 H=>?_;exact gE 6
  exact gE 0
 rintro⟨⟩ H
 exact gE 4
def W8(fu:Nat)(p3:LB):Nat→Unit→Option (LR Unit Bool):=fun i1 _=>bd (cO fu (aP p3 i1)) fun x5=>sw (!(x5)) (some (.ret false)) (some (.next ()))
def AP(fu:Nat)(p3:LB):Option Bool:=so (loopN (W8 fu p3) (p3.length-0) 0 ()) fun _=>some true
theorem LD(fu:Nat)(p3:LB)(r:Bool)(H:AP fu p3=some r):bP Tryz.prog 228 [rS p3] (pB r):=by
 refine qJ func228 H (fun C hC H=>?_)
 refine gQ 9 ?_;refine iG 0 (bI _) (fun hl2=>?_)
 refine bM (σ:=Unit) (fun i1 _=>⟨[(0,rS p3),(2,pB false),(3,pN i1)],⟨[],[]⟩⟩) (fun _=>⟨[(2,pB false)],⟨[],[]⟩⟩) (eR H) ?_ ?_
 ·rintro i1 ⟨⟩ H
  refine gQ 8 ?_;refine cW H (fun h3 h3l H=>?_) (fun h3 H=>?_)
  ·refine gQ 9 ?_;refine bD H fun x5 z4 H=>(q1 (bC func205 (c8 fu (aP p3 i1) _ z4)) ?_)
   refine gQ 2 ?_;refine a7 H (fun h6 H=>gE 4) fun h6 H=>?_;exact gE 6
  exact gE 0
 rintro⟨⟩ H
 exact gE 4
def LV(fu:Nat)(p3:LB):Nat→Unit→Option (LR Unit Bool):=fun i1 _=>gd ((0:Int)≤0∧(0:Int)≤(i1:Int)∧(i1:Int)≤(p3.length:Int)) (bd (iW fu (List.drop (0:Int).toNat (List.take (i1:Int).toNat p3)) (aP p3 i1)) fun x6=>sw x6 (some (.ret false)) (some (.next ())))
def iH(fu:Nat)(p3:LB):Option Bool:=so (loopN (LV fu p3) (p3.length-0) 0 ()) fun _=>some true
theorem jV(fu:Nat)(p3:LB)(r:Bool)(H:iH fu p3=some r):bP Tryz.prog 207 [rS p3] (pB r):=by
 refine qJ func207 H (fun C hC H=>?_)
 refine gQ 9 ?_;refine iG 0 (bI _) (fun hl2=>?_)
 refine bM (σ:=Unit) (fun i1 _=>⟨[(0,rS p3),(2,pB false),(3,pN i1)],⟨[],[]⟩⟩) (fun _=>⟨[(2,pB false)],⟨[],[]⟩⟩) (eR H) ?_ ?_
 ·rintro i1 ⟨⟩ H
  refine gQ 8 ?_;refine cW H (fun h3 h3l H=>?_) (fun h3 H=>?_)
  ·refine gQ 4 ?_;refine cQ H fun z4 H=>(bD H fun x6 z5 H=>(dW (dI [0] bG (dI [3] bG ?_))))
   refine dI [10,11] (a5.congrP (a5.sliceR (es:=aW (p3)) (l:=0) (k:=(i1:Int)) rfl rfl rfl rfl rfl (by rw [bI];exact rfl) (by rw [bI];exact z4) X6.h) (XH _ _ _)) ?_;refine dI [0] bG (dI [3] bG (dI [13,14] qY (dI [15] xR (dI [12,16] (bC func153 (jY fu (List.drop (0:Int).toNat (List.take (i1:Int).toNat p3)) (aP p3 i1) _ z5)) (dN ?_)))))
   refine a7 H (fun h7 H=>gE 4) fun h7 H=>?_;exact gE 6
  exact gE 0
 rintro⟨⟩ H
 exact gE 4
def XC(m:ByteArray→Option aA):Prop:= ∀(ps:ByteArray) (r:aA),m ps=some r→xA Tryz.prog 137 [pS ps] ⟨[],[]⟩ [] 30 3 (aA.trs (r.asG)) (fun k=> .agg [pI r.asJ,pS r.asD,fW r.asG k])
theorem iP{m:ByteArray→Option aA}(h:XC m)(ps:ByteArray)(r:aA)(H:m ps=some r):bP Tryz.prog 137 [pS ps] ((aA.pv r):PV):=(h ps r H).plain (fun _=>jH) (hp:=SQ)
def kO(fu:Nat)(ps:ByteArray):Option aA:=some (aA.mk 1 ps [])
theorem hM(fu:Nat):XC (kO fu):=by
 intro ps r H
 unfold xA
 refine qJ func137 H (fun C hC H=>?_)
 refine gQ 10 ?_;refine cF.wk (Wk.regBox (k:=0) (j:=2) 30 3 (by decide) rfl rfl) (cF.ret ?_)
 obtain rfl:_=r:=(xQ H:)
 exact NQ (st':=⟨[],[⟨30,3,aA.trs ([]),false⟩]⟩) ⟨0,rfl,rfl,rfl⟩ (hr:=⟨⟨_,_,_,rfl,rfl,EH.h,rfl,rfl⟩,trivial⟩)
def W9(m:ByteArray→(List aA)→Option aA):Prop:= ∀(ps:ByteArray) (pE:List aA) (r:aA),m ps pE=some r→xA Tryz.prog 47 [pS ps,aX pE] ⟨[],[]⟩ [] 30 3 (aA.trs (r.asG)) (fun k=> .agg [pI r.asJ,pS r.asD,fW r.asG k])
theorem nS{m:ByteArray→(List aA)→Option aA}(h:W9 m)(ps:ByteArray)(pE:List aA)(r:aA)(H:m ps pE=some r):bP Tryz.prog 47 [pS ps,aX pE] ((aA.pv r):PV):=(h ps pE r H).plain (fun _=>jH) (hp:=SQ)
def eJ(fu:Nat)(ps:ByteArray)(pE:List aA):Option aA:=gd (([]:List aA).length+(pE).length≤68719476736) (some (aA.mk 2 ps (([])++pE)))
theorem fP(fu:Nat):W9 (eJ fu):=by
 intro ps pE r H
 unfold xA
 refine qJ func47 H (fun C hC H=>?_)
 refine gQ 7 ?_;refine q1 (n0 ([]:List aA)) (q1 bG (cQ H fun z1 H=>(q1 (jS z1) ?_)))
 refine gQ 3 ?_;refine cF.ret ?_
 obtain rfl:_=r:=(xQ H:)
 exact NQ (st':=⟨[],[⟨30,3,aA.trs (([])++pE),false⟩]⟩) ⟨0,rfl,rfl,rfl⟩ (hr:=⟨⟨_,_,_,rfl,rfl,EH.h,rfl,rfl⟩,trivial⟩)
abbrev DP:=aB→Option aA
def MM(m:DP):Prop:= ∀(p1:aB) (r:aA),m p1=some r→bP Tryz.prog 219 [(aB.pv p1)] ((aA.pv r):PV)
def aeB(fu:Nat)(pG:DP)(p1:aB):Nat→((List aA))→Option (LR ((List aA)) aA):=fun i11 v13=>bd (pG (aP p1.asF i11)) fun x17=>gd ((v13).length+(([x17]:List aA)).length≤68719476736) (some (.next (v13++([x17]:List aA))))
def UF(fu:Nat)(pG:DP)(p1:aB):Option aA:=sw (!decide (p1.asK=s_)) (gd (0<(p1.asK).size) (sw (decide ((((zF p1.asK 0).toNat:Int):Int)=39)) (gd ((0:Int)≤1∧(1:Int)≤(p1.asK.size:Int)∧(p1.asK.size:Int)≤(p1.asK.size:Int)) (bd (kO fu (p1.asK.extract (1:Int).toNat (p1.asK.size:Int).toNat)) fun x6=>some x6)) (bd (eJ fu p1.asK ([])) fun x8=>some x8))) (sw (decide ((p1.asF.length:Int)<2)) (some (aA.mk 0 s_ [])) (gd (0<(p1.asF).length) (so (loopN (aeB fu pG p1) (p1.asF.length-1) 1 ([])) fun v13=>sw (decide ((aP p1.asF 0).asK=gI)) (sw (decide ((v13.length:Int)=2)) (gd (1<(p1.asF).length) (sw (!decide ((aP p1.asF 1).asK=s_)) (gd ((0:Int)≤1∧(1:Int)≤(v13.length:Int)∧(v13.length:Int)≤(v13.length:Int)) (some (aA.mk 3 ((aP p1.asF 1).asK) (List.drop (1:Int).toNat (List.take (v13.length:Int).toNat v13))))) (sw (decide ((aP p1.asF 0).asK=uF)) (some (aA.mk 2 ((aP p1.asF 0).asK) v13)) (some (aA.mk 2 ((aP p1.asF 0).asK) v13))))) (sw (decide ((aP p1.asF 0).asK=uF)) (sw (decide ((v13.length:Int)=1)) (gd (1<(p1.asF).length) (sw (!decide ((aP p1.asF 1).asK=s_)) (some (aA.mk 4 ((aP p1.asF 1).asK) [])) (some (aA.mk 2 ((aP p1.asF 0).asK) v13)))) (some (aA.mk 2 ((aP p1.asF 0).asK) v13))) (some (aA.mk 2 ((aP p1.asF 0).asK) v13)))) (sw (decide ((aP p1.asF 0).asK=uF)) (sw (decide ((v13.length:Int)=1)) (gd (1<(p1.asF).length) (sw (!decide ((aP p1.asF 1).asK=s_)) (some (aA.mk 4 ((aP p1.asF 1).asK) [])) (some (aA.mk 2 ((aP p1.asF 0).asK) v13)))) (some (aA.mk 2 ((aP p1.asF 0).asK) v13))) (some (aA.mk 2 ((aP p1.asF 0).asK) v13))))))
theorem aaC(fu:Nat)(pG:DP)(pQ:MM pG):MM (UF fu pG):=by
 intro p1 r H
 refine qJ func219 H (fun C hC H=>?_)
 refine gQ 2 ?_;refine q1 (iR ([pS p1.asK,a9 p1.asF])) ?_;refine gQ 9 ?_;refine a7 H (fun h1 H=>?_) (fun h1 H=>?_)
 ·refine gQ 5 ?_;refine cQ H fun z2 H=>(q1 (a5.indexS (k:=0) rfl rfl rfl rfl z2 Tryz.underlying9) ?_)
  refine gQ 2 ?_;refine a7 H (fun h3 H=>?_) (fun h3 H=>?_)
  ·refine gQ 4 ?_;refine cQ H fun z4 H=>(q1 (a5.sliceS (l:=1) (k:=(p1.asK.size:Int)) rfl rfl rfl rfl rfl z4 Tryz.underlying9) (bD H fun x6 z5 H=>(q1 (bC func137 (iP (hM fu) (p1.asK.extract (1:Int).toNat (p1.asK.size:Int).toNat) _ z5)) ?_)))
   exact gE 2
  refine gQ 5 ?_;refine bD H fun x8 z7 H=>(q1 (bC func47 (nS (fP fu) p1.asK ([]) _ z7)) ?_)
  exact gE 2
 refine gQ 9 ?_;refine a7 H (fun h9 H=>?_) (fun h9 H=>?_)
 ·have h9n:p1.asF.length<2:=by have:=of_decide_eq_true h9;omega
  exact gE 5
 refine gQ 5 ?_;refine cQ H fun z10 H=>?_;refine gQ 7 ?_;refine q1 (n0 ([]:List aA)) ?_;refine gQ 7 ?_;refine iG 21 (aB.trs_len _) (fun hl14=>?_)
 refine bM (σ:=(List aA)) (fun i11 v13=>⟨[(1,.ptr 0 0),(2,.ptr 1 0),(3,pS ((aP p1.asF 0).asK)),(4,fW v13 0),(5,pN i11)],⟨[some ⟨189,[pS p1.asK,a9 p1.asF]⟩,some ⟨30,[pI 0,pS s_,.nil]⟩],[⟨30,3,aA.trs (v13),false⟩]⟩⟩) (fun v13=>⟨[(1,.ptr 0 0),(2,.ptr 1 0),(3,pS ((aP p1.asF 0).asK)),(4,fW v13 0)],⟨[some ⟨189,[pS p1.asK,a9 p1.asF]⟩,some ⟨30,[pI 0,pS s_,.nil]⟩],[⟨30,3,aA.trs (v13),false⟩]⟩⟩) (eR H) ?_ ?_
 ·rintro i11 v13 H
  refine gQ 9 ?_;refine cW H (fun h15 h15l H=>?_) (fun h15 H=>?_)
  ·refine gQ 9 ?_;refine q1 (jB (aB.cs (aP p1.asF i11))) (bD H fun x17 z16 H=>(q1 (bC func219 (pQ (aP p1.asF i11) _ z16)) (q1 (gC ([x17]:List aA)) (cQ H fun z18 H=>(q1 (jS z18) ?_)))))
   exact gE 7
  exact gE 0
 rintro v13 H
 refine gQ 7 ?_;refine dF 50 H (fun g19 H=>?_) fun g19 H=>?_
 ·refine gQ 5 ?_;refine dF 55 H (fun g20 H=>?_) fun g20 H=>?_
  ·refine gQ 2 ?_;refine cQ H fun z21 H=>?_;refine gQ 7 ?_;refine a7 H (fun h22 H=>?_) (fun h22 H=>?_)
   ·refine qS (cQ H fun z23 H=>(dW (dI [1] bS (dD [63] eE (dI [64] qY (dI [65] y2 (dI [66] xR (dI [4] bG ?_))))))))
    refine dI [68] (a5.congrP (a5.sliceR (es:=aA.trs (v13)) (l:=1) (k:=(v13.length:Int)) rfl rfl rfl rfl rfl (by rw [aA.trs_len];exact rfl) (by rw [aA.trs_len];exact z23) adD.h) (aA.trs_part _ _ _)) ?_;refine dI [67,69] nU (kS [2,70] jP (dN ?_))
    exact gE 0
   refine gQ 5 ?_;refine dF 74 H (fun g24 H=>?_) fun g24 H=>?_
   ·refine gQ 5 ?_
    iterate 6 refine qk (dne (b:=1) g20 (by decide)) ?_
    refine q1 (DZ (dne (b:=1) g20 (by decide))) ?_;exact gE 11
   exact gE 23
  refine gQ 15 ?_;refine dF 74 H (fun g25 H=>?_) fun g25 H=>?_
  ·refine gQ 5 ?_;refine dF 79 H (fun g26 H=>?_) fun g26 H=>?_
   ·refine gQ 2 ?_;refine cQ H fun z27 H=>?_;refine gQ 7 ?_;refine a7 H (fun h28 H=>gE 10) fun h28 H=>?_;exact gE 8
   exact gE 18
  exact gE 23
 refine gQ 20 ?_;refine dF 74 H (fun g29 H=>?_) fun g29 H=>?_
 ·refine gQ 5 ?_;refine dF 79 H (fun g30 H=>?_) fun g30 H=>?_
  ·refine gQ 2 ?_;refine cQ H fun z31 H=>?_;refine gQ 7 ?_;refine a7 H (fun h32 H=>gE 10) fun h32 H=>?_;exact gE 8
  exact gE 18
 exact gE 23
def kR:Nat→aB→Option aA
 |0,_=>none
 |fu+1,p1=>UF fu (kR fu) p1
theorem acM(fu:Nat):MM (kR fu):=by
 induction fu with
 |zero=>exact(fun p1 r H=>by simp only [kR] at H;cases H)
 |succ fu ih=>exact(fun p1 r H=>by simp only [kR] at H;exact aaC fu (kR fu) ih p1 r H)
theorem tM(fu:Nat):MM (kR fu):=(acM fu)
abbrev w8:=aA→Option aB
def ML(m:w8):Prop:= ∀(p1:aA) (r:aB),m p1=some r→bP Tryz.prog 242 [(aA.pv p1)] ((aB.pv r):PV)
def ad7(fu:Nat)(p9:w8)(p1:aA):Option (aB⊕Unit):=sw (decide (p1.asJ=1)) (gd ((acS).size+(p1.asD).size≤1099511627776) (bd (bV fu (acS++p1.asD)) fun x4=>some (.inl x4))) (sw (decide (p1.asJ=4)) (bd (bV fu uF) fun x7=>bd (bV fu p1.asD) fun x9=>bd (jZ fu ([x7,x9]:List aB)) fun x11=>some (.inl x11)) (sw (decide (p1.asJ=2)) (sw (decide ((p1.asG.length:Int)=0)) (bd (bV fu p1.asD) fun x15=>some (.inl x15)) (some (.inr ()))) (some (.inr ()))))
def ad8(fu:Nat)(p9:w8)(p1:aA):Option (aB⊕((List aB))):=sw (decide (p1.asJ=3)) (bd (bV fu gI) fun x20=>gd (([]:List aB).length+(([x20]:List aB)).length≤68719476736) (some (.inr (([])++([x20]:List aB))))) (some (.inr ([])))
def ad9(fu:Nat)(p9:w8)(p1:aA)(v17:List aB)(x23:aB):Nat→((List aB))→Option (LR ((List aB)) aB):=fun i25 v27=>bd (p9 (aP p1.asG i25)) fun x31=>gd ((v27).length+(([x31]:List aB)).length≤68719476736) (some (.next (v27++([x31]:List aB))))
def UE(fu:Nat)(p9:w8)(p1:aA):Option aB:=so (ad7 fu p9 p1) fun _=>so (ad8 fu p9 p1) fun v17=>bd (bV fu p1.asD) fun x23=>gd ((v17).length+(([x23]:List aB)).length≤68719476736) (so (loopN (ad9 fu p9 p1 v17 x23) (p1.asG.length-0) 0 (v17++([x23]:List aB))) fun v27=>some (aB.mk s_ v27))
theorem aaB(fu:Nat)(p9:w8)(pR:ML p9):ML (UE fu p9):=by
 intro p1 r H
 refine qJ func242 H (fun C hC H=>?_)
 refine gQ 2 ?_;refine q1 (iR (cN p1)) ?_;refine gQ 3 ?_;refine m3 (σ:=Unit) (fun _=>⟨[(1,.ptr 0 0),(2,.ptr 1 0)],⟨[some ⟨30,cN p1⟩,some ⟨189,[pS s_,.nil]⟩],[]⟩⟩) (eR H) (fun H=>?_) ?_
 ·refine gQ 8 ?_;refine a7 H (fun h1 H=>?_) (fun h1 H=>?_)
  ·refine gQ 4 ?_;refine cQ H fun z2 H=>(q1 (a5.addS rfl rfl rfl rfl (Nat.le_trans z2 (by decide))) (bD H fun x4 z3 H=>(q1 (bC func239 (bO fu (acS++p1.asD) _ z3)) ?_)))
   exact gE 2
  refine gQ 7 ?_;refine a7 H (fun h5 H=>?_) (fun h5 H=>?_)
  ·refine qS (bD H fun x7 z6 H=>(bD H fun x9 z8 H=>(bD H fun x11 z10 H=>(dW (dI [] (bC func239 (bO fu uF _ z6)) (dI [1] bS (dD [18] eE (dI [19] (bC func239 (bO fu p1.asD _ z8)) (dI [17,20] (gC ([x7,x9]:List aB)) (dI [21] (bC func238 (AN (k7 fu) ([x7,x9]:List aB) _ z10)) (kS [2,22] jP (dN ?_))))))))))))
   exact gE 0
  refine gQ 6 ?_;refine dF 27 H (fun g12 H=>?_) fun g12 H=>?_
  ·refine gQ 7 ?_;refine a7 H (fun h13 H=>?_) (fun h13 H=>?_)
   ·refine gQ 4 ?_;refine bD H fun x15 z14 H=>(q1 (bC func239 (bO fu p1.asD _ z14)) ?_)
    exact gE 2
   exact gE 1
  exact gE 9
 rintro⟨⟩ H
 refine gQ 7 ?_;refine cF.wk (Wk.regBox (k:=2) (j:=1) 189 2 (by decide) rfl rfl) ?_;refine m3 (σ:=(List aB)) (fun v17=>⟨[(1,.ptr 0 0),(2,.ptr 1 0),(3,.ptr 2 0)],⟨[some ⟨30,cN p1⟩,some ⟨189,[pS s_,.nil]⟩,some ⟨189,[pS s_,dH v17 0]⟩],[⟨189,2,aB.trs (v17),false⟩]⟩⟩) (eR H) (fun H=>?_) ?_
 ·refine gQ 6 ?_;refine a7 H (fun h18 H=>?_) (fun h18 H=>?_)
  ·refine bD H fun x20 z19 H=>(cQ H fun z21 H=>(dW (dI [3] bS (dD [40] eE (dI [] (bC func239 (bO fu gI _ z19)) (dI [42] (gC ([x20]:List aB)) (dE [41,43] (jS z21) (dI [3] bS (kS [45,44] jP (dN ?_))))))))))
   exact gE 0
  exact gE 1
 rintro v17 H
 refine qS (bD H fun x23 z22 H=>(cQ H fun z24 H=>(dW (dI [3] bS (dD [46] eE (dI [1] bS (dD [48] eE (dI [49] (bC func239 (bO fu p1.asD _ z22)) (dI [50] (gC ([x23]:List aB)) (dE [47,51] (jS z24) (dI [3] bS (kS [53,52] jP (dN ?_)))))))))))))
 refine gQ 5 ?_;refine cF.fact (b6 0 2 rfl rfl rfl (aA.trs_len _)) (fun hl28=>?_)
 refine bM (σ:=(List aB)) (fun i25 v27=>⟨[(1,.ptr 0 0),(2,.ptr 1 0),(3,.ptr 2 0),(4,pN i25)],⟨[some ⟨30,cN p1⟩,some ⟨189,[pS s_,.nil]⟩,some ⟨189,[pS s_,dH v27 0]⟩],[⟨189,2,aB.trs (v27),false⟩]⟩⟩) (fun v27=>⟨[(2,.ptr 1 0),(3,.ptr 2 0)],⟨[some ⟨30,cN p1⟩,some ⟨189,[pS s_,.nil]⟩,some ⟨189,[pS s_,dH v27 0]⟩],[⟨189,2,aB.trs (v27),false⟩]⟩⟩) (eR H) ?_ ?_
 ·rintro i25 v27 H
  refine gQ 9 ?_;refine cW H (fun h29 h29l H=>?_) (fun h29 H=>?_)
  ·refine gQ 3 ?_;refine bD H fun x31 z30 H=>(cQ H fun z32 H=>(dW (dI [3] bS (dD [61] eE (dI [1] bS (dD [63] eE (dI [4] bG (dI [64,65] qY (dI [66] (jB (aA.cs (aP p1.asG i25))) (dI [67] (bC func242 (pR (aP p1.asG i25) _ z30)) (dI [68] (gC ([x31]:List aB)) (dE [62,69] (jS z32) (dI [3] bS ?_)))))))))))))
   refine kS [71,70] jP (dN ?_)
   exact gE 5
  exact gE 0
 rintro v27 H
 refine gQ 2 ?_;refine q1 (cK [pS s_,dH v27 0]) ?_;exact gE 2
def kQ:Nat→aA→Option aB
 |0,_=>none
 |fu+1,p1=>UE fu (kQ fu) p1
theorem acL(fu:Nat):ML (kQ fu):=by
 induction fu with
 |zero=>exact(fun p1 r H=>by simp only [kQ] at H;cases H)
 |succ fu ih=>exact(fun p1 r H=>by simp only [kQ] at H;exact aaB fu (kQ fu) ih p1 r H)
theorem tL(fu:Nat):ML (kQ fu):=(acL fu)
abbrev vB:=aA→Int→Option Int
def DL(m:vB):Prop:= ∀(pt:aA) (pD:Int) (r:Int),m pt pD=some r→bP Tryz.prog 264 [(aA.pv pt),pI pD] (pI r:PV)
def Z1(fu:Nat)(pA:vB)(pt:aA)(pD:Int):Nat→Int→Option (LR Int Int):=fun i1 v2=>sw (decide (v2≥0)) (bd (pA (aP pt.asG i1) v2) fun x7=>some (.next x7)) (some (.brk v2))
def KM(fu:Nat)(pA:vB)(pt:aA)(pD:Int):Option Int:=so (loopN (Z1 fu pA pt pD) (pt.asG.length-0) 0 (aY (pD-1))) fun v2=>some v2
theorem UB(fu:Nat)(pA:vB)(pM:DL pA):DL (KM fu pA):=by
 intro pt pD r H
 refine qJ func264 H (fun C hC H=>?_)
 refine gQ 2 ?_;refine q1 (iR (cN pt)) ?_;refine gQ 13 ?_;refine cF.fact (b6 0 2 rfl rfl rfl (aA.trs_len _)) (fun hl3=>?_)
 refine bM (σ:=Int) (fun i1 v2=>⟨[(1,pI v2),(2,.ptr 0 0),(4,pI 0),(5,pN i1)],⟨[some ⟨30,cN pt⟩],[]⟩⟩) (fun v2=>⟨[(1,pI v2),(4,pI 0)],⟨[some ⟨30,cN pt⟩],[]⟩⟩) (eR H) ?_ ?_
 ·rintro i1 v2 H
  refine gQ 9 ?_;refine AL.splitB 13 rfl (fun g4=>?_) (fun g4=>?_)
  ·have g4l:=sE g4
   have H:=lnT g4l H
   have g4n:=uZ g4
   refine gQ 4 ?_;refine a7 H (fun h5 H=>?_) (fun h5 H=>?_)
   ·refine gQ 8 ?_;refine q1 (jB (aA.cs (aP pt.asG i1))) (q1 bG (bD H fun x7 z6 H=>(q1 (bC func264 (pM (aP pt.asG i1) v2 _ z6)) ?_)))
    exact gE 7
   exact gE 0
  have H:=lnE (sD g4) H
  exact gE 5
 rintro v2 H
 exact gE 5
def mM:Nat→aA→Int→Option Int
 |0,_,_=>none
 |fu+1,pt,pD=>KM fu (mM fu) pt pD
theorem XB(fu:Nat):DL (mM fu):=by
 induction fu with
 |zero=>exact(fun pt pD r H=>by simp only [mM] at H;cases H)
 |succ fu ih=>exact(fun pt pD r H=>by simp only [mM] at H;exact UB fu (mM fu) ih pt pD r H)
theorem Z3(fu:Nat):DL (mM fu):=(XB fu)
abbrev nO:=aA→Option Int
def uQ(m:nO):Prop:= ∀(pt:aA) (r:Int),m pt=some r→bP Tryz.prog 265 [(aA.pv pt)] (pI r:PV)
def P9(fu:Nat)(p7:nO)(pt:aA):Nat→Int→Option (LR Int Int):=fun i1 v2=>bd (p7 (aP pt.asG i1)) fun x6=>bd (IH fu v2 (aY (1+x6))) fun x8=>some (.next x8)
def zZ(fu:Nat)(p7:nO)(pt:aA):Option Int:=so (loopN (P9 fu p7 pt) (pt.asG.length-0) 0 0) fun v2=>some v2
theorem L8(fu:Nat)(p7:nO)(pL:uQ p7):uQ (zZ fu p7):=by
 intro pt r H
 refine qJ func265 H (fun C hC H=>?_)
 refine gQ 2 ?_;refine q1 (iR (cN pt)) ?_;refine gQ 11 ?_;refine cF.fact (b6 0 2 rfl rfl rfl (aA.trs_len _)) (fun hl3=>?_)
 refine bM (σ:=Int) (fun i1 v2=>⟨[(1,.ptr 0 0),(2,pI 0),(3,pI v2),(4,pN i1)],⟨[some ⟨30,cN pt⟩],[]⟩⟩) (fun v2=>⟨[(2,pI 0),(3,pI v2)],⟨[some ⟨30,cN pt⟩],[]⟩⟩) (eR H) ?_ ?_
 ·rintro i1 v2 H
  refine gQ 9 ?_;refine cW H (fun h4 h4l H=>?_) (fun h4 H=>?_)
  ·refine gQ 9 ?_;refine q1 (jB (aA.cs (aP pt.asG i1))) (bD H fun x6 z5 H=>(q1 (bC func265 (pL (aP pt.asG i1) _ z5)) (q1 rAw (bD H fun x8 z7 H=>(q1 (bC func215 (RM fu v2 (aY (1+x6)) _ z7)) ?_)))))
   exact gE 7
  exact gE 0
 rintro v2 H
 exact gE 5
def iB:Nat→aA→Option Int
 |0,_=>none
 |fu+1,pt=>zZ fu (iB fu) pt
theorem N6(fu:Nat):uQ (iB fu):=by
 induction fu with
 |zero=>exact(fun pt r H=>by simp only [iB] at H;cases H)
 |succ fu ih=>exact(fun pt r H=>by simp only [iB] at H;exact L8 fu (iB fu) ih pt r H)
theorem QB(fu:Nat):uQ (iB fu):=(N6 fu)
def vA(fu:Nat)(ps:ByteArray):Option Bool:=sw (decide (ps=dK)) (some true) (some (decide (ps=c9)))
theorem GI(fu:Nat)(ps:ByteArray)(r:Bool)(H:vA fu ps=some r):bP Tryz.prog 108 [pS ps] (pB r):=by
 refine qJ func108 H (fun C hC H=>?_)
 refine gQ 9 ?_;refine dF 5 H (fun g1 H=>gE 5) fun g1 H=>?_;exact gE 5
abbrev qT:=aA→Option Bool
def DJ(m:qT):Prop:= ∀(p1:aA) (r:Bool),m p1=some r→bP Tryz.prog 266 [(aA.pv p1)] (pB r:PV)
def OV(fu:Nat)(p6:qT)(p1:aA)(x2:Bool):Option ((Bool⊕Bool)⊕Bool):=sw (decide (p1.asJ=1)) (some (.inr (decide (p1.asJ=1)))) (some (.inr (decide (p1.asJ=4))))
def OU(fu:Nat)(p6:qT)(p1:aA)(x2:Bool):Option (Bool⊕Bool):=so (OV fu p6 p1 x2) fun v4=>sw (v4) (sw x2 (some (.inr (decide ((p1.asG.length:Int)=0)))) (some (.inr false))) (sw (decide (p1.asJ=3)) (sw x2 (some (.inr (decide ((p1.asG.length:Int)=1)))) (some (.inr false))) (sw (decide (p1.asJ=2)) (sw x2 (sw (decide ((p1.asG.length:Int)≤3)) (some (.inr true)) (bd (vA fu p1.asD) fun x14=>sw x14 (some (.inr (decide ((p1.asG.length:Int)=0)))) (some (.inr false)))) (bd (vA fu p1.asD) fun x17=>sw x17 (some (.inr (decide ((p1.asG.length:Int)=0)))) (some (.inr false)))) (some (.inl false))))
def OW(fu:Nat)(p6:qT)(p1:aA)(x2 v3:Bool):Nat→Bool→Option (LR Bool Bool):=fun i19 v20=>sw (v20) (bd (p6 (aP p1.asG i19)) fun x25=>some (.next x25)) (some (.next false))
def DI(fu:Nat)(p6:qT)(p1:aA):Option Bool:=bd (cO fu p1.asD) fun x2=>so (OU fu p6 p1 x2) fun v3=>so (loopN (OW fu p6 p1 x2 v3) (p1.asG.length-0) 0 v3) fun v20=>some v20
theorem UA(fu:Nat)(p6:qT)(pO:DJ p6):DJ (DI fu p6):=by
 intro p1 r H
 refine qJ func266 H (fun C hC H=>?_)
 refine gQ 2 ?_;refine q1 (iR (cN p1)) ?_;refine gQ 6 ?_;refine bD H fun x2 z1 H=>(q1 (bC func205 (c8 fu p1.asD _ z1)) ?_)
 refine gQ 3 ?_;refine m3 (σ:=Bool) (fun v3=>⟨[(1,.ptr 0 0),(2,pB false),(3,pB v3)],⟨[some ⟨30,cN p1⟩],[]⟩⟩) (eR H) (fun H=>?_) ?_
 ·refine gQ 7 ?_;refine m3 (σ:=Bool) (fun v4=>⟨[(1,.ptr 0 0),(2,pB false),(3,pB x2),(9,pI p1.asJ),(10,pB v4)],⟨[some ⟨30,cN p1⟩],[]⟩⟩) (eR H) (fun H=>?_) ?_
  ·refine gQ 5 ?_;refine a7 H (fun h5 H=>gE 1) fun h5 H=>?_;exact gE 4
  rintro v4 H
  refine a7 H (fun h6 H=>?_) (fun h6 H=>?_)
  ·refine gQ 3 ?_;refine dF 14 H (fun g7 H=>gE 7) fun g7 H=>?_;exact gE 7
  refine gQ 5 ?_;refine a7 H (fun h8 H=>?_) (fun h8 H=>?_)
  ·refine gQ 3 ?_;refine dF 23 H (fun g9 H=>gE 7) fun g9 H=>?_;exact gE 7
  refine gQ 5 ?_;refine a7 H (fun h10 H=>?_) (fun h10 H=>?_)
  ·refine gQ 3 ?_;refine dF 32 H (fun g11 H=>?_) fun g11 H=>?_
   ·refine gQ 6 ?_;refine dF 38 H (fun g12 H=>gE 12) fun g12 H=>?_;refine gQ 2 ?_;refine bD H fun x14 z13 H=>(qg g12 (bC func108 (GI fu p1.asD _ z13)) (qg g12 bG ?_))
    refine dF 42 H (fun g15 H=>gE 8) fun g15 H=>?_;exact gE 8
   refine gQ 8 ?_;refine bD H fun x17 z16 H=>(qg rfl (bC func108 (GI fu p1.asD _ z16)) (qg rfl bG ?_))
   refine dF 42 H (fun g18 H=>gE 8) fun g18 H=>?_;exact gE 8
  exact gE 4
 rintro v3 H
 refine gQ 5 ?_;refine cF.fact (b6 0 2 rfl rfl rfl (aA.trs_len _)) (fun hl21=>?_)
 refine bM (σ:=Bool) (fun i19 v20=>⟨[(1,.ptr 0 0),(2,pB false),(3,pB v20),(4,pN i19)],⟨[some ⟨30,cN p1⟩],[]⟩⟩) (fun v20=>⟨[(2,pB false),(3,pB v20)],⟨[some ⟨30,cN p1⟩],[]⟩⟩) (eR H) ?_ ?_
 ·rintro i19 v20 H
  refine gQ 9 ?_;refine cW H (fun h22 h22l H=>?_) (fun h22 H=>?_)
  ·refine gQ 6 ?_;refine dF 57 H (fun g23 H=>?_) fun g23 H=>?_
   ·refine gQ 4 ?_;refine qg g23 (jB (aA.cs (aP p1.asG i19))) (bD H fun x25 z24 H=>(qg g23 (bC func266 (pO (aP p1.asG i19) _ z24)) ?_))
    exact gE 8
   exact gE 14
  exact gE 0
 rintro v20 H
 exact gE 5
def jG:Nat→aA→Option Bool
 |0,_=>none
 |fu+1,p1=>DI fu (jG fu) p1
theorem XA(fu:Nat):DJ (jG fu):=by
 induction fu with
 |zero=>exact(fun p1 r H=>by simp only [jG] at H;cases H)
 |succ fu ih=>exact(fun p1 r H=>by simp only [jG] at H;exact UA fu (jG fu) ih p1 r H)
theorem Z0(fu:Nat):DJ (jG fu):=(XA fu)
def fS(fu:Nat)(pt:aA):Option Bool:=bd (mM fu pt 60) fun x2=>sw (decide (x2≥0)) (bd (iB fu pt) fun x5=>sw (decide (x5≤6)) (bd (jG fu pt) fun x8=>some x8) (some false)) (some false)
theorem jW(fu:Nat)(pt:aA)(r:Bool)(H:fS fu pt=some r):bP Tryz.prog 258 [(aA.pv pt)] (pB r):=by
 refine qJ func258 H (fun C hC H=>?_)
 refine gQ 2 ?_;refine q1 (iR (cN pt)) ?_;refine gQ 4 ?_;refine q1 (cK [pI pt.asJ,pS pt.asD,aX pt.asG]) (bD H fun x2 z1 H=>(q1 (bC func264 (Z3 fu pt 60 _ z1)) ?_))
 refine gQ 2 ?_;refine dF 6 H (fun g3 H=>?_) fun g3 H=>?_
 ·refine qg g3 (cK [pI pt.asJ,pS pt.asD,aX pt.asG]) (bD H fun x5 z4 H=>(qg g3 (bC func265 (QB fu pt _ z4)) ?_))
  refine gQ 3 ?_;refine dF 11 H (fun g6 H=>?_) fun g6 H=>?_
  ·refine qg g6 (cK [pI pt.asJ,pS pt.asD,aX pt.asG]) (bD H fun x8 z7 H=>(qg g6 (bC func266 (Z0 fu pt _ z7)) ?_))
   exact gE 3
  exact gE 5
 exact gE 10
abbrev iA:=aA→aA→Option Bool
abbrev mN:=(List aA)→(List aA)→Option Bool
def rL(m:iA):Prop:= ∀(pa:aA) (pb:aA) (r:Bool),m pa pb=some r→bP Tryz.prog 38 [(aA.pv pa),(aA.pv pb)] (pB r:PV)
def DM(m:mN):Prop:= ∀(pa:List aA) (pb:List aA) (r:Bool),m pa pb=some r→bP Tryz.prog 92 [aX pa,aX pb] (pB r:PV)
def uP(fu:Nat)(p2:iA)(p5:mN)(pa pb:aA):Option Bool:=sw (decide (pa.asJ=pb.asJ)) (sw (decide (pa.asD=pb.asD)) (bd (p5 pa.asG pb.asG) fun x4=>some x4) (some false)) (some false)
theorem LZ(fu:Nat)(p2:iA)(p5:mN)(pH:rL p2)(pK:DM p5):rL (uP fu p2 p5):=by
 intro pa pb r H
 refine qJ func38 H (fun C hC H=>?_)
 refine gQ 2 ?_;refine q1 (iR (cN pa)) (q1 (iR (cN pb)) ?_)
 refine gQ 10 ?_;refine dF 10 H (fun g1 H=>?_) fun g1 H=>?_
 ·refine gQ 7 ?_;refine dF 17 H (fun g2 H=>?_) fun g2 H=>?_
  ·refine gQ 4 ?_;refine bD H fun x4 z3 H=>(qg g2 (bC func92 (pK pa.asG pb.asG _ z3)) ?_)
   exact gE 3
  exact gE 8
 exact gE 15
def GK(fu:Nat)(p2:iA)(p5:mN)(pa pb:List aA):Nat→Unit→Option (LR Unit Bool):=fun i2 _=>gd (i2<(pb).length) (bd (p2 (aP pa i2) (aP pb i2)) fun x7=>sw (!(x7)) (some (.ret false)) (some (.next ())))
def GL(fu:Nat)(p2:iA)(p5:mN)(pa pb:List aA):Option (Bool⊕Unit):=loopN (GK fu p2 p5 pa pb) (pa.length-0) 0 ()
def y1(fu:Nat)(p2:iA)(p5:mN)(pa pb:List aA):Option Bool:=sw (!decide ((pa.length:Int)=(pb.length:Int))) (some false) (so (GL fu p2 p5 pa pb) fun _=>some true)
theorem UC(fu:Nat)(p2:iA)(p5:mN)(pH:rL p2)(pK:DM p5):DM (y1 fu p2 p5):=by
 intro pa pb r H
 refine qJ func92 H (fun C hC H=>?_)
 refine gQ 13 ?_;refine a7 H (fun h1 H=>gE 4) fun h1 H=>?_;refine gQ 6 ?_;refine iG 0 (aA.trs_len _) (fun hl3=>?_)
 refine bM (σ:=Unit) (fun i2 _=>⟨[(0,aX pa),(1,aX pb),(4,pB false),(5,pN i2)],⟨[],[]⟩⟩) (fun _=>⟨[(4,pB false)],⟨[],[]⟩⟩) (eR H) ?_ ?_
 ·rintro i2 ⟨⟩ H
  refine gQ 8 ?_;refine cW H (fun h4 h4l H=>?_) (fun h4 H=>?_)
  ·refine gQ 4 ?_;refine cQ H fun z5 H=>(bD H fun x7 z6 H=>(dW (dI [0] bG (dI [5] bG (dI [17,18] qY (dI [19] (jB (aA.cs (aP pa i2))) (dI [1] bG (dI [5] bG (dI [21,22] qY (dI [23] (jB (aA.cs (aP pb i2))) (dI [20,24] (bC func38 (pH (aP pa i2) (aP pb i2) _ z6)) (dI [25] F0 (dN ?_)))))))))))))
   refine a7 H (fun h8 H=>gE 4) fun h8 H=>?_;exact gE 6
  exact gE 0
 rintro⟨⟩ H
 exact gE 4
mutual
def eH:Nat→aA→aA→Option Bool
 |0,_,_=>none
 |fu+1,pa,pb=>uP fu (eH fu) (iN fu) pa pb
def iN:Nat→(List aA)→(List aA)→Option Bool
 |0,_,_=>none
 |fu+1,pa,pb=>y1 fu (eH fu) (iN fu) pa pb
end
theorem NZ(fu:Nat):rL (eH fu)∧DM (iN fu):=by
 induction fu with
 |zero=>exact⟨(fun pa pb r H=>by simp only [eH] at H;cases H),(fun pa pb r H=>by simp only [iN] at H;cases H)⟩
 |succ fu ih=>exact⟨(fun pa pb r H=>by simp only [eH] at H;exact LZ fu (eH fu) (iN fu) ih.1 ih.2 pa pb r H),(fun pa pb r H=>by simp only [iN] at H;exact UC fu (eH fu) (iN fu) ih.1 ih.2 pa pb r H)⟩
theorem EO(fu:Nat):rL (eH fu):=(NZ fu).1
abbrev sS:=aA→(LB)→Option ((LB))
def DO(m:sS):Prop:= ∀(pt:aA) (pC:LB) (r:(LB)),m pt pC=some r→cJ Tryz.prog 136 [(aA.pv pt),aS pC 0] ⟨[],[⟨9,1,aW (pC),false⟩]⟩ (fun q t=>q=(aS r 0:PV)∧t=⟨[],[⟨9,1,aW (r),false⟩]⟩)
def Z7(fu:Nat)(p8:sS)(pt:aA)(pC:LB):Option (((LB))⊕((LB))):=sw (decide (pt.asJ=1)) (bd (iW fu pC pt.asD) fun x5=>sw (!(x5)) (gd ((pC).length+(([pt.asD]:LB)).length≤68719476736) (some (.inr (pC++([pt.asD]:LB))))) (some (.inr pC))) (some (.inr pC))
def Z8(fu:Nat)(p8:sS)(pt:aA)(pC v2:LB):Nat→((LB))→Option (LR ((LB)) ((LB))):=fun i8 v10=>bd (p8 (aP pt.asG i8) v10) fun x14=>some (.next x14)
def KN(fu:Nat)(p8:sS)(pt:aA)(pC:LB):Option ((LB)):=so (Z7 fu p8 pt pC) fun v2=>so (loopN (Z8 fu p8 pt pC v2) (pt.asG.length-0) 0 v2) fun v10=>some v10
theorem UD(fu:Nat)(p8:sS)(pP:DO p8):DO (KN fu p8):=by
 intro pt pC r H
 refine qJ func136 H (fun C hC H=>?_)
 refine gQ 2 ?_;refine q1 (iR (cN pt)) ?_;refine gQ 3 ?_;refine m3 (σ:=(LB)) (fun v2=>⟨[(1,aS v2 0),(2,.ptr 0 0),(4,.nil)],⟨[some ⟨30,cN pt⟩],[⟨9,1,aW (v2),false⟩]⟩⟩) (eR H) (fun H=>?_) ?_
 ·refine gQ 6 ?_;refine dF 9 H (fun g3 H=>?_) fun g3 H=>?_
  ·refine gQ 3 ?_;refine bD H fun x5 z4 H=>(qg g3 (bC func153 (jY fu pC pt.asD _ z4)) ?_)
   refine gQ 3 ?_;refine a7 H (fun h6 H=>?_) (fun h6 H=>?_)
   ·refine gQ 4 ?_;refine q1 (gC ([pt.asD]:LB)) (cQ H fun z7 H=>(q1 (jS z7) ?_))
    exact gE 2
   exact gE 1
  exact gE 9
 rintro v2 H
 refine gQ 5 ?_;refine cF.fact (b6 0 2 rfl rfl rfl (aA.trs_len _)) (fun hl11=>?_)
 refine bM (σ:=(LB)) (fun i8 v10=>⟨[(1,aS v10 0),(2,.ptr 0 0),(4,.nil),(5,pN i8)],⟨[some ⟨30,cN pt⟩],[⟨9,1,aW (v10),false⟩]⟩⟩) (fun v10=>⟨[(1,aS v10 0),(4,.nil)],⟨[some ⟨30,cN pt⟩],[⟨9,1,aW (v10),false⟩]⟩⟩) (eR H) ?_ ?_
 ·rintro i8 v10 H
  refine gQ 9 ?_;refine cW H (fun h12 h12l H=>?_) (fun h12 H=>?_)
  ·refine gQ 8 ?_;refine q1 (jB (aA.cs (aP pt.asG i8))) (q1 bG (bD H fun x14 z13 H=>(q1 (eW [] [0] func136 (pP (aP pt.asG i8) v10 _ z13)) ?_)))
   exact gE 7
  exact gE 0
 rintro v10 H
 exact gE 5
def mO:Nat→aA→(LB)→Option ((LB))
 |0,_,_=>none
 |fu+1,pt,pC=>KN fu (mO fu) pt pC
theorem XD(fu:Nat):DO (mO fu):=by
 induction fu with
 |zero=>exact(fun pt pC r H=>by simp only [mO] at H;cases H)
 |succ fu ih=>exact(fun pt pC r H=>by simp only [mO] at H;exact UD fu (mO fu) ih pt pC r H)
theorem aaA(fu:Nat):DO (mO fu):=(XD fu)
def sI(fu:Nat)(pt:aA):Option ((LB)):=bd (mO fu pt ([])) fun x2=>some x2
theorem H6(fu:Nat)(pt:aA)(r:(LB))(H:sI fu pt=some r):bP Tryz.prog 85 [(aA.pv pt)] (rS r):=by
 refine qJ func85 H (fun C hC H=>?_)
 refine gQ 2 ?_;refine q1 (iR (cN pt)) ?_;refine gQ 4 ?_;refine q1 (cK [pI pt.asJ,pS pt.asD,aX pt.asG]) (q1 (n0 ([]:LB)) (bD H fun x2 z1 H=>(q1 (eW [] [0] func136 (aaA fu pt ([]) _ z1)) ?_)))
 exact gE 2
abbrev jE:=aA→Option Bool
def nN(m:jE):Prop:= ∀(pt:aA) (r:Bool),m pt=some r→bP Tryz.prog 86 [(aA.pv pt)] (pB r:PV)
def H0(fu:Nat)(p4:jE)(pt:aA):Nat→Unit→Option (LR Unit Bool):=fun i1 _=>bd (p4 (aP pt.asG i1)) fun x5=>sw x5 (some (.ret true)) (some (.next ()))
def sH(fu:Nat)(p4:jE)(pt:aA):Option Bool:=so (loopN (H0 fu p4 pt) (pt.asG.length-0) 0 ()) fun _=>some (decide (pt.asJ=3))
theorem D4(fu:Nat)(p4:jE)(pJ:nN p4):nN (sH fu p4):=by
 intro pt r H
 refine qJ func86 H (fun C hC H=>?_)
 refine gQ 2 ?_;refine q1 (iR (cN pt)) ?_;refine gQ 7 ?_;refine cF.fact (b6 0 2 rfl rfl rfl (aA.trs_len _)) (fun hl2=>?_)
 refine bM (σ:=Unit) (fun i1 _=>⟨[(1,.ptr 0 0),(2,pB false),(3,pN i1)],⟨[some ⟨30,cN pt⟩],[]⟩⟩) (fun _=>⟨[(1,.ptr 0 0),(2,pB false)],⟨[some ⟨30,cN pt⟩],[]⟩⟩) (eR H) ?_ ?_
 ·rintro i1 ⟨⟩ H
  refine gQ 9 ?_;refine cW H (fun h3 h3l H=>?_) (fun h3 H=>?_)
  ·refine gQ 9 ?_;refine q1 (jB (aA.cs (aP pt.asG i1))) (bD H fun x5 z4 H=>(q1 (bC func86 (pJ (aP pt.asG i1) _ z4)) (qN ?_)))
   refine a7 H (fun h6 H=>gE 4) fun h6 H=>?_;exact gE 6
  exact gE 0
 rintro⟨⟩ H
 exact gE 7
def eC:Nat→aA→Option Bool
 |0,_=>none
 |fu+1,pt=>sH fu (eC fu) pt
theorem F3(fu:Nat):nN (eC fu):=by
 induction fu with
 |zero=>exact(fun pt r H=>by simp only [eC] at H;cases H)
 |succ fu ih=>exact(fun pt r H=>by simp only [eC] at H;exact D4 fu (eC fu) ih pt r H)
theorem wU(fu:Nat):nN (eC fu):=(F3 fu)
abbrev e8:=aA→ByteArray→Option Int
def kD(m:e8):Prop:= ∀(pt:aA) (pv:ByteArray) (r:Int),m pt pv=some r→bP Tryz.prog 260 [(aA.pv pt),pS pv] (pI r:PV)
def A1(fu:Nat)(p0:e8)(pt:aA)(pv:ByteArray):Option (Int⊕Int):=sw (decide (pt.asJ=1)) (sw (decide (pt.asD=pv)) (some (.inr 1)) (some (.inr 0))) (some (.inr 0))
def A2(fu:Nat)(p0:e8)(pt:aA)(pv:ByteArray)(v1:Int):Nat→Int→Option (LR Int Int):=fun i4 v5=>bd (p0 (aP pt.asG i4) pv) fun x9=>some (.next (aY (v5+x9)))
def nD(fu:Nat)(p0:e8)(pt:aA)(pv:ByteArray):Option Int:=so (A1 fu p0 pt pv) fun v1=>so (loopN (A2 fu p0 pt pv v1) (pt.asG.length-0) 0 v1) fun v5=>some v5
theorem yP(fu:Nat)(p0:e8)(pF:kD p0):kD (nD fu p0):=by
 intro pt pv r H
 refine qJ func260 H (fun C hC H=>?_)
 refine gQ 2 ?_;refine q1 (iR (cN pt)) ?_;refine gQ 7 ?_;refine m3 (σ:=Int) (fun v1=>⟨[(1,pS pv),(2,.ptr 0 0),(4,pI 0),(5,pI v1)],⟨[some ⟨30,cN pt⟩],[]⟩⟩) (eR H) (fun H=>?_) ?_
 ·refine gQ 6 ?_;refine dF 10 H (fun g2 H=>?_) fun g2 H=>?_
  ·refine gQ 6 ?_;refine a7 H (fun h3 H=>gE 3) fun h3 H=>?_;exact gE 1
  exact gE 8
 rintro v1 H
 refine gQ 5 ?_;refine cF.fact (b6 0 2 rfl rfl rfl (aA.trs_len _)) (fun hl6=>?_)
 refine bM (σ:=Int) (fun i4 v5=>⟨[(1,pS pv),(2,.ptr 0 0),(4,pI 0),(5,pI v5),(6,pN i4)],⟨[some ⟨30,cN pt⟩],[]⟩⟩) (fun v5=>⟨[(4,pI 0),(5,pI v5)],⟨[some ⟨30,cN pt⟩],[]⟩⟩) (eR H) ?_ ?_
 ·rintro i4 v5 H
  refine gQ 9 ?_;refine cW H (fun h7 h7l H=>?_) (fun h7 H=>?_)
  ·refine gQ 9 ?_;refine q1 (jB (aA.cs (aP pt.asG i4))) (q1 bG (bD H fun x9 z8 H=>(q1 (bC func260 (pF (aP pt.asG i4) pv _ z8)) ?_)))
   exact gE 8
  exact gE 0
 rintro v5 H
 exact gE 5
def c6:Nat→aA→ByteArray→Option Int
 |0,_,_=>none
 |fu+1,pt,pv=>nD fu (c6 fu) pt pv
theorem zW(fu:Nat):kD (c6 fu):=by
 induction fu with
 |zero=>exact(fun pt pv r H=>by simp only [c6] at H;cases H)
 |succ fu ih=>exact(fun pt pv r H=>by simp only [c6] at H;exact yP fu (c6 fu) ih pt pv r H)
theorem A4(fu:Nat):kD (c6 fu):=(zW fu)
def B3(fu:Nat)(pv:ByteArray)(pt:aA):Option Bool:=bd (c6 fu pt pv) fun x2=>some (decide (x2>0))
theorem S2(fu:Nat)(pv:ByteArray)(pt:aA)(r:Bool)(H:B3 fu pv pt=some r):bP Tryz.prog 250 [pS pv,(aA.pv pt)] (pB r):=by
 refine qJ func250 H (fun C hC H=>?_)
 refine gQ 2 ?_;refine q1 (iR (cN pt)) ?_;refine gQ 4 ?_;refine q1 (cK [pI pt.asJ,pS pt.asD,aX pt.asG]) (q1 bG (bD H fun x2 z1 H=>(q1 (bC func260 (A4 fu pt pv _ z1)) ?_)))
 exact gE 3
end
end Go.Proofs.YtfcoaagbccmahaaGreat.W
