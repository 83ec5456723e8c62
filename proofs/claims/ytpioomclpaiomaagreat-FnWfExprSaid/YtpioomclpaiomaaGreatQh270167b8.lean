/- Words, rules and walks of several kinds, laid together: PgS, PmQ, MaP1, MaP2, MaP3. No conditions but those that each theorem states. -/
import Derived.Test.YtpioomclpaiomaaGreatQh7b7fa178
import Derived.Test.YtpioomclpaiomaaGreatQh73782e98
import Derived.Laws.BytesArg
set_option linter.unusedSimpArgs false
set_option linter.unusedVariables false
namespace Go.Proofs.YtpioomclpaiomaaGreat
abbrev BY:ByteArray:=⟨#[40,99,97,108,108,32,98,111,116,104,32,40,99,97,108,108,32,105,100,32,40,99,97,108,108,32,105,100,32,40,110,101,119,32,116,97,103,32,50,41,41,41,41]⟩
abbrev cZ:ByteArray:=⟨(List.append [32,40,105,110,115,116,32,115,104,111,119,32,40,41,32,105,110,116,32,40,41,32,40,41,32,40,41,32,40,109,32,40,120,41,32,120,41,41,32,40,105,110,115] [116,32,115,104,111,119,32,40,41,32,98,111,111,108,32,40,41,32,40,41,32,40,41,32,40,109,32,40,120,41,32,40,105,102,32,120,32,49,32,48,41,41,41]).toArray⟩
abbrev BZ:ByteArray:=⟨(List.append [40,108,101,116,32,122,32,40,109,101,116,104,111,100,32,97,100,100,32,112,108,117,115,32,40,110,101,119,32,98,111,120,32,49] [41,32,40,110,101,119,32,98,111,120,32,50,41,41,32,40,99,97,115,101,32,122,32,40,98,111,120,32,110,32,110,41,41,41]).toArray⟩
abbrev y1:ByteArray:=⟨#[97,117,116,111,45,116,114,97,105,116]⟩
abbrev gH:ByteArray:=⟨(List.append [32,40,105,110,115,116,32,101,113,32,40,97,41,32,40,98,111,120,32,39,97,41,32,40,40,101,113,32,39,97,41,41,32,40,41,32,40,41,32,40,115,97,109,101,32,40,120,32,121,41,32,40,99] [97,115,101,32,120,32,40,98,111,120,32,112,32,40,99,97,115,101,32,121,32,40,98,111,120,32,113,32,40,109,101,116,104,111,100,32,101,113,32,115,97,109,101,32,112,32,113,41,41,41,41,41,41,41]).toArray⟩
abbrev B3:ByteArray:=⟨#[40,99,97,108,108,32,98,111,116,104,32,40,110,101,119,32,112,97,105,114,32,51,32,116,114,117,101,41,41]⟩
abbrev oQ:ByteArray:=⟨#[32,40,102,110,32,109,97,105,110,32,40,41,32,40,41,32,40,41,32,105,110,116,32]⟩
abbrev L5:ByteArray:=⟨(List.append [32,40,105,110,115,116,32,115,104,111,119,32,40,41,32,40,108,105,115,116,32,116,97,103,41,32,40,41,32,40,41,32,40,41,32,40,109,32,40,120,41] [32,52,41,41,32,40,105,110,115,116,32,115,104,111,119,32,40,41,32,116,97,103,32,40,41,32,40,41,32,40,41,32,40,109,32,40,120,41,32,53,41,41]).toArray⟩
abbrev y2:ByteArray:=⟨#[117,110,107,110,111,119,110,45,110,97,109,101]⟩
abbrev B4:ByteArray:=⟨(List.append [32,40,102,110,32,103,114,111,119,32,40,97,41,32,40,40,115,104,111,119,32,39,97,41,41,32,40,40,110,32,105,110,116,41,32,40,120,32,39,97,41,41,32,105,110,116,32,40,105,102,32,40,60,32,110,32] [49,41,32,40,109,101,116,104,111,100,32,115,104,111,119,32,109,32,120,41,32,40,99,97,108,108,32,103,114,111,119,32,40,45,32,110,32,49,41,32,40,110,101,119,32,112,97,105,114,32,120,32,120,41,41,41,41]).toArray⟩
abbrev L6:ByteArray:=⟨(List.append [32,40,105,110,115,116,32,101,113,32,40,41,32,116,97,103,32,40,41,32,40,41,32,40,41,32,40,115,97,109,101,32,40,120,32,121,41,32,116,114,117,101,41,41,32] [40,105,110,115,116,32,111,114,100,32,40,41,32,116,97,103,32,40,41,32,40,41,32,40,41,32,40,108,101,115,115,32,40,120,32,121,41,32,102,97,108,115,101,41,41]).toArray⟩
abbrev B5:ByteArray:=⟨(List.append [40,109,101,116,104,111,100,32,115,104,111,119,32,109,32,40,110,101,119,32,99,111,110,115,32,49,32,40,110,101,119,32,99,111] [110,115,32,50,32,40,116,104,101,32,40,108,105,115,116,32,105,110,116,41,32,40,110,101,119,32,110,105,108,41,41,41,41,41]).toArray⟩
abbrev B6:ByteArray:=⟨#[40,99,97,108,108,32,98,111,116,104,32,53,41]⟩
abbrev B7:ByteArray:=⟨#[40,43,32,40,99,97,108,108,32,105,100,32,52,41,32,40,109,101,116,104,111,100,32,115,104,111,119,32,109,32,40,110,101,119,32,116,97,103,32,55,41,41,41]⟩
abbrev B8:ByteArray:=⟨#[40,105,102,32,40,109,101,116,104,111,100,32,111,114,100,32,108,101,115,115,32,49,32,50,41,32,40,99,97,108,108,32,98,111,116,104,32,116,114,117,101,41,32,48,41]⟩
abbrev B9:ByteArray:=⟨(List.append [40,109,101,116,104,111,100,32,115,104,111,119,32,109,32,40,110,101,119,32,99,111,110,115,32,40,110,101,119,32,116,97] [103,32,49,41,32,40,116,104,101,32,40,108,105,115,116,32,116,97,103,41,32,40,110,101,119,32,110,105,108,41,41,41,41]).toArray⟩
abbrev L7:ByteArray:=⟨#[32,40,105,110,115,116,32,111,114,100,32,40,41,32,116,97,103,32,40,41,32,40,41,32,40,41,32,40,108,101,115,115,32,40,120,32,121,41,32,116,114,117,101,41,41]⟩
abbrev CA:ByteArray:=⟨#[40,109,101,116,104,111,100,32,115,104,111,119,32,109,32,40,110,101,119,32,110,105,108,41,41]⟩
abbrev cQ:ByteArray:=⟨(List.append [40,112,97,99,107,97,103,101,32,99,111,114,101,32,40,41,32,40,116,114,97,105,116,32,115,104,111,119,32,40,41,32,40,41,32,40,109,32,40,41,32,105,110,116,41,32,40,116,119,111,32,40,39,115,101] [108,102,41,32,105,110,116,32,40,120,32,121,41,32,40,43,32,40,109,101,116,104,111,100,32,115,104,111,119,32,109,32,120,41,32,40,109,101,116,104,111,100,32,115,104,111,119,32,109,32,121,41,41,41,41]).toArray⟩
abbrev lC:ByteArray:=⟨(List.append (List.append [32,40,105,110,115,116,32,97,100,100,32,40,97,41,32,40,98,111,120,32,39,97,41,32,40,40,97,100,100,32,39,97,41,41,32] [40,41,32,40,40,98,111,120,32,40,97,115,115,111,99,32,97,100,100,32,39,97,41,41,41,32,40,112,108,117,115,32,40,120,32]) (List.append [121,41,32,40,99,97,115,101,32,120,32,40,98,111,120,32,112,32,40,99,97,115,101,32,121,32,40,98,111,120,32,113,32,40,110] [101,119,32,98,111,120,32,40,109,101,116,104,111,100,32,97,100,100,32,112,108,117,115,32,112,32,113,41,41,41,41,41,41,41,41])).toArray⟩
abbrev dX:ByteArray:=⟨(List.append [32,40,105,110,115,116,32,115,104,111,119,32,40,97,32,98,41,32,40,112,97,105,114,32,39,97,32,39,98,41,32,40,40,115,104,111,119,32,39,97,41,32,40,115,104,111,119,32,39,98,41,41,32,40,41,32,40,41,32,40,109,32,40] [120,41,32,40,99,97,115,101,32,120,32,40,112,97,105,114,32,121,32,122,32,40,45,32,40,109,101,116,104,111,100,32,115,104,111,119,32,109,32,121,41,32,40,109,101,116,104,111,100,32,115,104,111,119,32,109,32,122,41,41,41,41,41,41]).toArray⟩
abbrev zA:ByteArray:=⟨#[117,110,107,110,111,119,110,45,116,114,97,105,116]⟩
abbrev CB:ByteArray:=⟨#[40,109,101,116,104,111,100,32,115,104,111,119,32,109,32,40,112,97,99,107,32,115,104,111,119,32,51,41,41]⟩
abbrev jO:ByteArray:=⟨(List.append [32,40,105,110,115,116,32,115,104,111,119,32,40,97,41,32,40,108,105,115,116,32,39,97,41,32,40,40,115,104,111,119,32,39,97,41,41,32,40,41,32,40,41,32,40,109,32,40,120,41,32,40,99,97,115,101,32,120,32,40] [110,105,108,32,48,41,32,40,99,111,110,115,32,104,32,116,32,40,43,32,40,109,101,116,104,111,100,32,115,104,111,119,32,109,32,104,41,32,40,109,101,116,104,111,100,32,115,104,111,119,32,109,32,116,41,41,41,41,41,41]).toArray⟩
abbrev oT:ByteArray:=⟨(List.append [32,40,102,110,32,105,100,32,40,97,41,32,40,41,32,40,40,120,32,39,97,41,41,32,39,97,32,120,41,32,40,102,110,32,98,111,116,104,32,40,97,41,32,40,40] [115,104,111,119,32,39,97,41,41,32,40,40,120,32,39,97,41,41,32,105,110,116,32,40,109,101,116,104,111,100,32,115,104,111,119,32,116,119,111,32,120,32,120,41,41]).toArray⟩
abbrev L8:ByteArray:=⟨#[32,40,105,110,115,116,32,115,104,111,119,32,40,41,32,116,97,103,32,40,41,32,40,41,32,40,41,32,40,109,32,40,120,41,32,40,99,97,115,101,32,120,32,40,116,97,103,32,110,32,110,41,32,40,110,111,110,101,32,48,41,41,41,41]⟩
abbrev cW:ByteArray:=⟨(List.append [32,40,100,97,116,97,32,108,105,115,116,32,40,97,41,32,40,110,105,108,41,32,40,99,111,110,115,32,39,97,32,40,108,105,115,116,32,39,97,41,41,41,32,40,100,97,116,97,32,112,97,105,114,32,40,97,32,98,41] [32,40,112,97,105,114,32,39,97,32,39,98,41,41,32,40,100,97,116,97,32,98,111,120,32,40,97,41,32,40,98,111,120,32,39,97,41,41,32,40,100,97,116,97,32,117,110,105,116,32,40,41,32,40,117,110,105,116,41,41]).toArray⟩
abbrev zB:ByteArray:=⟨#[110,111,116,45,100,121,110,45,115,97,102,101]⟩
abbrev L9:ByteArray:=⟨(List.append [32,40,102,110,32,108,101,110,32,40,97,41,32,40,41,32,40,40,120,32,40,108,105,115,116,32,39,97,41,41,41,32,105,110,116,32,40,99,97,115,101] [32,120,32,40,110,105,108,32,48,41,32,40,99,111,110,115,32,104,32,116,32,40,43,32,49,32,40,99,97,108,108,32,108,101,110,32,116,41,41,41,41,41]).toArray⟩
abbrev MA:ByteArray:=⟨#[32,40,105,110,115,116,32,115,104,111,119,32,40,97,41,32,39,97,32,40,40,101,113,32,39,97,41,41,32,40,41,32,40,41,32,40,109,32,40,120,41,32,49,41,41]⟩
abbrev MB:ByteArray:=⟨#[32,40,105,110,115,116,32,115,104,111,119,32,40,41,32,116,97,103,32,40,41,32,40,41,32,40,41,32,40,109,32,40,120,41,32,40,99,97,115,101,32,120,32,40,110,111,110,101,32,48,41,32,40,116,97,103,32,110,32,110,41,41,41,41]⟩
abbrev iT:ByteArray:=⟨#[32,40,105,110,115,116,32,97,100,100,32,40,41,32,105,110,116,32,40,41,32,40,41,32,40,105,110,116,41,32,40,112,108,117,115,32,40,120,32,121,41,32,40,43,32,120,32,121,41,41,41]⟩
abbrev cR:ByteArray:=⟨(List.append (List.append [32,40,116,114,97,105,116,32,101,113,32,40,41,32,40,41,32,40,115,97,109,101,32,40,39,115,101,108,102,41,32,98,111,111,108,41,41,32,40] [116,114,97,105,116,32,111,114,100,32,40,101,113,41,32,40,41,32,40,108,101,115,115,32,40,39,115,101,108,102,41,32,98,111,111,108,41,41,32]) (List.append [40,116,114,97,105,116,32,97,100,100,32,40,41,32,40,97,115,115,111,99,41,32,40,112,108,117,115,32,40,39,115,101,108,102,41,32,40,97,115] [115,111,99,32,97,100,100,32,39,115,101,108,102,41,41,41,32,40,116,114,97,105,116,32,115,101,110,100,32,40,41,32,40,97,117,116,111,41,41])).toArray⟩
abbrev MC:ByteArray:=⟨(List.append [32,40,102,110,32,115,117,109,32,40,97,41,32,40,40,97,100,100,32,39,97,41,41,32,40,40,120,32,39,97,41,32,40,121,32,39,97,41] [41,32,40,97,115,115,111,99,32,97,100,100,32,39,97,41,32,40,109,101,116,104,111,100,32,97,100,100,32,112,108,117,115,32,120,32,121,41,41]).toArray⟩
abbrev fA:ByteArray:=⟨#[40,112,97,99,107,97,103,101,32,97,112,112,32,40,99,111,114,101,41,32,40,100,97,116,97,32,116,97,103,32,40,41,32,40,116,97,103,32,105,110,116,41,32,40,110,111,110,101,41,41]⟩
abbrev fB:ByteArray:=⟨(List.append [32,40,105,110,115,116,32,101,113,32,40,41,32,105,110,116,32,40,41,32,40,41,32,40,41,32,40,115,97,109,101,32,40,120,32,121,41,32,40,61,32,120,32,121,41,41,41] [32,40,105,110,115,116,32,111,114,100,32,40,41,32,105,110,116,32,40,41,32,40,41,32,40,41,32,40,108,101,115,115,32,40,120,32,121,41,32,40,60,32,120,32,121,41,41,41]).toArray⟩
abbrev jP:ByteArray:=⟨(List.append (List.append [32,40,105,110,115,116,32,115,104,111,119,32,40,97,41,32,40,108,105,115,116,32,39,97,41,32,40,41,32,40,100,101,102,97,117,108] [116,41,32,40,41,32,40,109,32,40,120,41,32,55,41,41,32,40,105,110,115,116,32,115,104,111,119,32,40,41,32,40,108,105,115,116,32]) (List.append [105,110,116,41,32,40,41,32,40,41,32,40,41,32,40,109,32,40,120,41,32,40,99,97,115,101,32,120,32,40,110,105,108,32,48,41,32] [40,99,111,110,115,32,104,32,116,32,40,43,32,104,32,40,109,101,116,104,111,100,32,115,104,111,119,32,109,32,116,41,41,41,41,41,41])).toArray⟩
abbrev MD:ByteArray:=⟨#[32,40,105,110,115,116,32,115,104,111,119,32,40,41,32,105,110,116,32,40,41,32,40,41,32,40,41,32,40,109,32,40,120,41,32,57,41,41]⟩
abbrev s_:ByteArray:=⟨#[]⟩
abbrev s_0:ByteArray:=⟨#[48]⟩
abbrev s_A:ByteArray:=⟨#[65]⟩
abbrev hU:ByteArray:=⟨#[97]⟩
abbrev qC:ByteArray:=⟨#[97,98,99,100,101,102,103,104,105]⟩
abbrev kS:ByteArray:=⟨#[97,100,100]⟩
abbrev D0:ByteArray:=⟨#[97,114,105,116,121]⟩
abbrev fX:ByteArray:=⟨#[97,115,115,111,99]⟩
abbrev zP:ByteArray:=⟨#[97,117,116,111]⟩
abbrev E0:ByteArray:=⟨#[98]⟩
abbrev eX:ByteArray:=⟨#[98,111,111,108]⟩
abbrev AQ:ByteArray:=⟨#[98,111,120]⟩
abbrev s_c:ByteArray:=⟨#[99]⟩
abbrev u5:ByteArray:=⟨#[99,97,108,108]⟩
abbrev w7:ByteArray:=⟨#[99,97,115,101]⟩
abbrev cK:ByteArray:=⟨#[99,111,110,115]⟩
abbrev gS:ByteArray:=⟨#[99,111,114,101]⟩
abbrev P3:ByteArray:=⟨#[100,97,116,97]⟩
abbrev u6:ByteArray:=⟨#[100,101,102,97,117,108,116]⟩
abbrev qD:ByteArray:=⟨#[100,117,112,108,105,99,97,116,101]⟩
abbrev xJ:ByteArray:=⟨#[100,121,110]⟩
abbrev wE:ByteArray:=⟨#[101,113]⟩
abbrev s_f:ByteArray:=⟨#[102]⟩
abbrev l8:ByteArray:=⟨#[102,97,108,115,101]⟩
abbrev alJ:ByteArray:=⟨#[102,110]⟩
abbrev s_g:ByteArray:=⟨#[103]⟩
abbrev s_h:ByteArray:=⟨#[104]⟩
abbrev D1:ByteArray:=⟨#[105,102]⟩
abbrev P4:ByteArray:=⟨#[105,110,115,116]⟩
abbrev fC:ByteArray:=⟨#[105,110,116]⟩
abbrev ER:ByteArray:=⟨#[108,101,116]⟩
abbrev cS:ByteArray:=⟨#[108,105,115,116]⟩
abbrev fD:ByteArray:=⟨#[109]⟩
abbrev jD:ByteArray:=⟨#[109,101,116,104,111,100]⟩
abbrev ES:ByteArray:=⟨#[110,101,119]⟩
abbrev gJ:ByteArray:=⟨#[110,105,108]⟩
abbrev agY:ByteArray:=⟨#[111,107]⟩
abbrev VF:ByteArray:=⟨#[111,110,101]⟩
abbrev l6:ByteArray:=⟨#[111,114,100]⟩
abbrev s_p:ByteArray:=⟨#[112]⟩
abbrev w8:ByteArray:=⟨#[112,97,99,107]⟩
abbrev YD:ByteArray:=⟨#[112,97,99,107,97,103,101]⟩
abbrev uG:ByteArray:=⟨#[112,97,105,114]⟩
abbrev s_q:ByteArray:=⟨#[113]⟩
abbrev dH:ByteArray:=⟨#[115,101,108,102]⟩
abbrev bH:ByteArray:=⟨#[115,104,111,119]⟩
abbrev s_t:ByteArray:=⟨#[116]⟩
abbrev YE:ByteArray:=⟨#[116,104,101]⟩
abbrev G2:ByteArray:=⟨#[116,114,97,105,116]⟩
abbrev pK:ByteArray:=⟨#[116,114,117,101]⟩
abbrev fY:ByteArray:=⟨#[116,119,105,99,101]⟩
abbrev jM:ByteArray:=⟨#[117,110,105,116]⟩
abbrev eP:ByteArray:=⟨#[120]⟩
abbrev rF:ByteArray:=⟨#[121]⟩
abbrev amP:ByteArray:=⟨#[10]⟩
abbrev amQ:ByteArray:=⟨#[39]⟩
abbrev AB:ByteArray:=⟨#[41]⟩
abbrev NP:ByteArray:=⟨#[42]⟩
abbrev AC:ByteArray:=⟨#[43]⟩
abbrev E4:ByteArray:=⟨#[45]⟩
abbrev NQ:ByteArray:=⟨#[60]⟩
abbrev NR:ByteArray:=⟨#[61]⟩
abbrev arO:ByteArray:=⟨#[63]⟩
abbrev iS:ByteArray:=⟨#[110,111,45,97,115,115,111,99]⟩
end Go.Proofs.YtpioomclpaiomaaGreat

namespace Go.Proofs.YtpioomclpaiomaaGreat
open Go.RowKit Go.WalkArith Go.IntWalk Go.WideShapes
def GK(a:Int):UInt8:=UInt8.ofNat (a%256).toNat
theorem abY(a:Int):IntKind.wrap .u8 a=((GK a).toNat:Int):=by
 unfold GK IntKind.wrap
 simp [IntKind.bits,IntKind.signed]
 omega
def bytesStr(l:List UInt8):ByteArray:=⟨l.toArray⟩
theorem WJ(l:List UInt8):(bytesStr l).size=l.length:=by simp [bytesStr,ByteArray.size]
theorem WI(l:List UInt8):strOfNums (l.map fun b=>(b.toNat:Int))=bytesStr l:=by
 unfold strOfNums bytesStr
 congr 2
 rw [List.map_map]
 conv=>rhs;rw [← List.map_id l]
 apply List.map_congr_left
 intro b _
 simp
section
variable {P:Program} {C:qM} {n:Nat} {s:AS} {o:Oper}
theorem a3.quoI{T yT:TypeId}{x y:Operand}{a b:Int}(ho:o.op= .binOp .quo T x y yT)(hd:bO o.dst n=true)(hx:s.ev x=some (.t (.leaf (.int .i64 a))))(hy:s.ev y=some (.t (.leaf (.int .i64 b))))(hb:b≠0):
 a3 P C n o s (s.putO o.dst (.t (.leaf (.int .i64 (aQ (a.tdiv b)))))):=a3.bin ho hd hx hy (fun w=>by simp [eqGuard,binOp,Op.intDiv,hb,aQ]) (wf_wrap .i64 _)
theorem a3.remI{T yT:TypeId}{x y:Operand}{a b:Int}(ho:o.op= .binOp .rem T x y yT)(hd:bO o.dst n=true)(hx:s.ev x=some (.t (.leaf (.int .i64 a))))(hy:s.ev y=some (.t (.leaf (.int .i64 b))))(hb:b≠0):
 a3 P C n o s (s.putO o.dst (.t (.leaf (.int .i64 (a.tmod b))))):=
 a3.quiet (c9 hd) fun m ac w h=>by
  obtain⟨h1,h3⟩:=cL.leaf_eq (h.eval hx)
  have h2:=(cL.leaf_eq (h.eval hy)).1
  have h4: -9223372036854775808≤a∧a≤9223372036854775807:=by
   have h5:(Lit.int .i64 a).wf=true:=h3
   simpa [Lit.wf,IntKind.min,IntKind.max,IntKind.bits,IntKind.signed] using h5
  have h6:(a.tmod b).natAbs≤a.natAbs:=by rw [Int.natAbs_tmod];exact Nat.mod_le _ _
  have h7:0≤a→0≤a.tmod b:=fun h=>Int.tmod_nonneg b h
  have h8:a≤0→a.tmod b≤0:=fun h=>by have:=Int.tmod_nonneg b (show 0≤ -a by omega);rw [Int.neg_tmod] at this;omega
  refine⟨.int .i64 (a.tmod b),?_,cL.leaf (wf_i64 (by omega))⟩
  unfold execOp
  simp [ho,h1,h2,eqGuard,binOp,Op.intDiv,hb]
theorem a3.convU8{S T:TypeId}{x:Operand}{k:IntKind}{a:Int}(ho:o.op= .convert S T x)(hd:bO o.dst n=true)(hx:s.ev x=some (.t (.leaf (.int k a))))(hS: ∃k',P.underlying S=some (.int k'))(hT:P.underlying T=some (.int .u8)):
 a3 P C n o s (s.putO o.dst (.t (.leaf (.int .u8 ((GK a).toNat:Int))))):=
 a3.quiet (c9 hd) fun m ac w h=>⟨.int .u8 ((GK a).toNat:Int),by
  have h3:=(cL.leaf_eq (h.eval hx)).1
  obtain⟨k',hS⟩:=hS
  unfold execOp
  simp [ho,h3,convert,run_underlying hS,run_underlying hT,Conv.intToInt,abY],cL.leaf (by rw [← abY];exact wf_wrap .u8 a)⟩
theorem a3.subU8{T yT:TypeId}{x y:Operand}{a b:Int}(ho:o.op= .binOp .sub T x y yT)(hd:bO o.dst n=true)(hx:s.ev x=some (.t (.leaf (.int .u8 a))))(hy:s.ev y=some (.t (.leaf (.int .u8 b)))):
 a3 P C n o s (s.putO o.dst (.t (.leaf (.int .u8 ((GK (a-b)).toNat:Int))))):=by
 rw [← abY]
 exact a3.subW ho hd hx hy
theorem a3.bytesStr{S T e:TypeId}{x:Operand}{p:PV}{l:List UInt8}(ho:o.op= .convert S T x)(hd:bO o.dst n=true)(hx:s.ev x=some p)(hp:nM p=some (1,cM l))(hS:P.underlying S=some (.slice e))(he:P.underlying e=some (.int .u8))(hT:P.underlying T=some .string):
 a3 P C n o s (s.putO o.dst (.t (.leaf (.string (bytesStr l))))):=
 a3.quiet (c9 hd) fun m ac w h=>by
  have h1:=wD hp (h.eval hx)
  obtain⟨a0,cap0,hv0,hl0,hm0⟩:=h1.shape
  rw [iB] at hl0
  have hsz:tU (.string (Go.Proofs.YtpioomclpaiomaaGreat.bytesStr l)):=by show(Go.Proofs.YtpioomclpaiomaaGreat.bytesStr l).size≤maxLen;rw [WJ];omega
  refine⟨.string (Go.Proofs.YtpioomclpaiomaaGreat.bytesStr l),?_,cL.leaf hsz⟩
  generalize hv:ac.eval x=v at*
  cases h1 with
  |row c q1 q2 q3 q4=>
   have keyAll: ∀(a:Option Addr) (cap:Nat) (q3:cM l≠ []→ ∃b off,a=some ⟨b,off,none⟩∧b<w.heap.size∧ ∀(i:Nat) (e:List Tr),(cM l)[i]?=some e→ ∀(j:Nat) (d:Tr),e[j]?=some d→lT C.av s.st m b (off+i*1+j)∧w.cell? ⟨b,off+i*1+j,none⟩=some (c i j)),(convert S T (.slice a (cM l).length cap)).run P w= .ok (.string (Go.Proofs.YtpioomclpaiomaaGreat.bytesStr l)) w:=fun a cap q3=>by
    by_cases hne:l= []
    ·subst hne
     have hlen:(cM []).length=0:=rfl
     rw [hlen]
     cases a with
     |none=>exact run_convert_bytes_nil (P:=P) w S e hS he 0 cap T hT
     |some a=>
      obtain⟨b,off,sp⟩:=a
      have hld:(loadCells ⟨b,off,sp⟩ 0).run P w= .ok (([]:List Int).map (Value.int .u8)).toArray w:=by simp [loadCells,loadCellsFrom]
      rw [run_convert_bytes_string w S T e _ 0 cap hS he hT,run_bytesToString w _ 0 cap [] hld]
      rfl
    ·obtain⟨b,off,ha,hb,hc⟩:=q3 (by intro h0;apply hne;have:=congrArg List.length h0;rw [iB] at this;exact List.eq_nil_of_length_eq_zero this)
     subst ha
     have:=run_convert_bytes_arg (P:=P) w S e hS he b off (cM l).length cap (l.map fun b=>(b.toNat:Int)) (by simp [iB]) (fun i hi=>by
      rw [iB] at hi
      have h4:=(hc i _ (yV hi) 0 (.leaf (.int .u8 ((l[i]).toNat:Int))) rfl).2
      have h5:=(q4 i _ (yV hi) 0 (.leaf (.int .u8 ((l[i]).toNat:Int))) rfl).rep.leaf_eq.1
      rw [Nat.mul_one,Nat.add_zero] at h4
      rw [h4,h5]
      simp [hi]) T hT
     rw [WI] at this
     exact this
   unfold execOp
   simp only [ho,hv]
   rw [Sem.run_bind,keyAll _ _ q3]
   rfl
end
end Go.Proofs.YtpioomclpaiomaaGreat

namespace Go.Proofs.YtpioomclpaiomaaGreat.W
set_option maxRecDepth 100000
set_option maxHeartbeats 40000000
noncomputable section
open Tryz Go.RowKit Go.Proofs
attribute [local irreducible] lt
def Z0(m:ByteArray→UInt8→Option ((LB))):Prop:= ∀(ps:ByteArray) (pby:UInt8) (r:(LB)),m ps pby=some r→b4 Tryz.prog 191 [pS ps,pU pby] (rS r:PV)
def W8(fu:Nat)(ps:ByteArray)(pby:UInt8):((LB)×Int×Int)→Option (LR ((LB)×Int×Int) ((LB))):=
 fun(v4,v2,v3)=>sw (decide (v3≤(ps.size:Int)))
 (sw (decide (v3=(ps.size:Int)))
 (gd ((0:Int)≤v2∧(v2:Int)≤v3∧(v3:Int)≤(ps.size:Int))
 (gd ((v4).length+(([(ps.extract (v2:Int).toNat (v3:Int).toNat)]:LB)).length≤68719476736)
 (some (.next ((v4++([(ps.extract (v2:Int).toNat (v3:Int).toNat)]:LB)),(aQ (v3+1)),(aQ (v3+1)))))))
 (gd (0≤v3∧(v3).toNat<(ps).size)
 (sw (decide ((((C1 ps ((v3).toNat)).toNat:Int):Int)=(pby.toNat:Int)))
 (gd ((0:Int)≤v2∧(v2:Int)≤v3∧(v3:Int)≤(ps.size:Int))
 (gd ((v4).length+(([(ps.extract (v2:Int).toNat (v3:Int).toNat)]:LB)).length≤68719476736)
 (some (.next ((v4++([(ps.extract (v2:Int).toNat (v3:Int).toNat)]:LB)),(aQ (v3+1)),(aQ (v3+1)))))))
 (some (.next (v4,v2,(aQ (v3+1))))))))
 (some (.brk (v4,v2,v3)))
def W9(fu:Nat)(ps:ByteArray)(pby:UInt8):Option (((LB))⊕((LB)×Int×Int)):=
 loopW (W8 fu ps pby) fu (([]),0,0)
def DY(fu:Nat)(ps:ByteArray)(pby:UInt8):Option ((LB)):=
 so (W9 fu ps pby) (fun(v4,v2,v3)=>
 some v4)
theorem XA(fu:Nat):Z0 (DY fu):=by
 intro ps pby r H
 have H:=eE H
 refine qI func191 (fun C hC=>?_)
 refine qW (q1 aE (qN (qW (q1 (uK ([]:LB) b3 lU) (q1 aE (qN (qW (q1 aE (qN ?_)))))))))
 refine qS (qS (qR (q1 aE (qN ?_))))
 refine lD 5 (bC _) (fun hl6=>?_)
 refine EN (σ:=(LB)×Int×Int) (fun(v4,v2,v3)=>⟨[(0,pS ps),(1,pU pby),(4,.nil),(5,aS v4 0),(6,pI v2),(7,pI v3)],⟨[],[⟨9,1,aZ (v4),false⟩]⟩⟩) (fun(v4,v2,v3)=>⟨[(4,.nil),(5,aS v4 0)],⟨[],[⟨9,1,aZ (v4),false⟩]⟩⟩) (fK H) ?_ ?_
 ·rintro k5 ⟨v4,v2,v3⟩ H
  refine qS (qS (qR ?_))
  iterate 2 refine q1 aE ?_
  refine q1 (a3.lenS rfl rfl rfl Tryz.underlying9) (q1 rLe (qN ?_))
  refine a8 H (fun h7 H=>?_) (fun h7 H=>?_)
  ·refine aR.skip (qS (aR.block (qS (qR ?_))))
   iterate 2 refine q1 aE ?_
   refine q1 (a3.lenS rfl rfl rfl Tryz.underlying9) (q1 dM (q1 aE ?_))
   refine eF 19 H (fun g8 H=>?_) fun g8 H=>?_
   ·refine qk g8 ?_
    iterate 4 refine qk g8 ?_
    refine q1 (bV g8) (qN (eL rfl (qS (qR ?_))))
    iterate 4 refine q1 aE ?_
    refine dK H fun z9 H=>(q1 (a3.sliceS (l:=v2) (k:=v3) rfl rfl rfl rfl rfl z9 Tryz.underlying9) (q1 (j9 ([(ps.extract (v2:Int).toNat (v3:Int).toNat)]:LB) b3 lU) (dK H fun z10 H=>(q1 (nV z10 b3 tR) (q1 aE (qN (qR (q1 aE (q1 MZ (q1 aE (qN (qR (q1 aE ?_)))))))))))))
    refine q1 MZ (q1 aE (qN ?_))
    exact X9 ⟨_,(aX H:),bW⟩
   iterate 2 refine qg g8 aE ?_
   refine dK H fun z11 H=>(qg g8 (a3.indexSI (y:=v3) rfl rfl rfl rfl z11.1 z11.2 Tryz.underlying9) (qg g8 aE (qg g8 dM (q1 (b9 g8) (qN ?_)))))
   refine a8 H (fun h12 H=>?_) (fun h12 H=>?_)
   ·refine qS (qR ?_)
    iterate 4 refine q1 aE ?_
    refine dK H fun z13 H=>(q1 (a3.sliceS (l:=v2) (k:=v3) rfl rfl rfl rfl rfl z13 Tryz.underlying9) (q1 (j9 ([(ps.extract (v2:Int).toNat (v3:Int).toNat)]:LB) b3 lU) (dK H fun z14 H=>(q1 (nV z14 b3 tR) (q1 aE (qN (qR (q1 aE (q1 MZ (q1 aE (qN (qR (q1 aE ?_)))))))))))))
    refine q1 MZ (q1 aE (qN ?_))
    exact X9 ⟨_,(aX H:),bW⟩
   refine aR.skip (qR (q1 aE (q1 MZ (q1 aE (qN ?_)))))
   exact X9 ⟨_,(aX H:),bW⟩
  refine aR.exit ?_;exact lwB ⟨_,(aX H:),bW⟩
 rintro⟨v4,v2,v3⟩ H
 refine qS (qR ?_)
 iterate 2 refine q1 aE ?_
 refine qN (aR.ret ?_)
 cases aX H
 exact bE
def al9(m:cP→Option cP):Prop:= ∀(pr:cP) (r:cP),m pr=some r→c6 Tryz.prog 216 [.ptr 0 0] ⟨[some ⟨250,[pS pr.gs,pI pr.gat,pI pr.gdeep,pI pr.gsize,pB pr.gbad]⟩],[]⟩ (fun q t=>q=(.tup []:PV)∧t=⟨[some ⟨250,[pS r.gs,pI r.gat,pI r.gdeep,pI r.gsize,pB r.gbad]⟩],[]⟩)
def VZ(fu:Nat)(pr:cP):Int→Option (LR Int cP):=
 fun v1=>sw (decide (v1<(pr.gs.size:Int)))
 (gd (0≤v1∧(v1).toNat<(pr.gs).size)
 (sw (decide ((((C1 pr.gs ((v1).toNat)).toNat:Int):Int)=32))
 (some (.next (aQ (v1+1))))
 (sw (decide ((((C1 pr.gs ((v1).toNat)).toNat:Int):Int)=10))
 (some (.next (aQ (v1+1))))
 (some (.brk v1)))))
 (some (.brk v1))
def V0(fu:Nat)(pr:cP):Option (cP⊕Int):=
 loopW (VZ fu pr) fu pr.gat
def yM(fu:Nat)(pr:cP):Option cP:=
 so (V0 fu pr) (fun v1=>
 some (cP.mk pr.gs v1 pr.gdeep pr.gsize pr.gbad))
theorem LI(fu:Nat):al9 (yM fu):=by
 intro pr r H
 have H:=eE H
 refine qI func216 (fun C hC=>?_)
 refine EN (σ:=Int) (fun v1=>⟨[(0,.ptr 0 0)],⟨[some ⟨250,[pS pr.gs,pI v1,pI pr.gdeep,pI pr.gsize,pB pr.gbad]⟩],[]⟩⟩) (fun v1=>⟨[],⟨[some ⟨250,[pS pr.gs,pI v1,pI pr.gdeep,pI pr.gsize,pB pr.gbad]⟩],[]⟩⟩) (fK H) ?_ ?_
 ·rintro k2 v1 H
  iterate 2 refine qS ?_
  rcases mA (decide (v1<(pr.gs.size:Int))) with g3|g3
  ·have H:=sE H g3
   refine dK H fun z4 H=>?_
   rcases mA (decide ((((C1 pr.gs ((v1).toNat)).toNat:Int):Int)=32)) with g5|g5
   ·have H:=sE H g5
    refine dW (dI [0] aE (dI [2] q9 (dI [3] (a5 fU) (dD [4] (bD nT) (dI [0] aE (dI [6] q9 (dI [7] (a5 mH) (dD [8] (bD eJ) (dI [9] (a3.lenS rfl rfl rfl Tryz.underlying9) (dI [5,10] gI (dI [11] aE (dI (hg:=a6 g3) [0] aE (dI (hg:=a6 g3) [13] q9 ?_)))))))))))))
    refine dI (hg:=a6 g3) [14] (a5 mH) (dD (hg:=a6 g3) [15] (bD eJ) (dI (hg:=a6 g3) [0] aE (dI (hg:=a6 g3) [17] q9 (dI (hg:=a6 g3) [18] (a5 fU) (dD (hg:=a6 g3) [19] (bD nT) (dI (hg:=a6 g3) [16,20] (a3.indexSI (y:=v1) rfl rfl rfl rfl z4.1 z4.2 Tryz.underlying9) (dI (hg:=a6 g3) [21] dM (dI (hg:=a6 g3) [22] aE ?_))))))))
    iterate 10 refine FE g5 ?_
    refine dI (hg:=a6 g3) [23] (bV g5) (dI [12,34] (bV g3) (dN (eL rfl (aR.skip (aR.block (qR ?_))))))
    iterate 2 refine q1 aE ?_
    refine q1 q9 (q1 (a5 fU) (q1 (bD nT) (q1 MZ (q1 q9 (q1 (a5 fU) (q1 (bR sz3) (qN ?_)))))))
    exact X9 ⟨_,(aX H:),bW⟩
   have H:=sD H g5
   refine dW (dI [0] aE (dI [2] q9 (dI [3] (a5 fU) (dD [4] (bD nT) (dI [0] aE (dI [6] q9 (dI [7] (a5 mH) (dD [8] (bD eJ) (dI [9] (a3.lenS rfl rfl rfl Tryz.underlying9) (dI [5,10] gI (dI [11] aE (dI (hg:=a6 g3) [0] aE (dI (hg:=a6 g3) [13] q9 ?_)))))))))))))
   refine dI (hg:=a6 g3) [14] (a5 mH) (dD (hg:=a6 g3) [15] (bD eJ) (dI (hg:=a6 g3) [0] aE (dI (hg:=a6 g3) [17] q9 (dI (hg:=a6 g3) [18] (a5 fU) (dD (hg:=a6 g3) [19] (bD nT) (dI (hg:=a6 g3) [16,20] (a3.indexSI (y:=v1) rfl rfl rfl rfl z4.1 z4.2 Tryz.underlying9) (dI (hg:=a6 g3) [21] dM (dI (hg:=a6 g3) [22] aE (dI (hg:=a6 g5) [0] aE (dI (hg:=a6 g5) [24] q9 (dI (hg:=a6 g5) [25] (a5 mH) (dD (hg:=a6 g5) [26] (bD eJ) (dI (hg:=a6 g5) [0] aE ?_)))))))))))))
   refine dI (hg:=a6 g5) [28] q9 (dI (hg:=a6 g5) [29] (a5 fU) (dD (hg:=a6 g5) [30] (bD nT) (dI (hg:=a6 g5) [27,31] (a3.indexSI (y:=v1) rfl rfl rfl rfl z4.1 z4.2 Tryz.underlying9) (dI (hg:=a6 g5) [32] dM (dI (hg:=a6 g3) [23,33] (b9 g5) (dI [12,34] (bV g3) (dN ?_)))))))
   refine a8 H (fun h6 H=>?_) (fun h6 H=>?_)
   ·refine aR.skip (aR.block (qR ?_))
    iterate 2 refine q1 aE ?_
    refine q1 q9 (q1 (a5 fU) (q1 (bD nT) (q1 MZ (q1 q9 (q1 (a5 fU) (q1 (bR sz3) (qN ?_)))))))
    exact X9 ⟨_,(aX H:),bW⟩
   refine aR.exit ?_;exact lwB ⟨_,(aX H:),bW⟩
  have H:=sD H g3
  refine dW (dI [0] aE (dI [2] q9 (dI [3] (a5 fU) (dD [4] (bD nT) (dI [0] aE (dI [6] q9 (dI [7] (a5 mH) (dD [8] (bD eJ) (dI [9] (a3.lenS rfl rfl rfl Tryz.underlying9) (dI [5,10] gI (dI [11] aE ?_)))))))))))
  iterate 11 refine FE g3 ?_
  iterate 10 refine dSu ?_
  refine FE g3 (dI [12] (b9 g3) (dN (jR rfl (aR.exit ?_))))
  exact lwB ⟨_,(aX H:),bW⟩
 rintro v1 H
 cases aX H
 exact qe (ps:= []) ⟨rfl,rfl⟩ trivial
def al5(m:UInt8→Option Bool):Prop:= ∀(px:UInt8) (r:Bool),m px=some r→b4 Tryz.prog 226 [pU px] (pB r:PV)
def G7(fu:Nat)(px:UInt8):Option Bool:=
 sw (decide ((px.toNat:Int)≥97))
 (sw (decide ((px.toNat:Int)≤122))
 (some true)
 (sw (decide ((px.toNat:Int)≥48))
 (sw (decide ((px.toNat:Int)≤57))
 (some true)
 (sw (decide ((px.toNat:Int)=39))
 (some true)
 (sw (decide ((px.toNat:Int)=45))
 (some true)
 (sw (decide ((px.toNat:Int)=43))
 (some true)
 (sw (decide ((px.toNat:Int)=42))
 (some true)
 (sw (decide ((px.toNat:Int)=60))
 (some true)
 (sw (decide ((px.toNat:Int)=61))
 (some true)
 (some (decide ((px.toNat:Int)=46))))))))))
 (sw (decide ((px.toNat:Int)=39))
 (some true)
 (sw (decide ((px.toNat:Int)=45))
 (some true)
 (sw (decide ((px.toNat:Int)=43))
 (some true)
 (sw (decide ((px.toNat:Int)=42))
 (some true)
 (sw (decide ((px.toNat:Int)=60))
 (some true)
 (sw (decide ((px.toNat:Int)=61))
 (some true)
 (some (decide ((px.toNat:Int)=46)))))))))))
 (sw (decide ((px.toNat:Int)≥48))
 (sw (decide ((px.toNat:Int)≤57))
 (some true)
 (sw (decide ((px.toNat:Int)=39))
 (some true)
 (sw (decide ((px.toNat:Int)=45))
 (some true)
 (sw (decide ((px.toNat:Int)=43))
 (some true)
 (sw (decide ((px.toNat:Int)=42))
 (some true)
 (sw (decide ((px.toNat:Int)=60))
 (some true)
 (sw (decide ((px.toNat:Int)=61))
 (some true)
 (some (decide ((px.toNat:Int)=46))))))))))
 (sw (decide ((px.toNat:Int)=39))
 (some true)
 (sw (decide ((px.toNat:Int)=45))
 (some true)
 (sw (decide ((px.toNat:Int)=43))
 (some true)
 (sw (decide ((px.toNat:Int)=42))
 (some true)
 (sw (decide ((px.toNat:Int)=60))
 (some true)
 (sw (decide ((px.toNat:Int)=61))
 (some true)
 (some (decide ((px.toNat:Int)=46))))))))))
theorem VU(fu:Nat):al5 (G7 fu):=by
 intro px r H
 have H:=eE H
 refine qI func226 (fun C hC=>?_)
 refine qW (q1 aE (qN (qW (q1 aE (q1 S8 (q1 aE ?_))))))
 refine eF 5 H (fun g1 H=>?_) fun g1 H=>?_
 ·refine qg g1 aE (qg g1 rLe (q1 (bV g1) (q1 aE ?_)))
  refine eF 9 H (fun g2 H=>?_) fun g2 H=>?_
  ·refine qk g2 ?_
   iterate 2 refine qk g2 ?_
   iterate 2 refine MY ?_
   refine qk g2 (q1 (bV g2) (q1 aE ?_))
   iterate 2 refine qk rfl ?_
   refine q1 (bV rfl) (q1 aE ?_)
   iterate 2 refine qk rfl ?_
   refine q1 (bV rfl) (q1 aE ?_)
   iterate 2 refine qk rfl ?_
   refine q1 (bV rfl) (q1 aE ?_)
   iterate 2 refine qk rfl ?_
   refine q1 (bV rfl) (q1 aE ?_)
   iterate 2 refine qk rfl ?_
   refine q1 (bV rfl) (q1 aE ?_)
   iterate 2 refine qk rfl ?_
   refine q1 (bV rfl) (q1 aE ?_)
   iterate 2 refine qk rfl ?_
   refine q1 (bV rfl) (q1 aE (qZ ?_))
   cases aX H
   exact bE
  refine qg g2 aE (qg g2 S8 (qg g2 aE ?_))
  refine eF 12 H (fun g3 H=>?_) fun g3 H=>?_
  ·refine qg g3 aE (qg g3 rLe (qg g2 (bV g3) (q1 (b9 g2) (q1 aE ?_))))
   refine eF 17 H (fun g4 H=>?_) fun g4 H=>?_
   ·refine qk g4 (qk g4 (q1 (bV g4) (q1 aE ?_)))
    iterate 2 refine qk rfl ?_
    refine q1 (bV rfl) (q1 aE ?_)
    iterate 2 refine qk rfl ?_
    refine q1 (bV rfl) (q1 aE ?_)
    iterate 2 refine qk rfl ?_
    refine q1 (bV rfl) (q1 aE ?_)
    iterate 2 refine qk rfl ?_
    refine q1 (bV rfl) (q1 aE ?_)
    iterate 2 refine qk rfl ?_
    refine q1 (bV rfl) (q1 aE ?_)
    iterate 2 refine qk rfl ?_
    refine q1 (bV rfl) (q1 aE (qZ ?_))
    cases aX H
    exact bE
   refine qg g4 aE (qg g4 dM (q1 (b9 g4) (q1 aE ?_)))
   refine eF 21 H (fun g5 H=>?_) fun g5 H=>?_
   ·refine qk g5 (qk g5 (q1 (bV g5) (q1 aE ?_)))
    iterate 2 refine qk rfl ?_
    refine q1 (bV rfl) (q1 aE ?_)
    iterate 2 refine qk rfl ?_
    refine q1 (bV rfl) (q1 aE ?_)
    iterate 2 refine qk rfl ?_
    refine q1 (bV rfl) (q1 aE ?_)
    iterate 2 refine qk rfl ?_
    refine q1 (bV rfl) (q1 aE ?_)
    iterate 2 refine qk rfl ?_
    refine q1 (bV rfl) (q1 aE (qZ ?_))
    cases aX H
    exact bE
   refine qg g5 aE (qg g5 dM (q1 (b9 g5) (q1 aE ?_)))
   refine eF 25 H (fun g6 H=>?_) fun g6 H=>?_
   ·refine qk g6 (qk g6 (q1 (bV g6) (q1 aE ?_)))
    iterate 2 refine qk rfl ?_
    refine q1 (bV rfl) (q1 aE ?_)
    iterate 2 refine qk rfl ?_
    refine q1 (bV rfl) (q1 aE ?_)
    iterate 2 refine qk rfl ?_
    refine q1 (bV rfl) (q1 aE ?_)
    iterate 2 refine qk rfl ?_
    refine q1 (bV rfl) (q1 aE (qZ ?_))
    cases aX H
    exact bE
   refine qg g6 aE (qg g6 dM (q1 (b9 g6) (q1 aE ?_)))
   refine eF 29 H (fun g7 H=>?_) fun g7 H=>?_
   ·refine qk g7 (qk g7 (q1 (bV g7) (q1 aE ?_)))
    iterate 2 refine qk rfl ?_
    refine q1 (bV rfl) (q1 aE ?_)
    iterate 2 refine qk rfl ?_
    refine q1 (bV rfl) (q1 aE ?_)
    iterate 2 refine qk rfl ?_
    refine q1 (bV rfl) (q1 aE (qZ ?_))
    cases aX H
    exact bE
   refine qg g7 aE (qg g7 dM (q1 (b9 g7) (q1 aE ?_)))
   refine eF 33 H (fun g8 H=>?_) fun g8 H=>?_
   ·refine qk g8 (qk g8 (q1 (bV g8) (q1 aE ?_)))
    iterate 2 refine qk rfl ?_
    refine q1 (bV rfl) (q1 aE ?_)
    iterate 2 refine qk rfl ?_
    refine q1 (bV rfl) (q1 aE (qZ ?_))
    cases aX H
    exact bE
   refine qg g8 aE (qg g8 dM (q1 (b9 g8) (q1 aE ?_)))
   refine eF 37 H (fun g9 H=>?_) fun g9 H=>?_
   ·refine qk g9 (qk g9 (q1 (bV g9) (q1 aE ?_)))
    iterate 2 refine qk rfl ?_
    refine q1 (bV rfl) (q1 aE (qZ ?_))
    cases aX H
    exact bE
   refine qg g9 aE (qg g9 dM (q1 (b9 g9) (q1 aE ?_)))
   refine eF 41 H (fun g10 H=>?_) fun g10 H=>?_
   ·refine qk g10 (qk g10 (q1 (bV g10) (q1 aE (qZ ?_))))
    cases aX H
    exact bE
   refine qg g10 aE (qg g10 dM (q1 (b9 g10) (q1 aE (qZ ?_))))
   cases aX H
   exact bE
  iterate 2 refine qk g3 ?_
  refine qg g2 (b9 g3) (q1 (b9 g2) (q1 aE (qg rfl aE (qg rfl dM (q1 (b9 rfl) (q1 aE ?_))))))
  refine eF 21 H (fun g11 H=>?_) fun g11 H=>?_
  ·refine qk g11 (qk g11 (q1 (bV g11) (q1 aE ?_)))
   iterate 2 refine qk rfl ?_
   refine q1 (bV rfl) (q1 aE ?_)
   iterate 2 refine qk rfl ?_
   refine q1 (bV rfl) (q1 aE ?_)
   iterate 2 refine qk rfl ?_
   refine q1 (bV rfl) (q1 aE ?_)
   iterate 2 refine qk rfl ?_
   refine q1 (bV rfl) (q1 aE ?_)
   iterate 2 refine qk rfl ?_
   refine q1 (bV rfl) (q1 aE (qZ ?_))
   cases aX H
   exact bE
  refine qg g11 aE (qg g11 dM (q1 (b9 g11) (q1 aE ?_)))
  refine eF 25 H (fun g12 H=>?_) fun g12 H=>?_
  ·refine qk g12 (qk g12 (q1 (bV g12) (q1 aE ?_)))
   iterate 2 refine qk rfl ?_
   refine q1 (bV rfl) (q1 aE ?_)
   iterate 2 refine qk rfl ?_
   refine q1 (bV rfl) (q1 aE ?_)
   iterate 2 refine qk rfl ?_
   refine q1 (bV rfl) (q1 aE ?_)
   iterate 2 refine qk rfl ?_
   refine q1 (bV rfl) (q1 aE (qZ ?_))
   cases aX H
   exact bE
  refine qg g12 aE (qg g12 dM (q1 (b9 g12) (q1 aE ?_)))
  refine eF 29 H (fun g13 H=>?_) fun g13 H=>?_
  ·refine qk g13 (qk g13 (q1 (bV g13) (q1 aE ?_)))
   iterate 2 refine qk rfl ?_
   refine q1 (bV rfl) (q1 aE ?_)
   iterate 2 refine qk rfl ?_
   refine q1 (bV rfl) (q1 aE ?_)
   iterate 2 refine qk rfl ?_
   refine q1 (bV rfl) (q1 aE (qZ ?_))
   cases aX H
   exact bE
  refine qg g13 aE (qg g13 dM (q1 (b9 g13) (q1 aE ?_)))
  refine eF 33 H (fun g14 H=>?_) fun g14 H=>?_
  ·refine qk g14 (qk g14 (q1 (bV g14) (q1 aE ?_)))
   iterate 2 refine qk rfl ?_
   refine q1 (bV rfl) (q1 aE ?_)
   iterate 2 refine qk rfl ?_
   refine q1 (bV rfl) (q1 aE (qZ ?_))
   cases aX H
   exact bE
  refine qg g14 aE (qg g14 dM (q1 (b9 g14) (q1 aE ?_)))
  refine eF 37 H (fun g15 H=>?_) fun g15 H=>?_
  ·refine qk g15 (qk g15 (q1 (bV g15) (q1 aE ?_)))
   iterate 2 refine qk rfl ?_
   refine q1 (bV rfl) (q1 aE (qZ ?_))
   cases aX H
   exact bE
  refine qg g15 aE (qg g15 dM (q1 (b9 g15) (q1 aE ?_)))
  refine eF 41 H (fun g16 H=>?_) fun g16 H=>?_
  ·refine qk g16 (qk g16 (q1 (bV g16) (q1 aE (qZ ?_))))
   cases aX H
   exact bE
  refine qg g16 aE (qg g16 dM (q1 (b9 g16) (q1 aE (qZ ?_))))
  cases aX H
  exact bE
 iterate 2 refine qk g1 ?_
 refine q1 (b9 g1) (q1 aE (qg rfl aE (qg rfl S8 (qg rfl aE ?_))))
 refine eF 12 H (fun g17 H=>?_) fun g17 H=>?_
 ·refine qg g17 aE (qg g17 rLe (qg rfl (bV g17) (q1 (b9 rfl) (q1 aE ?_))))
  refine eF 17 H (fun g18 H=>?_) fun g18 H=>?_
  ·refine qk g18 (qk g18 (q1 (bV g18) (q1 aE ?_)))
   iterate 2 refine qk rfl ?_
   refine q1 (bV rfl) (q1 aE ?_)
   iterate 2 refine qk rfl ?_
   refine q1 (bV rfl) (q1 aE ?_)
   iterate 2 refine qk rfl ?_
   refine q1 (bV rfl) (q1 aE ?_)
   iterate 2 refine qk rfl ?_
   refine q1 (bV rfl) (q1 aE ?_)
   iterate 2 refine qk rfl ?_
   refine q1 (bV rfl) (q1 aE ?_)
   iterate 2 refine qk rfl ?_
   refine q1 (bV rfl) (q1 aE (qZ ?_))
   cases aX H
   exact bE
  refine qg g18 aE (qg g18 dM (q1 (b9 g18) (q1 aE ?_)))
  refine eF 21 H (fun g19 H=>?_) fun g19 H=>?_
  ·refine qk g19 (qk g19 (q1 (bV g19) (q1 aE ?_)))
   iterate 2 refine qk rfl ?_
   refine q1 (bV rfl) (q1 aE ?_)
   iterate 2 refine qk rfl ?_
   refine q1 (bV rfl) (q1 aE ?_)
   iterate 2 refine qk rfl ?_
   refine q1 (bV rfl) (q1 aE ?_)
   iterate 2 refine qk rfl ?_
   refine q1 (bV rfl) (q1 aE ?_)
   iterate 2 refine qk rfl ?_
   refine q1 (bV rfl) (q1 aE (qZ ?_))
   cases aX H
   exact bE
  refine qg g19 aE (qg g19 dM (q1 (b9 g19) (q1 aE ?_)))
  refine eF 25 H (fun g20 H=>?_) fun g20 H=>?_
  ·refine qk g20 (qk g20 (q1 (bV g20) (q1 aE ?_)))
   iterate 2 refine qk rfl ?_
   refine q1 (bV rfl) (q1 aE ?_)
   iterate 2 refine qk rfl ?_
   refine q1 (bV rfl) (q1 aE ?_)
   iterate 2 refine qk rfl ?_
   refine q1 (bV rfl) (q1 aE ?_)
   iterate 2 refine qk rfl ?_
   refine q1 (bV rfl) (q1 aE (qZ ?_))
   cases aX H
   exact bE
  refine qg g20 aE (qg g20 dM (q1 (b9 g20) (q1 aE ?_)))
  refine eF 29 H (fun g21 H=>?_) fun g21 H=>?_
  ·refine qk g21 (qk g21 (q1 (bV g21) (q1 aE ?_)))
   iterate 2 refine qk rfl ?_
   refine q1 (bV rfl) (q1 aE ?_)
   iterate 2 refine qk rfl ?_
   refine q1 (bV rfl) (q1 aE ?_)
   iterate 2 refine qk rfl ?_
   refine q1 (bV rfl) (q1 aE (qZ ?_))
   cases aX H
   exact bE
  refine qg g21 aE (qg g21 dM (q1 (b9 g21) (q1 aE ?_)))
  refine eF 33 H (fun g22 H=>?_) fun g22 H=>?_
  ·refine qk g22 (qk g22 (q1 (bV g22) (q1 aE ?_)))
   iterate 2 refine qk rfl ?_
   refine q1 (bV rfl) (q1 aE ?_)
   iterate 2 refine qk rfl ?_
   refine q1 (bV rfl) (q1 aE (qZ ?_))
   cases aX H
   exact bE
  refine qg g22 aE (qg g22 dM (q1 (b9 g22) (q1 aE ?_)))
  refine eF 37 H (fun g23 H=>?_) fun g23 H=>?_
  ·refine qk g23 (qk g23 (q1 (bV g23) (q1 aE ?_)))
   iterate 2 refine qk rfl ?_
   refine q1 (bV rfl) (q1 aE (qZ ?_))
   cases aX H
   exact bE
  refine qg g23 aE (qg g23 dM (q1 (b9 g23) (q1 aE ?_)))
  refine eF 41 H (fun g24 H=>?_) fun g24 H=>?_
  ·refine qk g24 (qk g24 (q1 (bV g24) (q1 aE (qZ ?_))))
   cases aX H
   exact bE
  refine qg g24 aE (qg g24 dM (q1 (b9 g24) (q1 aE (qZ ?_))))
  cases aX H
  exact bE
 iterate 2 refine qk g17 ?_
 refine qg rfl (b9 g17) (q1 (b9 rfl) (q1 aE (qg rfl aE (qg rfl dM (q1 (b9 rfl) (q1 aE ?_))))))
 refine eF 21 H (fun g25 H=>?_) fun g25 H=>?_
 ·refine qk g25 (qk g25 (q1 (bV g25) (q1 aE ?_)))
  iterate 2 refine qk rfl ?_
  refine q1 (bV rfl) (q1 aE ?_)
  iterate 2 refine qk rfl ?_
  refine q1 (bV rfl) (q1 aE ?_)
  iterate 2 refine qk rfl ?_
  refine q1 (bV rfl) (q1 aE ?_)
  iterate 2 refine qk rfl ?_
  refine q1 (bV rfl) (q1 aE ?_)
  iterate 2 refine qk rfl ?_
  refine q1 (bV rfl) (q1 aE (qZ ?_))
  cases aX H
  exact bE
 refine qg g25 aE (qg g25 dM (q1 (b9 g25) (q1 aE ?_)))
 refine eF 25 H (fun g26 H=>?_) fun g26 H=>?_
 ·refine qk g26 (qk g26 (q1 (bV g26) (q1 aE ?_)))
  iterate 2 refine qk rfl ?_
  refine q1 (bV rfl) (q1 aE ?_)
  iterate 2 refine qk rfl ?_
  refine q1 (bV rfl) (q1 aE ?_)
  iterate 2 refine qk rfl ?_
  refine q1 (bV rfl) (q1 aE ?_)
  iterate 2 refine qk rfl ?_
  refine q1 (bV rfl) (q1 aE (qZ ?_))
  cases aX H
  exact bE
 refine qg g26 aE (qg g26 dM (q1 (b9 g26) (q1 aE ?_)))
 refine eF 29 H (fun g27 H=>?_) fun g27 H=>?_
 ·refine qk g27 (qk g27 (q1 (bV g27) (q1 aE ?_)))
  iterate 2 refine qk rfl ?_
  refine q1 (bV rfl) (q1 aE ?_)
  iterate 2 refine qk rfl ?_
  refine q1 (bV rfl) (q1 aE ?_)
  iterate 2 refine qk rfl ?_
  refine q1 (bV rfl) (q1 aE (qZ ?_))
  cases aX H
  exact bE
 refine qg g27 aE (qg g27 dM (q1 (b9 g27) (q1 aE ?_)))
 refine eF 33 H (fun g28 H=>?_) fun g28 H=>?_
 ·refine qk g28 (qk g28 (q1 (bV g28) (q1 aE ?_)))
  iterate 2 refine qk rfl ?_
  refine q1 (bV rfl) (q1 aE ?_)
  iterate 2 refine qk rfl ?_
  refine q1 (bV rfl) (q1 aE (qZ ?_))
  cases aX H
  exact bE
 refine qg g28 aE (qg g28 dM (q1 (b9 g28) (q1 aE ?_)))
 refine eF 37 H (fun g29 H=>?_) fun g29 H=>?_
 ·refine qk g29 (qk g29 (q1 (bV g29) (q1 aE ?_)))
  iterate 2 refine qk rfl ?_
  refine q1 (bV rfl) (q1 aE (qZ ?_))
  cases aX H
  exact bE
 refine qg g29 aE (qg g29 dM (q1 (b9 g29) (q1 aE ?_)))
 refine eF 41 H (fun g30 H=>?_) fun g30 H=>?_
 ·refine qk g30 (qk g30 (q1 (bV g30) (q1 aE (qZ ?_))))
  cases aX H
  exact bE
 refine qg g30 aE (qg g30 dM (q1 (b9 g30) (q1 aE (qZ ?_))))
 cases aX H
 exact bE
abbrev tN:=cP→Option (aA×cP)
def HC(m:tN):Prop:= ∀(pq0:cP) (r:aA×cP),m pq0=some r→c6 Tryz.prog 215 [.ptr 0 0] ⟨[some ⟨250,[pS pq0.gs,pI pq0.gat,pI pq0.gdeep,pI pq0.gsize,pB pq0.gbad]⟩],[]⟩ (fun q t=>q=((aA.pv r.1):PV)∧t=⟨[some ⟨250,[pS r.2.gs,pI r.2.gat,pI r.2.gdeep,pI r.2.gsize,pB r.2.gbad]⟩],[]⟩)
def VV(fu:Nat)(r_sl2Read:tN)(pq0 x2:cP):Int→Option (LR Int (aA×cP)):=
 fun v5=>sw (decide (v5<(x2.gs.size:Int)))
 (gd (0≤v5∧(v5).toNat<(x2.gs).size)
 (bd (G7 fu (C1 x2.gs ((v5).toNat))) (fun x10=>
 sw (x10)
 (some (.next (aQ (v5+1))))
 (some (.brk v5)))))
 (some (.brk v5))
def VX(fu:Nat)(r_sl2Read:tN)(pq0 x2:cP):Option ((aA×cP)⊕Int):=
 loopW (VV fu r_sl2Read pq0 x2) fu x2.gat
def VW(fu:Nat)(r_sl2Read:tN)(pq0 x2:cP)(v5:Int):(ByteArray×Int×Int×Int×Bool×(List aA))→Option (LR (ByteArray×Int×Int×Int×Bool×(List aA)) (aA×cP)):=
 fun(v17,v18,v19,v20,v21,v23)=>sw (!(v21))
 (bd (yM fu (cP.mk v17 v18 v19 v20 v21)) (fun x27=>
 sw (decide (x27.gat<(x27.gs.size:Int)))
 (gd (0≤x27.gat∧(x27.gat).toNat<(x27.gs).size)
 (sw (decide ((((C1 x27.gs ((x27.gat).toNat)).toNat:Int):Int)=41))
 (some (.ret ((aA.mk s_ v23),(cP.mk x27.gs (aQ (x27.gat+1)) (aQ (x27.gdeep-1)) x27.gsize x27.gbad))))
 (bd (r_sl2Read x27) (fun(x32,x33)=>
 gd ((v23).length+(([x32]:List aA)).length≤68719476736)
 (some (.next (x33.gs,x33.gat,x33.gdeep,x33.gsize,x33.gbad,(v23++([x32]:List aA)))))))))
 (bd (r_sl2Read x27) (fun(x36,x37)=>
 gd ((v23).length+(([x36]:List aA)).length≤68719476736)
 (some (.next (x37.gs,x37.gat,x37.gdeep,x37.gsize,x37.gbad,(v23++([x36]:List aA)))))))))
 (some (.brk (v17,v18,v19,v20,v21,v23)))
def VY(fu:Nat)(r_sl2Read:tN)(pq0 x2:cP)(v5:Int):Option ((aA×cP)⊕(ByteArray×Int×Int×Int×Bool×(List aA))):=
 loopW (VW fu r_sl2Read pq0 x2 v5) fu (x2.gs,(aQ (v5+1)),(aQ (x2.gdeep+1)),(aQ (x2.gsize+1)),x2.gbad,([]))
def HA(fu:Nat)(r_sl2Read:tN)(pq0:cP):Option (aA×cP):=
 bd (yM fu pq0) (fun x2=>
 sw (decide (x2.gat≥(x2.gs.size:Int)))
 (some ((aA.mk s_ []),(cP.mk x2.gs x2.gat x2.gdeep (aQ (x2.gsize+1)) true)))
 (sw (decide ((aQ (x2.gsize+1):Int)>900))
 (some ((aA.mk s_ []),(cP.mk x2.gs x2.gat x2.gdeep (aQ (x2.gsize+1)) true)))
 (so (VX fu r_sl2Read pq0 x2) (fun v5=>
 sw (decide (v5>x2.gat))
 (gd ((0:Int)≤x2.gat∧(x2.gat:Int)≤v5∧(v5:Int)≤(x2.gs.size:Int))
 (some ((aA.mk (x2.gs.extract (x2.gat:Int).toNat (v5:Int).toNat) []),(cP.mk x2.gs v5 x2.gdeep (aQ (x2.gsize+1)) x2.gbad))))
 (gd (0≤v5∧(v5).toNat<(x2.gs).size)
 (sw (!decide ((((C1 x2.gs ((v5).toNat)).toNat:Int):Int)=40))
 (some ((aA.mk s_ []),(cP.mk x2.gs v5 x2.gdeep (aQ (x2.gsize+1)) true)))
 (sw (decide (x2.gdeep=14))
 (some ((aA.mk s_ []),(cP.mk x2.gs v5 x2.gdeep (aQ (x2.gsize+1)) true)))
 (so (VY fu r_sl2Read pq0 x2 v5) (fun(v17,v18,v19,v20,v21,v23)=>
 some ((aA.mk s_ v23),(cP.mk v17 v18 v19 v20 v21)))))))))))
theorem abH(fu:Nat)(r_sl2Read:tN)(h_sl2Read:HC r_sl2Read):HC (HA fu r_sl2Read):=by
 intro pq0 r H
 have H:=eE H
 refine qI func215 (fun C hC=>?_)
 refine qW (q1 (fO cD) (qN (qW (q1 aE (bI H fun x2 z1 H=>(q1 (iF [0] [] func216 (LI fu pq0 _ z1)) (qN (qS (qR ?_)))))))))
 iterate 2 refine q1 aE ?_
 refine q1 q9 (q1 (a5 ZA) (q1 (bD nT) (q1 MZ (q1 q9 (q1 (a5 ZA) (q1 (bR sz3) (qN ?_)))))))
 iterate 2 refine qS ?_
 rcases mA (decide (x2.gat≥(x2.gs.size:Int))) with g3|g3
 ·have H:=sE H g3
  refine dW (dI [0] aE (dI [15] q9 (dI [16] (a5 fU) (dD [17] (bD nT) (dI [0] aE (dI [19] q9 (dI [20] (a5 mH) (dD [21] (bD eJ) (dI [22] (a3.lenS rfl rfl rfl Tryz.underlying9) (dI [18,23] S8 (dI [24] aE ?_)))))))))))
  iterate 5 refine FE g3 ?_
  refine dI [25] (bV g3) (dN (eL rfl (qW (q1 aE (q1 q9 (q1 (a5 GU) (q1 (bR sz4) (qN (qW (q1 (gW cD nL) (q1 (bR eO) ?_)))))))))))
  refine qN (aR.ret ?_)
  cases aX H
  exact bE (hr:=⟨⟨_,_,_,rfl,rfl,bU,rfl,rfl⟩,trivial⟩)
 have H:=sD H g3
 refine dW (dI [0] aE (dI [15] q9 (dI [16] (a5 fU) (dD [17] (bD nT) (dI [0] aE (dI [19] q9 (dI [20] (a5 mH) (dD [21] (bD eJ) (dI [22] (a3.lenS rfl rfl rfl Tryz.underlying9) (dI [18,23] S8 (dI [24] aE (dI (hg:=a6 g3) [0] aE (dI (hg:=a6 g3) [26] q9 ?_)))))))))))))
 refine dI (hg:=a6 g3) [27] (a5 ZA) (dD (hg:=a6 g3) [28] (bD nT) (dI (hg:=a6 g3) [29] KL (dI [25,30] (b9 g3) (dN ?_))))
 refine a8 H (fun h4 H=>?_) (fun h4 H=>?_)
 ·refine qW (q1 aE (q1 q9 (q1 (a5 GU) (q1 (bR sz4) (qN (qW (q1 (gW cD nL) (q1 (bR eO) (qZ ?_)))))))))
  cases aX H
  exact bE (hr:=⟨⟨_,_,_,rfl,rfl,bU,rfl,rfl⟩,trivial⟩)
 refine aR.skip (qW (q1 aE (q1 q9 (q1 (a5 fU) (q1 (bD nT) (q1 aE (qN (qS ?_))))))))
 refine EN (σ:=Int) (fun v5=>⟨[(0,.ptr 0 0),(2,.ptr 1 0),(3,pI x2.gat)],⟨[some ⟨250,[pS x2.gs,pI v5,pI x2.gdeep,pI (aQ (x2.gsize+1)),pB x2.gbad]⟩,some ⟨237,[pS s_,.nil]⟩],[]⟩⟩) (fun v5=>⟨[(0,.ptr 0 0),(2,.ptr 1 0),(3,pI x2.gat)],⟨[some ⟨250,[pS x2.gs,pI v5,pI x2.gdeep,pI (aQ (x2.gsize+1)),pB x2.gbad]⟩,some ⟨237,[pS s_,.nil]⟩],[]⟩⟩) (fK H) ?_ ?_
 ·rintro k6 v5 H
  iterate 2 refine qS ?_
  rcases mA (decide (v5<(x2.gs.size:Int))) with g7|g7
  ·have H:=sE H g7
   refine dK H fun z8 H=>(bI H fun x10 z9 H=>(dW (dI [0] aE (dI [40] q9 (dI [41] (a5 fU) (dD [42] (bD nT) (dI [0] aE (dI [44] q9 (dI [45] (a5 mH) (dD [46] (bD eJ) (dI [47] (a3.lenS rfl rfl rfl Tryz.underlying9) (dI [43,48] gI (dI [49] aE ?_)))))))))))))
   refine dI (hg:=a6 g7) [0] aE (dI (hg:=a6 g7) [51] q9 (dI (hg:=a6 g7) [52] (a5 mH) (dD (hg:=a6 g7) [53] (bD eJ) (dI (hg:=a6 g7) [0] aE (dI (hg:=a6 g7) [55] q9 (dI (hg:=a6 g7) [56] (a5 fU) (dD (hg:=a6 g7) [57] (bD nT) (dI (hg:=a6 g7) [54,58] (a3.indexSI (y:=v5) rfl rfl rfl rfl z8.1 z8.2 Tryz.underlying9) (dI (hg:=a6 g7) [59] (bG func226 (VU fu (C1 x2.gs ((v5).toNat)) _ z9)) (dI [50,60] (bV g7) (dN ?_)))))))))))
   refine a8 H (fun h11 H=>?_) (fun h11 H=>?_)
   ·refine aR.skip (aR.block (qR ?_))
    iterate 2 refine q1 aE ?_
    refine q1 q9 (q1 (a5 fU) (q1 (bD nT) (q1 MZ (q1 q9 (q1 (a5 fU) (q1 (bR sz3) (qN ?_)))))))
    exact X9 ⟨_,(aX H:),bW⟩
   refine aR.exit ?_;exact lwB ⟨_,(aX H:),bW⟩
  have H:=sD H g7
  refine dW (dI [0] aE (dI [40] q9 (dI [41] (a5 fU) (dD [42] (bD nT) (dI [0] aE (dI [44] q9 (dI [45] (a5 mH) (dD [46] (bD eJ) (dI [47] (a3.lenS rfl rfl rfl Tryz.underlying9) (dI [43,48] gI (dI [49] aE ?_)))))))))))
  iterate 10 refine FE g7 ?_
  refine dI [50] (b9 g7) (dN (jR rfl (aR.exit ?_)))
  exact lwB ⟨_,(aX H:),bW⟩
 rintro v5 H
 refine qS (qS (qR (q1 aE (q1 q9 (q1 (a5 fU) (q1 (bD nT) (q1 aE (q1 KL (qN ?_)))))))))
 refine a8 H (fun h12 H=>?_) (fun h12 H=>?_)
 ·refine qS (dK H fun z13 H=>(dW (dI [0] aE (dI [76] q9 (dI [77] (a5 mH) (dD [78] (bD eJ) (dI [3] aE (dI [0] aE (dI [81] q9 (dI [82] (a5 fU) (dD [83] (bD nT) (dI [79,80,84] (a3.sliceS (l:=x2.gat) (k:=v5) rfl rfl rfl rfl rfl z13 Tryz.underlying9) (dI [85] (gW cD nL) ?_)))))))))))))
  refine lH [2,86] (bR eO) (dN (aR.ret ?_))
  cases aX H
  exact bE (hr:=⟨⟨_,_,_,rfl,rfl,bU,rfl,rfl⟩,trivial⟩)
 refine aR.skip ?_
 iterate 2 refine qS ?_
 refine dK H fun z14 H=>?_
 rcases mA (!decide ((((C1 x2.gs ((v5).toNat)).toNat:Int):Int)=40)) with g15|g15
 ·have H:=sE H g15
  refine dW (dI [0] aE (dI [87] q9 (dI [88] (a5 mH) (dD [89] (bD eJ) (dI [0] aE (dI [91] q9 (dI [92] (a5 fU) (dD [93] (bD nT) (dI [90,94] (a3.indexSI (y:=v5) rfl rfl rfl rfl z14.1 z14.2 Tryz.underlying9) (dI [95] CI (dI [96] aE ?_)))))))))))
  iterate 5 refine FE g15 ?_
  refine dI [97] (bV g15) (dN (eL rfl (qW (q1 aE (q1 q9 (q1 (a5 GU) (q1 (bR sz4) (qN (qW (q1 (gW cD nL) (q1 (bR eO) ?_)))))))))))
  refine qN (aR.ret ?_)
  cases aX H
  exact bE (hr:=⟨⟨_,_,_,rfl,rfl,bU,rfl,rfl⟩,trivial⟩)
 have H:=sD H g15
 refine dW (dI [0] aE (dI [87] q9 (dI [88] (a5 mH) (dD [89] (bD eJ) (dI [0] aE (dI [91] q9 (dI [92] (a5 fU) (dD [93] (bD nT) (dI [90,94] (a3.indexSI (y:=v5) rfl rfl rfl rfl z14.1 z14.2 Tryz.underlying9) (dI [95] CI (dI [96] aE (dI (hg:=a6 g15) [0] aE (dI (hg:=a6 g15) [98] q9 ?_)))))))))))))
 refine dI (hg:=a6 g15) [99] (a5 L3) (dD (hg:=a6 g15) [100] (bD nT) (dI (hg:=a6 g15) [101] dM (dI [97,102] (b9 g15) (dN ?_))))
 refine a8 H (fun h16 H=>?_) (fun h16 H=>?_)
 ·refine qW (q1 aE (q1 q9 (q1 (a5 GU) (q1 (bR sz4) (qN (qW (q1 (gW cD nL) (q1 (bR eO) (qZ ?_)))))))))
  cases aX H
  exact bE (hr:=⟨⟨_,_,_,rfl,rfl,bU,rfl,rfl⟩,trivial⟩)
 refine aR.skip (qS (qR ?_))
 iterate 2 refine q1 aE ?_
 refine q1 q9 (q1 (a5 fU) (q1 (bD nT) (q1 MZ (q1 q9 (q1 (a5 fU) (q1 (bR sz3) (qN (qS (qR ?_)))))))))
 iterate 2 refine q1 aE ?_
 refine q1 q9 (q1 (a5 L3) (q1 (bD nT) (q1 MZ (q1 q9 (q1 (a5 L3) (q1 (bR sz3) (qN (qW (q1 (gW cD nL) (q1 (fO cD) (q1 (bR eO) (qN ?_))))))))))))
 refine qS (aR.wk (Wk.regBox (k:=2) (j:=1) 237 2 (by decide) rfl rfl) ?_)
 refine EN (σ:=ByteArray×Int×Int×Int×Bool×(List aA)) (fun(v17,v18,v19,v20,v21,v23)=>⟨[(0,.ptr 0 0),(2,.ptr 1 0),(4,.ptr 2 0)],⟨[some ⟨250,[pS v17,pI v18,pI v19,pI v20,pB v21]⟩,some ⟨237,[pS s_,.nil]⟩,some ⟨237,[pS s_,eH v23 0]⟩],[⟨237,2,aA.trs (v23),false⟩]⟩⟩) (fun(v17,v18,v19,v20,v21,v23)=>⟨[(2,.ptr 1 0),(4,.ptr 2 0)],⟨[some ⟨250,[pS v17,pI v18,pI v19,pI v20,pB v21]⟩,some ⟨237,[pS s_,.nil]⟩,some ⟨237,[pS s_,eH v23 0]⟩],[⟨237,2,aA.trs (v23),false⟩]⟩⟩) (fK H) ?_ ?_
 ·rintro k24 ⟨v17,v18,v19,v20,v21,v23⟩ H
  refine qS (qS (qR (q1 aE (q1 q9 (q1 (a5 GU) (q1 (bD Z3) (q1 hQ (qN ?_))))))))
  refine a8 H (fun h25 H=>?_) (fun h25 H=>?_)
  ·refine aR.skip (aR.block (qW (q1 aE (bI H fun x27 z26 H=>(q1 (iF [0] [] func216 (LI fu (cP.mk v17 v18 v19 v20 v21) _ z26)) (qN ?_))))))
   iterate 2 refine qS ?_
   rcases mA (decide (x27.gat<(x27.gs.size:Int))) with g28|g28
   ·have H:=sE H g28
    refine dK H fun z29 H=>(dW (dI [0] aE (dI [132] q9 (dI [133] (a5 fU) (dD [134] (bD nT) (dI [0] aE (dI [136] q9 (dI [137] (a5 mH) (dD [138] (bD eJ) (dI [139] (a3.lenS rfl rfl rfl Tryz.underlying9) (dI [135,140] gI (dI [141] aE (dI (hg:=a6 g28) [0] aE ?_)))))))))))))
    refine dI (hg:=a6 g28) [143] q9 (dI (hg:=a6 g28) [144] (a5 mH) (dD (hg:=a6 g28) [145] (bD eJ) (dI (hg:=a6 g28) [0] aE (dI (hg:=a6 g28) [147] q9 (dI (hg:=a6 g28) [148] (a5 fU) (dD (hg:=a6 g28) [149] (bD nT) (dI (hg:=a6 g28) [146,150] (a3.indexSI (y:=x27.gat) rfl rfl rfl rfl z29.1 z29.2 Tryz.underlying9) (dI (hg:=a6 g28) [151] dM (dI [142,152] (bV g28) (dN ?_))))))))))
    refine a8 H (fun h30 H=>?_) (fun h30 H=>?_)
    ·refine qS (qR ?_)
     iterate 2 refine q1 aE ?_
     refine q1 q9 (q1 (a5 fU) (q1 (bD nT) (q1 MZ (q1 q9 (q1 (a5 fU) (q1 (bR sz3) (qN (qS (qR ?_)))))))))
     iterate 2 refine q1 aE ?_
     refine q1 q9 (q1 (a5 L3) (q1 (bD nT) (q1 EP (q1 q9 (q1 (a5 L3) (q1 (bR sz3) (qN (qW (q1 (cJ [pS s_,eH v23 0] bU) (q1 (bR eO) (qZ ?_)))))))))))
     obtain rfl:_=r:=(lwR (aX H):)
     exact bE (hr:=⟨⟨_,_,_,rfl,rfl,bU,rfl,rfl⟩,trivial⟩)
    refine aR.skip (fZ H fun x32 x33 z31 H=>(dK H fun z34 H=>(dW (dI [4] (a5 bK) (dB [171] 0 1 (wL cX) (dI [0] aE (dE [173] (iF [0] [] func215 (h_sl2Read x27 _ z31)) (dI [174] (j9 ([x32]:List aA) bL cD) (dE [172,175] (nV z34 bL rO) (dI [4] (a5 bK) (lH [177,176] (bR AZ) (dN ?_))))))))))))
    exact X9 ⟨_,(aX H:),bW⟩
   have H:=sD H g28
   refine dW (dI [0] aE (dI [132] q9 (dI [133] (a5 fU) (dD [134] (bD nT) (dI [0] aE (dI [136] q9 (dI [137] (a5 mH) (dD [138] (bD eJ) (dI [139] (a3.lenS rfl rfl rfl Tryz.underlying9) (dI [135,140] gI (dI [141] aE ?_)))))))))))
   iterate 10 refine FE g28 ?_
   refine dI [142] (b9 g28) (dN (jR rfl (aR.skip (fZ H fun x36 x37 z35 H=>(dK H fun z38 H=>(dW (dI [4] (a5 bK) (dB [171] 0 1 (wL cX) (dI [0] aE (dE [173] (iF [0] [] func215 (h_sl2Read x27 _ z35)) (dI [174] (j9 ([x36]:List aA) bL cD) (dE [172,175] (nV z38 bL rO) (dI [4] (a5 bK) ?_)))))))))))))
   refine lH [177,176] (bR AZ) (dN ?_)
   exact X9 ⟨_,(aX H:),bW⟩
  refine aR.exit ?_;exact lwB ⟨_,(aX H:),bW⟩
 rintro⟨v17,v18,v19,v20,v21,v23⟩ H
 refine qW (q1 (cJ [pS s_,eH v23 0] bU) (q1 (bR eO) (qZ ?_)))
 cases aX H
 exact bE (hr:=⟨⟨_,_,_,rfl,rfl,bU,rfl,rfl⟩,trivial⟩)
def rJ:Nat→cP→Option (aA×cP)
 |0,_=>none
 |fu+1,pq0=>HA fu (rJ fu) pq0
theorem afF(fu:Nat):HC (rJ fu):=by
 induction fu with
 |zero=>exact(fun pq0 r H=>by simp only [rJ] at H;cases H)
 |succ fu ih=>exact(fun pq0 r H=>by simp only [rJ] at H;exact abH fu (rJ fu) ih pq0 r H)
theorem aiI(fu:Nat):HC (rJ fu):=(afF fu)
abbrev vE:=aA→Int→Option Int
def G9(m:vE):Prop:= ∀(px:aA) (pleft:Int) (r:Int),m px pleft=some r→b4 Tryz.prog 227 [(aA.pv px),pI pleft] (pI r:PV)
def aiD(fu:Nat)(r_sl2Left:vE)(px:aA)(pleft:Int):Nat→Int→Option (LR Int Int):=
 fun i1 v2=>sw (decide (v2≥0))
 (bd (r_sl2Left (aW px.gList i1) v2) (fun x7=>
 some (.next x7)))
 (some (.brk v2))
def aiE(fu:Nat)(r_sl2Left:vE)(px:aA)(pleft:Int):Option (Int⊕Int):=
 loopN (aiD fu r_sl2Left px pleft) (px.gList.length-0) 0 (aQ (pleft-1))
def QF(fu:Nat)(r_sl2Left:vE)(px:aA)(pleft:Int):Option Int:=
 so (aiE fu r_sl2Left px pleft) (fun v2=>
 some v2)
theorem abG(fu:Nat)(r_sl2Left:vE)(h_sl2Left:G9 r_sl2Left):G9 (QF fu r_sl2Left):=by
 intro px pleft r H
 have H:=eE H
 refine qI func227 (fun C hC=>?_)
 refine qW (q1 (iM ([pS px.gAtom,bF px.gList])) (q1 aE (qN (qW (q1 aE (q1 EP (q1 aE (qN ?_))))))))
 refine qS (qS (qR (q1 aE (qN ?_))))
 refine aR.fact (b5 0 1 rfl rfl rfl (aA.trs_len _)) (fun hl3=>?_)
 refine b0 (σ:=Int) (fun i1 v2=>⟨[(1,pI v2),(2,.ptr 0 0),(4,pI 0),(5,pN i1)],⟨[some ⟨237,[pS px.gAtom,bF px.gList]⟩],[]⟩⟩) (fun v2=>⟨[(1,pI v2),(4,pI 0)],⟨[some ⟨237,[pS px.gAtom,bF px.gList]⟩],[]⟩⟩) (fK H) ?_ ?_
 ·rintro i1 v2 H
  refine qS (qS (qR (q1 aE (q1 (a5 bK) (q1 (bD cX) (q1 (dL bL (aA.trs_len _)) (q1 gI (q1 aE ?_))))))))
  refine AL.splitB 13 rfl (fun g4=>?_) (fun g4=>?_)
  ·have g4l:=qA g4
   have H:=lnT g4l H
   have g4n:=a4 g4
   refine qg g4 aE (qg g4 S8 (q1 (bV g4) (qN ?_)))
   refine a8 H (fun h5 H=>?_) (fun h5 H=>?_)
   ·refine aR.skip (qS (aR.block (qR (q1 (a5 bK) (q1 (bD cX) (q1 aE (q1 (kP g4n bL) (q1 (kM (aA.cs (aW px.gList i1)) bU) (q1 aE (bI H fun x7 z6 H=>(q1 (bG func227 (h_sl2Left (aW px.gList i1) v2 _ z6)) (q1 aE (qN ?_)))))))))))))
    refine qR (q1 aE (q1 (rA (i1+1)) (q1 aE (qN ?_))))
    exact iI g4l ⟨_,(aX H:),bW⟩
   refine aR.exit ?_;exact lpB ⟨_,(aX H:),bW⟩
  have H:=lnE (p9 g4) H
  iterate 2 refine qk g4 ?_
  refine q1 (b9 g4) (qN (jR rfl (aR.exit ?_)))
  exact jJ ⟨_,H,bW⟩
 rintro v2 H
 refine qS (qR ?_)
 iterate 2 refine q1 aE ?_
 refine qN (aR.ret ?_)
 cases aX H
 exact bE
def o7:Nat→aA→Int→Option Int
 |0,_,_=>none
 |fu+1,px,pleft=>QF fu (o7 fu) px pleft
theorem afE(fu:Nat):G9 (o7 fu):=by
 induction fu with
 |zero=>exact(fun px pleft r H=>by simp only [o7] at H;cases H)
 |succ fu ih=>exact(fun px pleft r H=>by simp only [o7] at H;exact abG fu (o7 fu) ih px pleft r H)
theorem aiG(fu:Nat):G9 (o7 fu):=(afE fu)
def apO(m:Int→Int→Int→Option Bool):Prop:= ∀(px:Int) (plo:Int) (phi:Int) (r:Bool),m px plo phi=some r→b4 Tryz.prog 108 [pI px,pI plo,pI phi] (pB r:PV)
def rG(fu:Nat)(px plo phi:Int):Option Bool:=
 sw (decide (px≥plo))
 (some (decide (px≤phi)))
 (some false)
theorem zV(fu:Nat):apO (rG fu):=by
 intro px plo phi r H
 have H:=eE H
 refine qI func108 (fun C hC=>?_)
 refine qW (q1 aE (qN (qS (qR ?_))))
 iterate 2 refine q1 aE ?_
 refine q1 S8 (q1 aE ?_)
 refine eF 10 H (fun g1 H=>?_) fun g1 H=>?_
 ·refine qg g1 aE (qg g1 aE (qg g1 rLe (q1 (bV g1) (q1 aE (qZ ?_)))))
  cases aX H
  exact bE
 iterate 3 refine qk g1 ?_
 refine q1 (b9 g1) (q1 aE (qZ ?_))
 cases aX H
 exact bE
def U5(m:ByteArray→Option Bool):Prop:= ∀(ps:ByteArray) (r:Bool),m ps=some r→b4 Tryz.prog 241 [pS ps] (pB r:PV)
def SC(fu:Nat)(ps:ByteArray):Nat→Unit→Option (LR Unit Bool):=
 fun i1 _=>gd (i1<(ps).size)
 (bd (G7 fu (C1 ps i1)) (fun x6=>
 sw (!(x6))
 (some (.ret false))
 (some (.next ()))))
def SD(fu:Nat)(ps:ByteArray):Option (Bool⊕Unit):=
 loopN (SC fu ps) (ps.size-0) 0 ()
def zN(fu:Nat)(ps:ByteArray):Option Bool:=
 so (SD fu ps) (fun _=>
 bd (rG fu (ps.size:Int) 1 12) (fun x9=>
 some x9))
theorem SE(fu:Nat):U5 (zN fu):=by
 intro ps r H
 have H:=eE H
 refine qI func241 (fun C hC=>?_)
 refine qW (q1 aE (qN ?_))
 refine qS (qS (qR (q1 aE (qN ?_))))
 refine szF 0 (fun hl2=>?_)
 refine b0 (σ:=Unit) (fun i1 _=>⟨[(0,pS ps),(2,pB false),(3,pN i1)],⟨[],[]⟩⟩) (fun _=>⟨[(0,pS ps),(2,pB false)],⟨[],[]⟩⟩) (fK H) ?_ ?_
 ·rintro i1 ⟨⟩ H
  refine qS (qS (qR ?_))
  iterate 2 refine q1 aE ?_
  refine q1 (a3.lenS rfl rfl rfl Tryz.underlying9) (q1 gI (qN ?_))
  refine dG H (fun h3 h3l H=>?_) (fun h3 H=>?_)
  ·have h3n:i1<ps.size:=by have:=of_decide_eq_true h3;omega
   refine aR.skip (qS (aR.block (qS (qR ?_))))
   iterate 2 refine q1 aE ?_
   refine dK H fun z4 H=>(q1 (a3.indexS (k:=i1) rfl rfl rfl rfl z4 Tryz.underlying9) (bI H fun x6 z5 H=>(q1 (bG func226 (VU fu (C1 ps i1) _ z5)) (q1 hQ (qN ?_)))))
   refine a8 H (fun h7 H=>?_) (fun h7 H=>?_)
   ·refine qW (q1 aE (qZ ?_))
    obtain rfl:_=r:=(mT (aX H):)
    exact bE
   refine aR.skip (qR (q1 aE (q1 (rA (i1+1)) (q1 aE (qN ?_)))))
   exact iI h3l ⟨_,(aX H:),bW⟩
  refine aR.exit ?_;exact jJ ⟨_,H,bW⟩
 rintro⟨⟩ H
 refine qW (q1 aE (q1 (a3.lenS rfl rfl rfl Tryz.underlying9) (bI H fun x9 z8 H=>(q1 (bG func108 (zV fu (ps.size:Int) 1 12 _ z8)) (q1 aE (qZ ?_))))))
 cases aX H
 exact bE
abbrev vD:=aA→Option Bool
def G8(m:vD):Prop:= ∀(px:aA) (r:Bool),m px=some r→b4 Tryz.prog 228 [(aA.pv px)] (pB r:PV)
def ah9(fu:Nat)(r_sl2Form:vD)(px:aA):Nat→Unit→Option (LR Unit Bool):=
 fun i5 _=>bd (r_sl2Form (aW px.gList i5)) (fun x9=>
 sw (!(x9))
 (some (.ret false))
 (some (.next ())))
def aiA(fu:Nat)(r_sl2Form:vD)(px:aA):Option (Bool⊕Unit):=
 loopN (ah9 fu r_sl2Form px) (px.gList.length-0) 0 ()
def QE(fu:Nat)(r_sl2Form:vD)(px:aA):Option Bool:=
 sw (!decide (px.gAtom=s_))
 (bd (zN fu px.gAtom) (fun x3=>
 sw (x3)
 (some (decide ((px.gList.length:Int)=0)))
 (some false)))
 (so (aiA fu r_sl2Form px) (fun _=>
 some true))
theorem abF(fu:Nat)(r_sl2Form:vD)(h_sl2Form:G8 r_sl2Form):G8 (QE fu r_sl2Form):=by
 intro px r H
 have H:=eE H
 refine qI func228 (fun C hC=>?_)
 refine qW (q1 (iM ([pS px.gAtom,bF px.gList])) (q1 aE (qN ?_)))
 refine qS (qS (qR (q1 (a5 fT) (q1 (bD eJ) (q1 WA (qN ?_))))))
 refine a8 H (fun h1 H=>?_) (fun h1 H=>?_)
 ·refine qW (q1 (a5 fT) (q1 (bD eJ) (bI H fun x3 z2 H=>(q1 (bG func241 (SE fu px.gAtom _ z2)) (q1 aE ?_)))))
  refine eF 10 H (fun g4 H=>?_) fun g4 H=>?_
  ·refine qg g4 (a5 bK) (qg g4 (bD cX) (qg g4 (dL bL (aA.trs_len _)) (qg g4 dM (q1 (bV g4) (q1 aE (qZ ?_))))))
   cases aX H
   exact bE
  iterate 4 refine qk g4 ?_
  refine q1 (b9 g4) (q1 aE (qZ ?_))
  cases aX H
  exact bE
 refine aR.skip ?_
 refine qS (qS (qR (q1 aE (qN ?_))))
 refine aR.fact (b5 0 1 rfl rfl rfl (aA.trs_len _)) (fun hl6=>?_)
 refine b0 (σ:=Unit) (fun i5 _=>⟨[(1,.ptr 0 0),(2,pB false),(3,pN i5)],⟨[some ⟨237,[pS px.gAtom,bF px.gList]⟩],[]⟩⟩) (fun _=>⟨[(2,pB false)],⟨[some ⟨237,[pS px.gAtom,bF px.gList]⟩],[]⟩⟩) (fK H) ?_ ?_
 ·rintro i5 ⟨⟩ H
  refine qS (qS (qR (q1 aE (q1 (a5 bK) (q1 (bD cX) (q1 (dL bL (aA.trs_len _)) (q1 gI (qN ?_))))))))
  refine dG H (fun h7 h7l H=>?_) (fun h7 H=>?_)
  ·have h7n:=a4 h7
   refine aR.skip (qS (aR.block (qW (q1 (a5 bK) (q1 (bD cX) (q1 aE (q1 (kP h7n bL) (q1 (kM (aA.cs (aW px.gList i5)) bU) (bI H fun x9 z8 H=>(q1 (bG func228 (h_sl2Form (aW px.gList i5) _ z8)) (q1 hQ (qN ?_))))))))))))
   refine a8 H (fun h10 H=>?_) (fun h10 H=>?_)
   ·refine qW (q1 aE (qZ ?_))
    obtain rfl:_=r:=(mT (aX H):)
    exact bE
   refine aR.skip (qR (q1 aE (q1 (rA (i5+1)) (q1 aE (qN ?_)))))
   exact iI h7l ⟨_,(aX H:),bW⟩
  refine aR.exit ?_;exact jJ ⟨_,H,bW⟩
 rintro⟨⟩ H
 refine qW (q1 aE (qZ ?_))
 cases aX H
 exact bE
def o6:Nat→aA→Option Bool
 |0,_=>none
 |fu+1,px=>QE fu (o6 fu) px
theorem afD(fu:Nat):G8 (o6 fu):=by
 induction fu with
 |zero=>exact(fun px r H=>by simp only [o6] at H;cases H)
 |succ fu ih=>exact(fun px r H=>by simp only [o6] at H;exact abF fu (o6 fu) ih px r H)
theorem aiC(fu:Nat):G8 (o6 fu):=(afD fu)
def aoA(m:Int→Int→Option Int):Prop:= ∀(pa:Int) (pb:Int) (r:Int),m pa pb=some r→b4 Tryz.prog 242 [pI pa,pI pb] (pI r:PV)
def NK(fu:Nat)(pa pb:Int):Option Int:=
 sw (decide (pa>pb))
 (some pa)
 (some pb)
theorem YG(fu:Nat):aoA (NK fu):=by
 intro pa pb r H
 have H:=eE H
 refine qI func242 (fun C hC=>?_)
 refine qW (q1 aE (qN ?_))
 refine qS (qS (qR ?_))
 iterate 2 refine q1 aE ?_
 refine q1 KL (qN ?_)
 refine a8 H (fun h1 H=>?_) (fun h1 H=>?_)
 ·refine qS (qR ?_)
  iterate 2 refine q1 aE ?_
  refine qN (aR.ret ?_)
  cases aX H
  exact bE
 refine aR.skip (qS (qR ?_))
 iterate 2 refine q1 aE ?_
 refine qN (aR.ret ?_)
 cases aX H
 exact bE
abbrev mZ:=aA→Option Int
def vQ(m:mZ):Prop:= ∀(px:aA) (r:Int),m px=some r→b4 Tryz.prog 229 [(aA.pv px)] (pI r:PV)
def VA(fu:Nat)(r_sSExprDepth:mZ)(px:aA):Nat→Int→Option (LR Int Int):=
 fun i2 v3=>bd (r_sSExprDepth (aW px.gList i2)) (fun x7=>
 bd (NK fu v3 x7) (fun x9=>
 some (.next x9)))
def VB(fu:Nat)(r_sSExprDepth:mZ)(px:aA):Option (Int⊕Int):=
 loopN (VA fu r_sSExprDepth px) (px.gList.length-0) 0 0
def BM(fu:Nat)(r_sSExprDepth:mZ)(px:aA):Option Int:=
 sw (!decide (px.gAtom=s_))
 (some 0)
 (so (VB fu r_sSExprDepth px) (fun v3=>
 some (aQ (v3+1))))
theorem PP(fu:Nat)(r_sSExprDepth:mZ)(h_sSExprDepth:vQ r_sSExprDepth):vQ (BM fu r_sSExprDepth):=by
 intro px r H
 have H:=eE H
 refine qI func229 (fun C hC=>?_)
 refine qW (q1 (iM ([pS px.gAtom,bF px.gList])) (q1 aE (qN ?_)))
 refine qS (qS (qR (q1 (a5 fT) (q1 (bD eJ) (q1 WA (qN ?_))))))
 refine a8 H (fun h1 H=>?_) (fun h1 H=>?_)
 ·refine qW (q1 aE (qZ ?_))
  cases aX H
  exact bE
 refine aR.skip (qW (q1 aE (qN ?_)))
 refine qS (qS (qR (q1 aE (qN ?_))))
 refine aR.fact (b5 0 1 rfl rfl rfl (aA.trs_len _)) (fun hl4=>?_)
 refine b0 (σ:=Int) (fun i2 v3=>⟨[(1,.ptr 0 0),(2,pI 0),(3,pI v3),(4,pN i2)],⟨[some ⟨237,[pS px.gAtom,bF px.gList]⟩],[]⟩⟩) (fun v3=>⟨[(2,pI 0),(3,pI v3)],⟨[some ⟨237,[pS px.gAtom,bF px.gList]⟩],[]⟩⟩) (fK H) ?_ ?_
 ·rintro i2 v3 H
  refine qS (qS (qR (q1 aE (q1 (a5 bK) (q1 (bD cX) (q1 (dL bL (aA.trs_len _)) (q1 gI (qN ?_))))))))
  refine dG H (fun h5 h5l H=>?_) (fun h5 H=>?_)
  ·have h5n:=a4 h5
   refine aR.skip (qS (aR.block (qR (q1 aE (q1 (a5 bK) (q1 (bD cX) (q1 aE (q1 (kP h5n bL) (q1 (kM (aA.cs (aW px.gList i2)) bU) (bI H fun x7 z6 H=>(q1 (bG func229 (h_sSExprDepth (aW px.gList i2) _ z6)) (bI H fun x9 z8 H=>(q1 (bG func242 (YG fu v3 x7 _ z8)) ?_)))))))))))))
   refine q1 aE (qN (qR (q1 aE (q1 (rA (i2+1)) (q1 aE (qN ?_))))))
   exact iI h5l ⟨_,(aX H:),bW⟩
  refine aR.exit ?_;exact jJ ⟨_,H,bW⟩
 rintro v3 H
 refine qW (q1 aE (q1 MZ (q1 aE (qZ ?_))))
 cases aX H
 exact bE
def iZ:Nat→aA→Option Int
 |0,_=>none
 |fu+1,px=>BM fu (iZ fu) px
theorem SP(fu:Nat):vQ (iZ fu):=by
 induction fu with
 |zero=>exact(fun px r H=>by simp only [iZ] at H;cases H)
 |succ fu ih=>exact(fun px r H=>by simp only [iZ] at H;exact PP fu (iZ fu) ih px r H)
theorem VD(fu:Nat):vQ (iZ fu):=(SP fu)
def SJ(m:aA→Option Bool):Prop:= ∀(px:aA) (r:Bool),m px=some r→b4 Tryz.prog 217 [(aA.pv px)] (pB r:PV)
def iP(fu:Nat)(px:aA):Option Bool:=
 bd (o7 fu px 900) (fun x2=>
 sw (decide (x2≥0))
 (bd (o6 fu px) (fun x5=>
 sw (x5)
 (bd (iZ fu px) (fun x8=>
 some (decide (x8≤14))))
 (some false)))
 (some false))
theorem c7(fu:Nat):SJ (iP fu):=by
 intro px r H
 have H:=eE H
 refine qI func217 (fun C hC=>?_)
 refine qW (q1 (iM ([pS px.gAtom,bF px.gList])) (q1 aE (qN (qW (q1 (cJ [pS px.gAtom,bF px.gList] bU) (bI H fun x2 z1 H=>(q1 (bG func227 (aiG fu px 900 _ z1)) (q1 S8 (q1 aE ?_)))))))))
 refine eF 6 H (fun g3 H=>?_) fun g3 H=>?_
 ·refine qg g3 (cJ [pS px.gAtom,bF px.gList] bU) (bI H fun x5 z4 H=>(qg g3 (bG func228 (aiC fu px _ z4)) (q1 (bV g3) (q1 aE ?_))))
  refine eF 10 H (fun g6 H=>?_) fun g6 H=>?_
  ·refine qg g6 (cJ [pS px.gAtom,bF px.gList] bU) (bI H fun x8 z7 H=>(qg g6 (bG func229 (VD fu px _ z7)) (qg g6 rLe (q1 (bV g6) (q1 aE (qZ ?_))))))
   cases aX H
   exact bE
  iterate 3 refine qk g6 ?_
  refine q1 (b9 g6) (q1 aE (qZ ?_))
  cases aX H
  exact bE
 iterate 2 refine qk g3 ?_
 refine q1 (b9 g3) (q1 aE ?_)
 iterate 3 refine qk rfl ?_
 refine q1 (b9 rfl) (q1 aE (qZ ?_))
 cases aX H
 exact bE
def W6(m:ByteArray→Option (aA×Bool)):Prop:= ∀(ps:ByteArray) (r:aA×Bool),m ps=some r→b4 Tryz.prog 207 [pS ps] (.tup [(aA.pv r.1),pB r.2]:PV)
def vP(fu:Nat)(ps:ByteArray):Option (aA×Bool):=
 bd (rJ fu (cP.mk ps 0 0 0 false)) (fun(x2,x3)=>
 bd (yM fu x3) (fun x5=>
 sw (x5.gbad)
 (some ((aA.mk s_ []),false))
 (sw (!decide (x5.gat=(ps.size:Int)))
 (some ((aA.mk s_ []),false))
 (bd (iP fu x2) (fun x9=>
 sw (!(x9))
 (some ((aA.mk s_ []),false))
 (some (x2,true)))))))
theorem U9(fu:Nat):W6 (vP fu):=by
 intro ps r H
 have H:=eE H
 refine qI func207 (fun C hC=>?_)
 refine qW (q1 (fO cD) (q1 aE (qN (qW (q1 aE (q1 (gW asW asA) (q1 (iM ([pS ps,pI 0,pI 0,pI 0,pB false])) (q1 aE (qN (qS (qR ?_)))))))))))
 refine q1 aE (fZ H fun x2 x3 z1 H=>(q1 (iF [1] [] func215 (aiI fu (cP.mk ps 0 0 0 false) _ z1)) (q1 (fO cD) (q1 (bR eO) (qN (qW (q1 aE (bI H fun x5 z4 H=>(q1 (iF [1] [] func216 (LI fu x3 _ z4)) (qN ?_))))))))))
 refine qS (qS (qR (q1 aE (q1 q9 (q1 (a5 GU) (q1 (bD Z3) (q1 aE ?_)))))))
 refine eF 17 H (fun g6 H=>?_) fun g6 H=>?_
 ·refine qk g6 ?_
  iterate 6 refine qk g6 ?_
  refine q1 (bV g6) (q1 aE ?_)
  iterate 3 refine qk rfl ?_
  refine q1 (bV rfl) (qN (eL rfl (qW (q1 (gW cD nL) (q1 (bR eO) (q1 aE (qZ ?_)))))))
  cases aX H
  exact tT (hr:=⟨⟨_,_,_,rfl,rfl,bU,rfl,rfl⟩,rfl,trivial⟩)
 refine qg g6 aE (qg g6 q9 (qg g6 (a5 fU) (qg g6 (bD nT) (qg g6 aE (qg g6 (a3.lenS rfl rfl rfl Tryz.underlying9) (qg g6 CI (q1 (b9 g6) (q1 aE ?_))))))))
 refine eF 26 H (fun g7 H=>?_) fun g7 H=>?_
 ·refine qk g7 ?_
  iterate 2 refine qk g7 ?_
  refine q1 (bV g7) (qN (eL rfl (qW (q1 (gW cD nL) (q1 (bR eO) (q1 aE (qZ ?_)))))))
  cases aX H
  exact tT (hr:=⟨⟨_,_,_,rfl,rfl,bU,rfl,rfl⟩,rfl,trivial⟩)
 refine qg g7 (cJ [pS x2.gAtom,bF x2.gList] bU) (bI H fun x9 z8 H=>(qg g7 (bG func217 (c7 fu x2 _ z8)) (qg g7 hQ (q1 (b9 g7) (qN ?_)))))
 refine a8 H (fun h10 H=>?_) (fun h10 H=>?_)
 ·refine qW (q1 (gW cD nL) (q1 (bR eO) (q1 aE (qZ ?_))))
  cases aX H
  exact tT (hr:=⟨⟨_,_,_,rfl,rfl,bU,rfl,rfl⟩,rfl,trivial⟩)
 refine aR.skip (qW (q1 (cJ [pS x2.gAtom,bF x2.gList] bU) (q1 (bR eO) (q1 aE (qZ ?_)))))
 cases aX H
 exact tT (hr:=⟨⟨_,_,_,rfl,rfl,bU,rfl,rfl⟩,rfl,trivial⟩)
def ah8(m:(List aA)→Option ((LB)×Bool)):Prop:= ∀(plist:List aA) (r:(LB)×Bool),m plist=some r→b4 Tryz.prog 218 [bF plist] (.tup [rS r.1,pB r.2]:PV)
def afB(fu:Nat)(plist:List aA):Nat→((LB))→Option (LR ((LB)) ((LB)×Bool)):=
 fun i1 v3=>sw (decide ((aW plist i1).gAtom=s_))
 (some (.ret (([]),false)))
 (gd ((v3).length+(([((aW plist i1).gAtom)]:LB)).length≤68719476736)
 (some (.next (v3++([((aW plist i1).gAtom)]:LB)))))
def afC(fu:Nat)(plist:List aA):Option (((LB)×Bool)⊕((LB))):=
 loopN (afB fu plist) (plist.length-0) 0 ([])
def zW(fu:Nat)(plist:List aA):Option ((LB)×Bool):=
 so (afC fu plist) (fun v3=>
 some (v3,true))
theorem GH(fu:Nat):ah8 (zW fu):=by
 intro plist r H
 have H:=eE H
 refine qI func218 (fun C hC=>?_)
 refine qS (qR ?_)
 iterate 2 refine q1 aE ?_
 refine qN (qW (q1 (uK ([]:LB) b3 lU) (q1 aE (qN ?_))))
 refine qS (qS (qR (q1 aE (qN ?_))))
 refine lD 0 (aA.trs_len _) (fun hl4=>?_)
 refine b0 (σ:=(LB)) (fun i1 v3=>⟨[(0,bF plist),(2,.nil),(3,pB false),(4,aS v3 0),(5,pN i1)],⟨[],[⟨9,1,aZ (v3),false⟩]⟩⟩) (fun v3=>⟨[(2,.nil),(3,pB false),(4,aS v3 0)],⟨[],[⟨9,1,aZ (v3),false⟩]⟩⟩) (fK H) ?_ ?_
 ·rintro i1 v3 H
  refine qS (qS (qR ?_))
  iterate 2 refine q1 aE ?_
  refine q1 (dL bL (aA.trs_len _)) (q1 gI (qN ?_))
  refine dG H (fun h5 h5l H=>?_) (fun h5 H=>?_)
  ·have h5n:=a4 h5
   refine aR.skip (qS (aR.block ?_))
   refine qS (qS (qR ?_))
   iterate 2 refine q1 aE ?_
   refine q1 (kP h5n bL) (q1 (lR fT) (q1 (kQ eJ) (q1 AM (qN ?_))))
   refine a8 H (fun h6 H=>?_) (fun h6 H=>?_)
   ·refine qW (q1 (uK ([]:LB) b3 lU) ?_)
    iterate 2 refine q1 aE ?_
    refine qN (aR.ret ?_)
    obtain rfl:_=r:=(mT (aX H):)
    exact tT
   refine aR.skip (qR ?_)
   iterate 3 refine q1 aE ?_
   refine q1 (kP h5n bL) (q1 (lR fT) (q1 (kQ eJ) (q1 (j9 ([((aW plist i1).gAtom)]:LB) b3 lU) (dK H fun z7 H=>(q1 (nV z7 b3 tR) (q1 aE (qN (qR (q1 aE (q1 (rA (i1+1)) (q1 aE (qN ?_))))))))))))
   exact iI h5l ⟨_,(aX H:),bW⟩
  refine aR.exit ?_;exact jJ ⟨_,H,bW⟩
 rintro v3 H
 refine qS (qR ?_)
 iterate 3 refine q1 aE ?_
 refine qN (aR.ret ?_)
 cases aX H
 exact tT
def al4(m:ByteArray→Option aA):Prop:= ∀(ps:ByteArray) (r:aA),m ps=some r→b4 Tryz.prog 266 [pS ps] ((aA.pv r):PV)
def cF(fu:Nat)(ps:ByteArray):Option aA:=
 some (aA.mk ps [])
theorem b8(fu:Nat):al4 (cF fu):=by
 intro ps r H
 have H:=eE H
 refine qI func266 (fun C hC=>?_)
 refine qW (q1 (fO cD) (qN (qW (q1 aE (q1 (gW cD nL) (q1 (bR eO) (qZ ?_)))))))
 cases aX H
 exact bE (hr:=⟨⟨_,_,_,rfl,rfl,bU,rfl,rfl⟩,trivial⟩)
def aiJ(m:(LB)→Option ((List aA))):Prop:= ∀(plist:LB) (r:(List aA)),m plist=some r→b4 Tryz.prog 280 [rS plist] (bF r:PV)
def afG(fu:Nat)(plist:LB):Nat→((List aA))→Option (LR ((List aA)) ((List aA))):=
 fun i1 v3=>bd (cF fu (aW plist i1)) (fun x7=>
 gd ((v3).length+(([x7]:List aA)).length≤68719476736)
 (some (.next (v3++([x7]:List aA)))))
def afH(fu:Nat)(plist:LB):Option (((List aA))⊕((List aA))):=
 loopN (afG fu plist) (plist.length-0) 0 ([])
def EE(fu:Nat)(plist:LB):Option ((List aA)):=
 so (afH fu plist) (fun v3=>
 some v3)
theorem RH(fu:Nat):aiJ (EE fu):=by
 intro plist r H
 have H:=eE H
 refine qI func280 (fun C hC=>?_)
 refine qW (q1 aE (qN (qW (q1 (uK ([]:List aA) bL cD) (q1 aE (qN ?_))))))
 refine qS (qS (qR (q1 aE (qN ?_))))
 refine lD 0 (bC _) (fun hl4=>?_)
 refine b0 (σ:=(List aA)) (fun i1 v3=>⟨[(0,rS plist),(2,.nil),(3,eH v3 0),(4,pN i1)],⟨[],[⟨237,2,aA.trs (v3),false⟩]⟩⟩) (fun v3=>⟨[(2,.nil),(3,eH v3 0)],⟨[],[⟨237,2,aA.trs (v3),false⟩]⟩⟩) (fK H) ?_ ?_
 ·rintro i1 v3 H
  refine qS (qS (qR ?_))
  iterate 2 refine q1 aE ?_
  refine q1 (dL b3 (bC _)) (q1 gI (qN ?_))
  refine dG H (fun h5 h5l H=>?_) (fun h5 H=>?_)
  ·have h5n:=a4 h5
   refine aR.skip (qS (aR.block (qR ?_)))
   iterate 3 refine q1 aE ?_
   refine q1 (kP h5n b3) (q1 (kQ eJ) (bI H fun x7 z6 H=>(q1 (bG func266 (b8 fu (aW plist i1) _ z6)) (q1 (j9 ([x7]:List aA) bL cD) (dK H fun z8 H=>(q1 (nV z8 bL rO) (q1 aE (qN (qR (q1 aE (q1 (rA (i1+1)) (q1 aE (qN ?_)))))))))))))
   exact iI h5l ⟨_,(aX H:),bW⟩
  refine aR.exit ?_;exact jJ ⟨_,H,bW⟩
 rintro v3 H
 refine qS (qR ?_)
 iterate 2 refine q1 aE ?_
 refine qN (aR.ret ?_)
 cases aX H
 exact bE
def YH(m:(List aA)→Option aA):Prop:= ∀(plist:List aA) (r:aA),m plist=some r→CV Tryz.prog 265 [bF plist] ⟨[],[]⟩ [] 237 2 (aA.trs (r.gList)) (fun k=> .agg [pS r.gAtom,eH r.gList k])
theorem ED{m:(List aA)→Option aA}(h:YH m)(plist:List aA)(r:aA)(H:m plist=some r):b4 Tryz.prog 265 [bF plist] ((aA.pv r):PV):=(h plist r H).plain (fun _=>iX) (hp:=agM)
def mE(fu:Nat)(plist:List aA):Option aA:=
 gd (([]:List aA).length+(plist).length≤68719476736)
 (some (aA.mk s_ (([])++plist)))
theorem m8(fu:Nat):YH (mE fu):=by
 intro plist r H
 unfold CV
 have H:=eE H
 refine qI func265 (fun C hC=>?_)
 refine qW (q1 (fO cD) (qN (qW (q1 (uK ([]:List aA) bL cD) (q1 aE (dK H fun z1 H=>(q1 (nV z1 bL rO) (q1 (gW cD nL) (q1 (bR eO) (qZ ?_))))))))))
 cases aX H
 exact bE (st':=⟨[],[⟨237,2,aA.trs (([])++plist),false⟩]⟩) ⟨0,rfl,rfl,rfl⟩ (hr:=⟨⟨_,_,_,rfl,rfl,bU,rfl,rfl⟩,trivial⟩)
abbrev mY:=aA→aA→Option Bool
def vN(m:mY):Prop:= ∀(pa:aA) (pb:aA) (r:Bool),m pa pb=some r→b4 Tryz.prog 248 [(aA.pv pa),(aA.pv pb)] (pB r:PV)
def UZ(fu:Nat)(r_sEqualSExpr:mY)(pa pb:aA):Nat→Unit→Option (LR Unit Bool):=
 fun i3 _=>gd (i3<(pb.gList).length)
 (bd (r_sEqualSExpr (aW pa.gList i3) (aW pb.gList i3)) (fun x8=>
 sw (!(x8))
 (some (.ret false))
 (some (.next ()))))
def U0(fu:Nat)(r_sEqualSExpr:mY)(pa pb:aA):Option (Bool⊕Unit):=
 loopN (UZ fu r_sEqualSExpr pa pb) (pa.gList.length-0) 0 ()
def BJ(fu:Nat)(r_sEqualSExpr:mY)(pa pb:aA):Option Bool:=
 sw (!decide (pa.gAtom=pb.gAtom))
 (some false)
 (sw (!decide ((pa.gList.length:Int)=(pb.gList.length:Int)))
 (some false)
 (so (U0 fu r_sEqualSExpr pa pb) (fun _=>
 some true)))
theorem PC(fu:Nat)(r_sEqualSExpr:mY)(h_sEqualSExpr:vN r_sEqualSExpr):vN (BJ fu r_sEqualSExpr):=by
 intro pa pb r H
 have H:=eE H
 refine qI func248 (fun C hC=>?_)
 refine qW (q1 (iM ([pS pa.gAtom,bF pa.gList])) (q1 (iM ([pS pb.gAtom,bF pb.gList])) (q1 aE (qN ?_))))
 refine qS (qS (qR (q1 (a5 fT) (q1 (bD eJ) (q1 (a5 fT) (q1 (bD eJ) (q1 WA (q1 aE ?_))))))))
 refine eF 11 H (fun g1 H=>?_) fun g1 H=>?_
 ·refine qk g1 ?_
  iterate 6 refine qk g1 ?_
  refine q1 (bV g1) (qN (eL rfl (qW (q1 aE (qZ ?_)))))
  cases aX H
  exact bE
 refine qg g1 (a5 bK) (qg g1 (bD cX) (qg g1 (dL bL (aA.trs_len _)) (qg g1 (a5 bK) (qg g1 (bD cX) (qg g1 (dL bL (aA.trs_len _)) (qg g1 CI (q1 (b9 g1) (qN ?_))))))))
 refine a8 H (fun h2 H=>?_) (fun h2 H=>?_)
 ·refine qW (q1 aE (qZ ?_))
  cases aX H
  exact bE
 refine aR.skip ?_
 refine qS (qS (qR (q1 aE (qN ?_))))
 refine lD 13 (aA.trs_len _) (fun hl4=>?_)
 refine b0 (σ:=Unit) (fun i3 _=>⟨[(2,.ptr 0 0),(3,.ptr 1 0),(4,pB false),(5,pN i3)],⟨[some ⟨237,[pS pa.gAtom,bF pa.gList]⟩,some ⟨237,[pS pb.gAtom,bF pb.gList]⟩],[]⟩⟩) (fun _=>⟨[(4,pB false)],⟨[some ⟨237,[pS pa.gAtom,bF pa.gList]⟩,some ⟨237,[pS pb.gAtom,bF pb.gList]⟩],[]⟩⟩) (fK H) ?_ ?_
 ·rintro i3 ⟨⟩ H
  refine qS (qS (qR (q1 aE (q1 (a5 bK) (q1 (bD cX) (q1 (dL bL (aA.trs_len _)) (q1 gI (qN ?_))))))))
  refine dG H (fun h5 h5l H=>?_) (fun h5 H=>?_)
  ·have h5n:=a4 h5
   refine aR.skip (qS (aR.block (qS (dK H fun z6 H=>(bI H fun x8 z7 H=>(dW (dI [2] (a5 bK) (dD [27] (bD cX) (dI [5] aE (dI [28,29] (kP h5n bL) (dI [30] (kM (aA.cs (aW pa.gList i3)) bU) (dI [3] (a5 bK) (dD [32] (bD cX) ?_)))))))))))))
   refine dI [5] aE (dI [33,34] (kP z6 bL) (dI [35] (kM (aA.cs (aW pb.gList i3)) bU) (dI [31,36] (bG func248 (h_sEqualSExpr (aW pa.gList i3) (aW pb.gList i3) _ z7)) (dI [37] hQ (dN ?_)))))
   refine a8 H (fun h9 H=>?_) (fun h9 H=>?_)
   ·refine qW (q1 aE (qZ ?_))
    obtain rfl:_=r:=(mT (aX H):)
    exact bE
   refine aR.skip (qR (q1 aE (q1 (rA (i3+1)) (q1 aE (qN ?_)))))
   exact iI h5l ⟨_,(aX H:),bW⟩
  refine aR.exit ?_;exact jJ ⟨_,H,bW⟩
 rintro⟨⟩ H
 refine qW (q1 aE (qZ ?_))
 cases aX H
 exact bE
def f7:Nat→aA→aA→Option Bool
 |0,_,_=>none
 |fu+1,pa,pb=>BJ fu (f7 fu) pa pb
theorem SA(fu:Nat):vN (f7 fu):=by
 induction fu with
 |zero=>exact(fun pa pb r H=>by simp only [f7] at H;cases H)
 |succ fu ih=>exact(fun pa pb r H=>by simp only [f7] at H;exact PC fu (f7 fu) ih pa pb r H)
theorem uC(fu:Nat):vN (f7 fu):=(SA fu)
end
end Go.Proofs.YtpioomclpaiomaaGreat.W

namespace Go.Proofs.YtpioomclpaiomaaGreat.W
set_option maxRecDepth 100000
set_option maxHeartbeats 40000000
noncomputable section
open Tryz Go.RowKit Go.Proofs
attribute [local irreducible] lt
def an9(m:(LB)→ByteArray→Option Bool):Prop:= ∀(plist:LB) (ps:ByteArray) (r:Bool),m plist ps=some r→b4 Tryz.prog 125 [rS plist,pS ps] (pB r:PV)
def al1(fu:Nat)(plist:LB)(ps:ByteArray):Nat→Unit→Option (LR Unit Bool):=
 fun i1 _=>sw (decide (aW plist i1=ps))
 (some (.ret true))
 (some (.next ()))
def al2(fu:Nat)(plist:LB)(ps:ByteArray):Option (Bool⊕Unit):=
 loopN (al1 fu plist ps) (plist.length-0) 0 ()
def nQ(fu:Nat)(plist:LB)(ps:ByteArray):Option Bool:=
 so (al2 fu plist ps) (fun _=>
 some false)
theorem nR(fu:Nat):an9 (nQ fu):=by
 intro plist ps r H
 have H:=eE H
 refine qI func125 (fun C hC=>?_)
 refine qW (q1 aE (qN ?_))
 refine qS (qS (qR (q1 aE (qN ?_))))
 refine lD 0 (bC _) (fun hl2=>?_)
 refine b0 (σ:=Unit) (fun i1 _=>⟨[(0,rS plist),(1,pS ps),(4,pB false),(5,pN i1)],⟨[],[]⟩⟩) (fun _=>⟨[(4,pB false)],⟨[],[]⟩⟩) (fK H) ?_ ?_
 ·rintro i1 ⟨⟩ H
  refine qS (qS (qR ?_))
  iterate 2 refine q1 aE ?_
  refine q1 (dL b3 (bC _)) (q1 gI (qN ?_))
  refine dG H (fun h3 h3l H=>?_) (fun h3 H=>?_)
  ·have h3n:=a4 h3
   refine aR.skip (qS (aR.block (qS (qR ?_))))
   iterate 2 refine q1 aE ?_
   refine q1 (kP h3n b3) (q1 (kQ eJ) (q1 aE (q1 AM (qN ?_))))
   refine a8 H (fun h4 H=>?_) (fun h4 H=>?_)
   ·refine qW (q1 aE (qZ ?_))
    obtain rfl:_=r:=(mT (aX H):)
    exact bE
   refine aR.skip (qR (q1 aE (q1 (rA (i1+1)) (q1 aE (qN ?_)))))
   exact iI h3l ⟨_,(aX H:),bW⟩
  refine aR.exit ?_;exact jJ ⟨_,H,bW⟩
 rintro⟨⟩ H
 refine qW (q1 aE (qZ ?_))
 cases aX H
 exact bE
def W5(m:ByteArray→Option Bool):Prop:= ∀(ps:ByteArray) (r:Bool),m ps=some r→b4 Tryz.prog 254 [pS ps] (pB r:PV)
def BL(fu:Nat)(ps:ByteArray):Option Bool:=
 bd (nQ fu ([fC,eX,fX,xJ,D1,ER,w7,ES,jD,w8,pK,l8]:LB) ps) (fun x2=>
 some x2)
theorem U4(fu:Nat):W5 (BL fu):=by
 intro ps r H
 have H:=eE H
 refine qI func254 (fun C hC=>?_)
 refine qW (q1 aE (qN (qW (q1 (j9 ([fC,eX,fX,xJ,D1,ER,w7,ES,jD,w8,pK,l8]:LB) b3 lU) (q1 aE (bI H fun x2 z1 H=>(q1 (bG func125 (nR fu ([fC,eX,fX,xJ,D1,ER,w7,ES,jD,w8,pK,l8]:LB) ps _ z1)) (q1 aE (qZ ?_)))))))))
 cases aX H
 exact bE
def U7(m:ByteArray→Option Bool):Prop:= ∀(ps:ByteArray) (r:Bool),m ps=some r→b4 Tryz.prog 235 [pS ps] (pB r:PV)
def SH(fu:Nat)(ps:ByteArray)(x2 x5:Bool):Nat→Unit→Option (LR Unit Bool):=
 fun i7 _=>gd (i7<(ps).size)
 (sw (decide ((((C1 ps i7).toNat:Int):Int)≥97))
 (sw (!(decide ((((C1 ps i7).toNat:Int):Int)≤122)))
 (sw (decide ((i7:Int)=0))
 (some (.ret false))
 (sw (decide ((((C1 ps i7).toNat:Int):Int)<48))
 (some (.ret false))
 (sw (decide ((((C1 ps i7).toNat:Int):Int)>57))
 (some (.ret false))
 (some (.next ())))))
 (some (.next ())))
 (sw (decide ((i7:Int)=0))
 (some (.ret false))
 (sw (decide ((((C1 ps i7).toNat:Int):Int)<48))
 (some (.ret false))
 (sw (decide ((((C1 ps i7).toNat:Int):Int)>57))
 (some (.ret false))
 (some (.next ()))))))
def SI(fu:Nat)(ps:ByteArray)(x2 x5:Bool):Option (Bool⊕Unit):=
 loopN (SH fu ps x2 x5) (ps.size-0) 0 ()
def dU(fu:Nat)(ps:ByteArray):Option Bool:=
 bd (rG fu (ps.size:Int) 1 8) (fun x2=>
 sw (!(x2))
 (some false)
 (bd (BL fu ps) (fun x5=>
 sw (x5)
 (some false)
 (so (SI fu ps x2 x5) (fun _=>
 some true)))))
theorem eC(fu:Nat):U7 (dU fu):=by
 intro ps r H
 have H:=eE H
 refine qI func235 (fun C hC=>?_)
 refine qW (q1 aE (qN ?_))
 refine qS (qS (qR (q1 aE (q1 (a3.lenS rfl rfl rfl Tryz.underlying9) (bI H fun x2 z1 H=>(q1 (bG func108 (zV fu (ps.size:Int) 1 8 _ z1)) (q1 hQ (q1 aE ?_))))))))
 refine eF 9 H (fun g3 H=>?_) fun g3 H=>?_
 ·refine qk g3 (qk g3 (q1 (bV g3) (qN (eL rfl (qW (q1 aE (qZ ?_)))))))
  cases aX H
  exact bE
 refine qg g3 aE (bI H fun x5 z4 H=>(qg g3 (bG func254 (U4 fu ps _ z4)) (q1 (b9 g3) (qN ?_))))
 refine a8 H (fun h6 H=>?_) (fun h6 H=>?_)
 ·refine qW (q1 aE (qZ ?_))
  cases aX H
  exact bE
 refine aR.skip ?_
 refine qS (qS (qR (q1 aE (qN ?_))))
 refine szF 0 (fun hl8=>?_)
 refine b0 (σ:=Unit) (fun i7 _=>⟨[(0,pS ps),(2,pB false),(3,pN i7)],⟨[],[]⟩⟩) (fun _=>⟨[(2,pB false)],⟨[],[]⟩⟩) (fK H) ?_ ?_
 ·rintro i7 ⟨⟩ H
  refine qS (qS (qR ?_))
  iterate 2 refine q1 aE ?_
  refine q1 (a3.lenS rfl rfl rfl Tryz.underlying9) (q1 gI (qN ?_))
  refine dG H (fun h9 h9l H=>?_) (fun h9 H=>?_)
  ·have h9n:i7<ps.size:=by have:=of_decide_eq_true h9;omega
   refine aR.skip (qS (aR.block (qS (qR ?_))))
   iterate 2 refine q1 aE ?_
   refine dK H fun z10 H=>(q1 (a3.indexS (k:=i7) rfl rfl rfl rfl z10 Tryz.underlying9) (q1 S8 (q1 aE ?_)))
   refine eF 23 H (fun g11 H=>?_) fun g11 H=>?_
   ·refine qg g11 aE (qg g11 aE (qg g11 (a3.indexS (k:=i7) rfl rfl rfl rfl z10 Tryz.underlying9) (qg g11 rLe (q1 (bV g11) (q1 aE (qN (qW (q1 aE (q1 hQ (q1 aE ?_))))))))))
    refine eF 31 H (fun g12 H=>?_) fun g12 H=>?_
    ·refine qg g12 aE (qg g12 dM (qg g12 aE ?_))
     refine eF 34 H (fun g13 H=>?_) fun g13 H=>?_
     ·refine qk g13 ?_
      iterate 3 refine qk g13 ?_
      refine qg g12 (bV g13) (qg g12 aE ?_)
      iterate 4 refine qk rfl ?_
      refine qg g12 (bV rfl) (q1 (bV g12) (qN (eL rfl (qW (q1 aE (qZ ?_))))))
      obtain rfl:_=r:=(mT (aX H):)
      exact bE
     iterate 2 refine qg g13 aE ?_
     refine qg g13 (a3.indexS (k:=i7) rfl rfl rfl rfl z10 Tryz.underlying9) (qg g13 gI (qg g12 (b9 g13) (qg g12 aE ?_)))
     refine eF 40 H (fun g14 H=>?_) fun g14 H=>?_
     ·refine qk g14 ?_
      iterate 3 refine qk g14 ?_
      refine qg g12 (bV g14) (q1 (bV g12) (qN (eL rfl (qW (q1 aE (qZ ?_))))))
      obtain rfl:_=r:=(mT (aX H):)
      exact bE
     iterate 2 refine qg g14 aE ?_
     refine qg g14 (a3.indexS (k:=i7) rfl rfl rfl rfl z10 Tryz.underlying9) (qg g14 KL (qg g12 (b9 g14) (q1 (bV g12) (qN ?_))))
     refine a8 H (fun h15 H=>?_) (fun h15 H=>?_)
     ·refine qW (q1 aE (qZ ?_))
      obtain rfl:_=r:=(mT (aX H):)
      exact bE
     refine aR.skip (qR (q1 aE (q1 (rA (i7+1)) (q1 aE (qN ?_)))))
     exact iI h9l ⟨_,(aX H:),bW⟩
    iterate 3 refine qk g12 ?_
    iterate 4 refine MY ?_
    iterate 2 refine qk g12 ?_
    iterate 4 refine MY ?_
    refine qk g12 (q1 (b9 g12) (qN (jR rfl (aR.skip (qR (q1 aE (q1 (rA (i7+1)) (q1 aE (qN ?_)))))))))
    exact iI h9l ⟨_,(aX H:),bW⟩
   iterate 4 refine qk g11 ?_
   refine q1 (b9 g11) (q1 aE (qN (qW (q1 aE (q1 hQ (q1 aE (qg (congrArg (fun b=> !b) (rfl:false=false)) aE (qg (congrArg (fun b=> !b) (rfl:false=false)) dM (qg (congrArg (fun b=> !b) (rfl:false=false)) aE ?_)))))))))
   refine eF 34 H (fun g16 H=>?_) fun g16 H=>?_
   ·refine qk g16 ?_
    iterate 3 refine qk g16 ?_
    refine qg (congrArg (fun b=> !b) (rfl:false=false)) (bV g16) (qg (congrArg (fun b=> !b) (rfl:false=false)) aE ?_)
    iterate 4 refine qk rfl ?_
    refine qg (congrArg (fun b=> !b) (rfl:false=false)) (bV rfl) (q1 (bV (congrArg (fun b=> !b) (rfl:false=false))) (qN (eL rfl (qW (q1 aE (qZ ?_))))))
    obtain rfl:_=r:=(mT (aX H):)
    exact bE
   iterate 2 refine qg g16 aE ?_
   refine qg g16 (a3.indexS (k:=i7) rfl rfl rfl rfl z10 Tryz.underlying9) (qg g16 gI (qg (congrArg (fun b=> !b) (rfl:false=false)) (b9 g16) (qg (congrArg (fun b=> !b) (rfl:false=false)) aE ?_)))
   refine eF 40 H (fun g17 H=>?_) fun g17 H=>?_
   ·refine qk g17 ?_
    iterate 3 refine qk g17 ?_
    refine qg (congrArg (fun b=> !b) (rfl:false=false)) (bV g17) (q1 (bV (congrArg (fun b=> !b) (rfl:false=false))) (qN (eL rfl (qW (q1 aE (qZ ?_))))))
    obtain rfl:_=r:=(mT (aX H):)
    exact bE
   iterate 2 refine qg g17 aE ?_
   refine qg g17 (a3.indexS (k:=i7) rfl rfl rfl rfl z10 Tryz.underlying9) (qg g17 KL (qg (congrArg (fun b=> !b) (rfl:false=false)) (b9 g17) (q1 (bV (congrArg (fun b=> !b) (rfl:false=false))) (qN ?_))))
   refine a8 H (fun h18 H=>?_) (fun h18 H=>?_)
   ·refine qW (q1 aE (qZ ?_))
    obtain rfl:_=r:=(mT (aX H):)
    exact bE
   refine aR.skip (qR (q1 aE (q1 (rA (i7+1)) (q1 aE (qN ?_)))))
   exact iI h9l ⟨_,(aX H:),bW⟩
  refine aR.exit ?_;exact jJ ⟨_,H,bW⟩
 rintro⟨⟩ H
 refine qW (q1 aE (qZ ?_))
 cases aX H
 exact bE
def aiK(m:(LB)→Option Bool):Prop:= ∀(plist:LB) (r:Bool),m plist=some r→b4 Tryz.prog 255 [rS plist] (pB r:PV)
def afI(fu:Nat)(plist:LB):Nat→Unit→Option (LR Unit Bool):=
 fun i1 _=>bd (dU fu (aW plist i1)) (fun x5=>
 sw (!(x5))
 (some (.ret false))
 (some (.next ())))
def afJ(fu:Nat)(plist:LB):Option (Bool⊕Unit):=
 loopN (afI fu plist) (plist.length-0) 0 ()
def EF(fu:Nat)(plist:LB):Option Bool:=
 so (afJ fu plist) (fun _=>
 some true)
theorem RI(fu:Nat):aiK (EF fu):=by
 intro plist r H
 have H:=eE H
 refine qI func255 (fun C hC=>?_)
 refine qW (q1 aE (qN ?_))
 refine qS (qS (qR (q1 aE (qN ?_))))
 refine lD 0 (bC _) (fun hl2=>?_)
 refine b0 (σ:=Unit) (fun i1 _=>⟨[(0,rS plist),(2,pB false),(3,pN i1)],⟨[],[]⟩⟩) (fun _=>⟨[(2,pB false)],⟨[],[]⟩⟩) (fK H) ?_ ?_
 ·rintro i1 ⟨⟩ H
  refine qS (qS (qR ?_))
  iterate 2 refine q1 aE ?_
  refine q1 (dL b3 (bC _)) (q1 gI (qN ?_))
  refine dG H (fun h3 h3l H=>?_) (fun h3 H=>?_)
  ·have h3n:=a4 h3
   refine aR.skip (qS (aR.block (qS (qR ?_))))
   iterate 2 refine q1 aE ?_
   refine q1 (kP h3n b3) (q1 (kQ eJ) (bI H fun x5 z4 H=>(q1 (bG func235 (eC fu (aW plist i1) _ z4)) (q1 hQ (qN ?_)))))
   refine a8 H (fun h6 H=>?_) (fun h6 H=>?_)
   ·refine qW (q1 aE (qZ ?_))
    obtain rfl:_=r:=(mT (aX H):)
    exact bE
   refine aR.skip (qR (q1 aE (q1 (rA (i1+1)) (q1 aE (qN ?_)))))
   exact iI h3l ⟨_,(aX H:),bW⟩
  refine aR.exit ?_;exact jJ ⟨_,H,bW⟩
 rintro⟨⟩ H
 refine qW (q1 aE (qZ ?_))
 cases aX H
 exact bE
def UR(m:(LB)→Option Bool):Prop:= ∀(plist:LB) (r:Bool),m plist=some r→b4 Tryz.prog 237 [rS plist] (pB r:PV)
def R5(fu:Nat)(plist:LB):Nat→Unit→Option (LR Unit Bool):=
 fun i1 _=>gd ((0:Int)≤0∧(0:Int)≤(i1:Int)∧(i1:Int)≤(plist.length:Int))
 (bd (nQ fu (List.drop (0:Int).toNat (List.take (i1:Int).toNat plist)) (aW plist i1)) (fun x6=>
 sw (x6)
 (some (.ret false))
 (some (.next ()))))
def R6(fu:Nat)(plist:LB):Option (Bool⊕Unit):=
 loopN (R5 fu plist) (plist.length-0) 0 ()
def kI(fu:Nat)(plist:LB):Option Bool:=
 so (R6 fu plist) (fun _=>
 some true)
theorem mC(fu:Nat):UR (kI fu):=by
 intro plist r H
 have H:=eE H
 refine qI func237 (fun C hC=>?_)
 refine qW (q1 aE (qN ?_))
 refine qS (qS (qR (q1 aE (qN ?_))))
 refine lD 0 (bC _) (fun hl2=>?_)
 refine b0 (σ:=Unit) (fun i1 _=>⟨[(0,rS plist),(2,pB false),(3,pN i1)],⟨[],[]⟩⟩) (fun _=>⟨[(2,pB false)],⟨[],[]⟩⟩) (fK H) ?_ ?_
 ·rintro i1 ⟨⟩ H
  refine qS (qS (qR ?_))
  iterate 2 refine q1 aE ?_
  refine q1 (dL b3 (bC _)) (q1 gI (qN ?_))
  refine dG H (fun h3 h3l H=>?_) (fun h3 H=>?_)
  ·have h3n:=a4 h3
   refine aR.skip (qS (aR.block (qS (dK H fun z4 H=>(bI H fun x6 z5 H=>(dW (dI [0] aE (dI [3] aE ?_))))))))
   refine dI [10,11] (a3.congrP (a3.sliceR (es:=aZ (plist)) (l:=0) (k:=(i1:Int)) rfl rfl rfl rfl rfl (by rw [bC];exact rfl) (by rw [bC];exact z4) b3) (afS _ _ _)) ?_;refine dI [0] aE (dI [3] aE (dI [13,14] (kP h3n b3) (dI [15] (kQ eJ) (dI [12,16] (bG func125 (nR fu (List.drop (0:Int).toNat (List.take (i1:Int).toNat plist)) (aW plist i1) _ z5)) (dN ?_)))))
   refine a8 H (fun h7 H=>?_) (fun h7 H=>?_)
   ·refine qW (q1 aE (qZ ?_))
    obtain rfl:_=r:=(mT (aX H):)
    exact bE
   refine aR.skip (qR (q1 aE (q1 (rA (i1+1)) (q1 aE (qN ?_)))))
   exact iI h3l ⟨_,(aX H:),bW⟩
  refine aR.exit ?_;exact jJ ⟨_,H,bW⟩
 rintro⟨⟩ H
 refine qW (q1 aE (qZ ?_))
 cases aX H
 exact bE
def afO(m:ByteArray→Option aB):Prop:= ∀(ps:ByteArray) (r:aB),m ps=some r→CV Tryz.prog 118 [pS ps] ⟨[],[]⟩ [] 35 3 (aB.trs (r.gArgs)) (fun k=> .agg [pI r.gKind,pS r.gName,jA r.gArgs k])
theorem lS{m:ByteArray→Option aB}(h:afO m)(ps:ByteArray)(r:aB)(H:m ps=some r):b4 Tryz.prog 118 [pS ps] ((aB.pv r):PV):=(h ps r H).plain (fun _=>iX) (hp:=agM)
def nS(fu:Nat)(ps:ByteArray):Option aB:=
 some (aB.mk 1 ps [])
theorem kT(fu:Nat):afO (nS fu):=by
 intro ps r H
 unfold CV
 have H:=eE H
 refine qI func118 (fun C hC=>?_)
 refine qW (q1 (fO jN) (qN (qW (q1 aE (q1 (gW jN EX) (q1 (bR jE) (qN (aR.wk (Wk.regBox (k:=0) (j:=2) 35 3 (by decide) rfl rfl) (aR.ret ?_)))))))))
 cases aX H
 exact bE (st':=⟨[],[⟨35,3,aB.trs ([]),false⟩]⟩) ⟨0,rfl,rfl,rfl⟩ (hr:=⟨⟨_,_,_,rfl,rfl,cU,rfl,rfl⟩,trivial⟩)
def afK(m:ByteArray→(List aB)→Option aB):Prop:= ∀(ps:ByteArray) (pargs:List aB) (r:aB),m ps pargs=some r→CV Tryz.prog 85 [pS ps,a7 pargs] ⟨[],[]⟩ [] 35 3 (aB.trs (r.gArgs)) (fun k=> .agg [pI r.gKind,pS r.gName,jA r.gArgs k])
theorem yO{m:ByteArray→(List aB)→Option aB}(h:afK m)(ps:ByteArray)(pargs:List aB)(r:aB)(H:m ps pargs=some r):b4 Tryz.prog 85 [pS ps,a7 pargs] ((aB.pv r):PV):=(h ps pargs r H).plain (fun _=>iX) (hp:=agM)
def jQ(fu:Nat)(ps:ByteArray)(pargs:List aB):Option aB:=
 gd (([]:List aB).length+(pargs).length≤68719476736)
 (some (aB.mk 2 ps (([])++pargs)))
theorem jI(fu:Nat):afK (jQ fu):=by
 intro ps pargs r H
 unfold CV
 have H:=eE H
 refine qI func85 (fun C hC=>?_)
 refine qW (q1 (fO jN) (qN (qW (q1 aE (q1 (uK ([]:List aB) eU jN) (q1 aE (dK H fun z1 H=>(q1 (nV z1 eU aoT) (q1 (gW jN EX) (q1 (bR jE) (qN ?_)))))))))))
 refine aR.ret ?_
 cases aX H
 exact bE (st':=⟨[],[⟨35,3,aB.trs (([])++pargs),false⟩]⟩) ⟨0,rfl,rfl,rfl⟩ (hr:=⟨⟨_,_,_,rfl,rfl,cU,rfl,rfl⟩,trivial⟩)
abbrev EG:=aA→Option aB
def TA(m:EG):Prop:= ∀(pa0:aA) (r:aB),m pa0=some r→b4 Tryz.prog 246 [(aA.pv pa0)] ((aB.pv r):PV)
def aoJ(fu:Nat)(r_sl5Ty:EG)(pa0:aA):Nat→((List aB))→Option (LR ((List aB)) aB):=
 fun i11 v13=>bd (r_sl5Ty (aW pa0.gList i11)) (fun x17=>
 gd ((v13).length+(([x17]:List aB)).length≤68719476736)
 (some (.next (v13++([x17]:List aB)))))
def aoK(fu:Nat)(r_sl5Ty:EG)(pa0:aA):Option (aB⊕((List aB))):=
 loopN (aoJ fu r_sl5Ty pa0) (pa0.gList.length-1) 1 ([])
def abT(fu:Nat)(r_sl5Ty:EG)(pa0:aA):Option aB:=
 sw (!decide (pa0.gAtom=s_))
 (gd (0<(pa0.gAtom).size)
 (sw (decide ((((C1 pa0.gAtom 0).toNat:Int):Int)=39))
 (gd ((0:Int)≤1∧(1:Int)≤(pa0.gAtom.size:Int)∧(pa0.gAtom.size:Int)≤(pa0.gAtom.size:Int))
 (bd (nS fu (pa0.gAtom.extract (1:Int).toNat (pa0.gAtom.size:Int).toNat)) (fun x6=>
 some x6)))
 (bd (jQ fu pa0.gAtom ([])) (fun x8=>
 some x8))))
 (sw (decide ((pa0.gList.length:Int)<2))
 (some (aB.mk 0 s_ []))
 (gd (0<(pa0.gList).length)
 (so (aoK fu r_sl5Ty pa0) (fun v13=>
 sw (decide ((aW pa0.gList 0).gAtom=fX))
 (sw (decide ((v13.length:Int)=2))
 (gd (1<(pa0.gList).length)
 (sw (!decide ((aW pa0.gList 1).gAtom=s_))
 (gd ((0:Int)≤1∧(1:Int)≤(v13.length:Int)∧(v13.length:Int)≤(v13.length:Int))
 (some (aB.mk 3 ((aW pa0.gList 1).gAtom) (List.drop (1:Int).toNat (List.take (v13.length:Int).toNat v13)))))
 (sw (decide ((aW pa0.gList 0).gAtom=xJ))
 (some (aB.mk 2 ((aW pa0.gList 0).gAtom) v13))
 (some (aB.mk 2 ((aW pa0.gList 0).gAtom) v13)))))
 (sw (decide ((aW pa0.gList 0).gAtom=xJ))
 (sw (decide ((v13.length:Int)=1))
 (gd (1<(pa0.gList).length)
 (sw (!decide ((aW pa0.gList 1).gAtom=s_))
 (some (aB.mk 4 ((aW pa0.gList 1).gAtom) []))
 (some (aB.mk 2 ((aW pa0.gList 0).gAtom) v13))))
 (some (aB.mk 2 ((aW pa0.gList 0).gAtom) v13)))
 (some (aB.mk 2 ((aW pa0.gList 0).gAtom) v13))))
 (sw (decide ((aW pa0.gList 0).gAtom=xJ))
 (sw (decide ((v13.length:Int)=1))
 (gd (1<(pa0.gList).length)
 (sw (!decide ((aW pa0.gList 1).gAtom=s_))
 (some (aB.mk 4 ((aW pa0.gList 1).gAtom) []))
 (some (aB.mk 2 ((aW pa0.gList 0).gAtom) v13))))
 (some (aB.mk 2 ((aW pa0.gList 0).gAtom) v13)))
 (some (aB.mk 2 ((aW pa0.gList 0).gAtom) v13)))))))
theorem ajB(fu:Nat)(r_sl5Ty:EG)(h_sl5Ty:TA r_sl5Ty):TA (abT fu r_sl5Ty):=by
 intro pa0 r H
 have H:=eE H
 refine qI func246 (fun C hC=>?_)
 refine qW (q1 (iM ([pS pa0.gAtom,bF pa0.gList])) (q1 (fO jN) (qN ?_)))
 refine qS (qS (qR (q1 (a5 fT) (q1 (bD eJ) (q1 WA (qN ?_))))))
 refine a8 H (fun h1 H=>?_) (fun h1 H=>?_)
 ·refine qS (qW (q1 (a5 fT) (q1 (bD eJ) (dK H fun z2 H=>(q1 (a3.indexS (k:=0) rfl rfl rfl rfl z2 Tryz.underlying9) (q1 dM (qN ?_)))))))
  refine a8 H (fun h3 H=>?_) (fun h3 H=>?_)
  ·refine qW (q1 (a5 fT) (q1 (bD eJ) (dK H fun z4 H=>(q1 (a3.sliceS (l:=1) (k:=(pa0.gAtom.size:Int)) rfl rfl rfl rfl rfl z4 Tryz.underlying9) (bI H fun x6 z5 H=>(q1 (bG func118 (lS (kT fu) (pa0.gAtom.extract (1:Int).toNat (pa0.gAtom.size:Int).toNat) _ z5)) (q1 (bR jE) (qZ ?_))))))))
   cases aX H
   exact bE (hr:=⟨⟨_,_,_,rfl,rfl,cU,rfl,rfl⟩,trivial⟩)
  refine aR.skip (qW (q1 (a5 fT) (q1 (bD eJ) (bI H fun x8 z7 H=>(q1 (bG func85 (yO (jI fu) pa0.gAtom ([]) _ z7)) (q1 (bR jE) (qZ ?_)))))))
  cases aX H
  exact bE (hr:=⟨⟨_,_,_,rfl,rfl,cU,rfl,rfl⟩,trivial⟩)
 refine aR.skip ?_
 refine qS (qS (qR (q1 (a5 bK) (q1 (bD cX) (q1 (dL bL (aA.trs_len _)) (q1 gI (qN ?_)))))))
 refine a8 H (fun h9 H=>?_) (fun h9 H=>?_)
 ·have h9n:pa0.gList.length<2:=by have:=of_decide_eq_true h9;omega
  refine qW (q1 (gW jN EX) (q1 (bR jE) (qZ ?_)))
  cases aX H
  exact bE (hr:=⟨⟨_,_,_,rfl,rfl,cU,rfl,rfl⟩,trivial⟩)
 refine aR.skip (qW (q1 (a5 bK) (q1 (bD cX) (dK H fun z10 H=>(q1 (kP z10 bL) (q1 (lR fT) (q1 (kQ eJ) (q1 aE (qN (qW (q1 (uK ([]:List aB) eU jN) ?_)))))))))))
 refine q1 aE (qN ?_)
 refine qS (qS (qR (q1 aE (qN ?_))))
 refine lD 21 (aA.trs_len _) (fun hl14=>?_)
 refine b0 (σ:=(List aB)) (fun i11 v13=>⟨[(1,.ptr 0 0),(2,.ptr 1 0),(3,pS ((aW pa0.gList 0).gAtom)),(4,jA v13 0),(5,pN i11)],⟨[some ⟨237,[pS pa0.gAtom,bF pa0.gList]⟩,some ⟨35,[pI 0,pS s_,.nil]⟩],[⟨35,3,aB.trs (v13),false⟩]⟩⟩) (fun v13=>⟨[(1,.ptr 0 0),(2,.ptr 1 0),(3,pS ((aW pa0.gList 0).gAtom)),(4,jA v13 0)],⟨[some ⟨237,[pS pa0.gAtom,bF pa0.gList]⟩,some ⟨35,[pI 0,pS s_,.nil]⟩],[⟨35,3,aB.trs (v13),false⟩]⟩⟩) (fK H) ?_ ?_
 ·rintro i11 v13 H
  refine qS (qS (qR (q1 aE (q1 (a5 bK) (q1 (bD cX) (q1 (dL bL (aA.trs_len _)) (q1 gI (qN ?_))))))))
  refine dG H (fun h15 h15l H=>?_) (fun h15 H=>?_)
  ·have h15n:=a4 h15
   refine aR.skip (qS (aR.block (qR (q1 aE (q1 (a5 bK) (q1 (bD cX) (q1 aE (q1 (kP h15n bL) (q1 (kM (aA.cs (aW pa0.gList i11)) bU) (bI H fun x17 z16 H=>(q1 (bG func246 (h_sl5Ty (aW pa0.gList i11) _ z16)) (q1 (j9 ([x17]:List aB) eU jN) (dK H fun z18 H=>?_)))))))))))))
   refine q1 (nV z18 eU aoT) (q1 aE (qN (qR (q1 aE (q1 (rA (i11+1)) (q1 aE (qN ?_)))))))
   exact iI h15l ⟨_,(aX H:),bW⟩
  refine aR.exit ?_;exact jJ ⟨_,H,bW⟩
 rintro v13 H
 refine qS (aR.block (qW (q1 aE (q1 AM (q1 aE ?_)))))
 refine eF 50 H (fun g19 H=>?_) fun g19 H=>?_
 ·refine qg g19 aE (qg g19 (dL eU (aB.trs_len _)) (qg g19 dM (q1 (bV g19) (q1 aE ?_))))
  refine eF 55 H (fun g20 H=>?_) fun g20 H=>?_
  ·refine qg g20 (a5 bK) (qg g20 (bD cX) (dK H fun z21 H=>(qg g20 (kP z21 bL) (qg g20 (lR fT) (qg g20 (kQ eJ) (qg g20 WA (q1 (bV g20) (q1 aE (qN ?_)))))))))
   refine a8 H (fun h22 H=>?_) (fun h22 H=>?_)
   ·refine qS (dK H fun z23 H=>(dW (dI [1] (a5 bK) (dD [63] (bD cX) (dI [64] (kP z21 bL) (dI [65] (lR fT) (dI [66] (kQ eJ) (dI [4] aE ?_))))))))
    refine dI [68] (a3.congrP (a3.sliceR (es:=aB.trs (v13)) (l:=1) (k:=(v13.length:Int)) rfl rfl rfl rfl rfl (by rw [aB.trs_len];exact rfl) (by rw [aB.trs_len];exact z23) eU) (aB.trs_part _ _ _)) ?_;refine dI [67,69] (gW jN EX) (lH [2,70] (bR jE) (dN (aR.ret ?_)))
    cases aX H
    exact bE (hr:=⟨⟨_,_,_,rfl,rfl,cU,rfl,rfl⟩,trivial⟩)
   refine qW (q1 aE (q1 AM (q1 aE ?_)))
   refine eF 74 H (fun g24 H=>?_) fun g24 H=>?_
   ·refine qg g24 aE (qg g24 (dL eU (aB.trs_len _)) (qg g24 dM (q1 (bV g24) (q1 aE ?_))))
    iterate 6 refine qk (dne (b:=1) g20 (by decide)) ?_
    refine q1 (b9 (dne (b:=1) g20 (by decide))) (q1 aE (qN (jR rfl (aR.skip (qS (qR ?_))))))
    iterate 2 refine q1 aE ?_
    refine q1 (gW jN EX) (q1 (bR jE) (qZ ?_))
    cases aX H
    exact bE (hr:=⟨⟨_,_,_,rfl,rfl,cU,rfl,rfl⟩,trivial⟩)
   iterate 3 refine qk g24 ?_
   refine q1 (b9 g24) (q1 aE ?_)
   iterate 6 refine qk rfl ?_
   refine q1 (b9 rfl) (q1 aE (qN (jR rfl (aR.skip (qS (qR ?_))))))
   iterate 2 refine q1 aE ?_
   refine q1 (gW jN EX) (q1 (bR jE) (qZ ?_))
   cases aX H
   exact bE (hr:=⟨⟨_,_,_,rfl,rfl,cU,rfl,rfl⟩,trivial⟩)
  iterate 6 refine qk g20 ?_
  refine q1 (b9 g20) (q1 aE (qN (jR rfl (qW (q1 aE (q1 AM (q1 aE ?_)))))))
  refine eF 74 H (fun g25 H=>?_) fun g25 H=>?_
  ·refine qg g25 aE (qg g25 (dL eU (aB.trs_len _)) (qg g25 dM (q1 (bV g25) (q1 aE ?_))))
   refine eF 79 H (fun g26 H=>?_) fun g26 H=>?_
   ·refine qg g26 (a5 bK) (qg g26 (bD cX) (dK H fun z27 H=>(qg g26 (kP z27 bL) (qg g26 (lR fT) (qg g26 (kQ eJ) (qg g26 WA (q1 (bV g26) (q1 aE (qN ?_)))))))))
    refine a8 H (fun h28 H=>?_) (fun h28 H=>?_)
    ·refine qW (q1 (a5 bK) (q1 (bD cX) (q1 (kP z27 bL) (q1 (lR fT) (q1 (kQ eJ) (q1 (gW jN EX) (q1 (bR jE) (qZ ?_))))))))
     cases aX H
     exact bE (hr:=⟨⟨_,_,_,rfl,rfl,cU,rfl,rfl⟩,trivial⟩)
    refine aR.skip (qS (qR ?_))
    iterate 2 refine q1 aE ?_
    refine q1 (gW jN EX) (q1 (bR jE) (qZ ?_))
    cases aX H
    exact bE (hr:=⟨⟨_,_,_,rfl,rfl,cU,rfl,rfl⟩,trivial⟩)
   iterate 6 refine qk g26 ?_
   refine q1 (b9 g26) (q1 aE (qN (jR rfl (aR.skip (qS (qR ?_))))))
   iterate 2 refine q1 aE ?_
   refine q1 (gW jN EX) (q1 (bR jE) (qZ ?_))
   cases aX H
   exact bE (hr:=⟨⟨_,_,_,rfl,rfl,cU,rfl,rfl⟩,trivial⟩)
  iterate 3 refine qk g25 ?_
  refine q1 (b9 g25) (q1 aE ?_)
  iterate 6 refine qk rfl ?_
  refine q1 (b9 rfl) (q1 aE (qN (jR rfl (aR.skip (qS (qR ?_))))))
  iterate 2 refine q1 aE ?_
  refine q1 (gW jN EX) (q1 (bR jE) (qZ ?_))
  cases aX H
  exact bE (hr:=⟨⟨_,_,_,rfl,rfl,cU,rfl,rfl⟩,trivial⟩)
 iterate 3 refine qk g19 ?_
 refine q1 (b9 g19) (q1 aE ?_)
 iterate 6 refine qk rfl ?_
 refine q1 (b9 rfl) (q1 aE (qN (jR rfl (qW (q1 aE (q1 AM (q1 aE ?_)))))))
 refine eF 74 H (fun g29 H=>?_) fun g29 H=>?_
 ·refine qg g29 aE (qg g29 (dL eU (aB.trs_len _)) (qg g29 dM (q1 (bV g29) (q1 aE ?_))))
  refine eF 79 H (fun g30 H=>?_) fun g30 H=>?_
  ·refine qg g30 (a5 bK) (qg g30 (bD cX) (dK H fun z31 H=>(qg g30 (kP z31 bL) (qg g30 (lR fT) (qg g30 (kQ eJ) (qg g30 WA (q1 (bV g30) (q1 aE (qN ?_)))))))))
   refine a8 H (fun h32 H=>?_) (fun h32 H=>?_)
   ·refine qW (q1 (a5 bK) (q1 (bD cX) (q1 (kP z31 bL) (q1 (lR fT) (q1 (kQ eJ) (q1 (gW jN EX) (q1 (bR jE) (qZ ?_))))))))
    cases aX H
    exact bE (hr:=⟨⟨_,_,_,rfl,rfl,cU,rfl,rfl⟩,trivial⟩)
   refine aR.skip (qS (qR ?_))
   iterate 2 refine q1 aE ?_
   refine q1 (gW jN EX) (q1 (bR jE) (qZ ?_))
   cases aX H
   exact bE (hr:=⟨⟨_,_,_,rfl,rfl,cU,rfl,rfl⟩,trivial⟩)
  iterate 6 refine qk g30 ?_
  refine q1 (b9 g30) (q1 aE (qN (jR rfl (aR.skip (qS (qR ?_))))))
  iterate 2 refine q1 aE ?_
  refine q1 (gW jN EX) (q1 (bR jE) (qZ ?_))
  cases aX H
  exact bE (hr:=⟨⟨_,_,_,rfl,rfl,cU,rfl,rfl⟩,trivial⟩)
 iterate 3 refine qk g29 ?_
 refine q1 (b9 g29) (q1 aE ?_)
 iterate 6 refine qk rfl ?_
 refine q1 (b9 rfl) (q1 aE (qN (jR rfl (aR.skip (qS (qR ?_))))))
 iterate 2 refine q1 aE ?_
 refine q1 (gW jN EX) (q1 (bR jE) (qZ ?_))
 cases aX H
 exact bE (hr:=⟨⟨_,_,_,rfl,rfl,cU,rfl,rfl⟩,trivial⟩)
def mS:Nat→aA→Option aB
 |0,_=>none
 |fu+1,pa0=>abT fu (mS fu) pa0
theorem amJ(fu:Nat):TA (mS fu):=by
 induction fu with
 |zero=>exact(fun pa0 r H=>by simp only [mS] at H;cases H)
 |succ fu ih=>exact(fun pa0 r H=>by simp only [mS] at H;exact ajB fu (mS fu) ih pa0 r H)
theorem wK(fu:Nat):TA (mS fu):=(amJ fu)
abbrev yF:=aB→Option aA
def S9(m:yF):Prop:= ∀(pa0:aB) (r:aA),m pa0=some r→b4 Tryz.prog 269 [(aB.pv pa0)] ((aA.pv r):PV)
def aoE(fu:Nat)(r_sl5Sx:yF)(pa0:aB):Option (aA⊕Unit):=
 sw (decide (pa0.gKind=1))
 (gd ((amQ).size+(pa0.gName).size≤1099511627776)
 (bd (cF fu (amQ++pa0.gName)) (fun x4=>
 some (.inl x4))))
 (sw (decide (pa0.gKind=4))
 (bd (cF fu xJ) (fun x7=>
 bd (cF fu pa0.gName) (fun x9=>
 bd (mE fu ([x7,x9]:List aA)) (fun x11=>
 some (.inl x11)))))
 (sw (decide (pa0.gKind=2))
 (sw (decide ((pa0.gArgs.length:Int)=0))
 (bd (cF fu pa0.gName) (fun x15=>
 some (.inl x15)))
 (some (.inr ())))
 (some (.inr ()))))
def aoF(fu:Nat)(r_sl5Sx:yF)(pa0:aB):Option (aA⊕((List aA))):=
 sw (decide (pa0.gKind=3))
 (bd (cF fu fX) (fun x20=>
 gd (([]:List aA).length+(([x20]:List aA)).length≤68719476736)
 (some (.inr (([])++([x20]:List aA))))))
 (some (.inr ([])))
def aoG(fu:Nat)(r_sl5Sx:yF)(pa0:aB)(v17:List aA)(x23:aA):Nat→((List aA))→Option (LR ((List aA)) aA):=
 fun i25 v27=>bd (r_sl5Sx (aW pa0.gArgs i25)) (fun x31=>
 gd ((v27).length+(([x31]:List aA)).length≤68719476736)
 (some (.next (v27++([x31]:List aA)))))
def aoH(fu:Nat)(r_sl5Sx:yF)(pa0:aB)(v17:List aA)(x23:aA):Option (aA⊕((List aA))):=
 loopN (aoG fu r_sl5Sx pa0 v17 x23) (pa0.gArgs.length-0) 0 (v17++([x23]:List aA))
def abS(fu:Nat)(r_sl5Sx:yF)(pa0:aB):Option aA:=
 so (aoE fu r_sl5Sx pa0) (fun _=>
 so (aoF fu r_sl5Sx pa0) (fun v17=>
 bd (cF fu pa0.gName) (fun x23=>
 gd ((v17).length+(([x23]:List aA)).length≤68719476736)
 (so (aoH fu r_sl5Sx pa0 v17 x23) (fun v27=>
 some (aA.mk s_ v27))))))
theorem ajA(fu:Nat)(r_sl5Sx:yF)(h_sl5Sx:S9 r_sl5Sx):S9 (abS fu r_sl5Sx):=by
 intro pa0 r H
 have H:=eE H
 refine qI func269 (fun C hC=>?_)
 refine qW (q1 (iM (eD pa0)) (q1 (fO cD) (qN (qS ?_))))
 refine rR (σ:=Unit) (fun _=>⟨[(1,.ptr 0 0),(2,.ptr 1 0)],⟨[some ⟨35,eD pa0⟩,some ⟨237,[pS s_,.nil]⟩],[]⟩⟩) (fK H) (fun H=>?_) ?_
 ·refine aR.block (qW (q1 (a5 pF) (q1 (bD nT) (q1 dM (q1 aE (qN ?_))))))
  refine a8 H (fun h1 H=>?_) (fun h1 H=>?_)
  ·refine qW (q1 (a5 kU) (q1 (bD eJ) (dK H fun z2 H=>(q1 (a3.addS rfl rfl rfl rfl (Nat.le_trans z2 (by decide))) (bI H fun x4 z3 H=>(q1 (bG func266 (b8 fu (amQ++pa0.gName) _ z3)) (q1 (bR eO) (qZ ?_))))))))
   obtain rfl:_=r:=(AA (aX H):)
   exact bE (hr:=⟨⟨_,_,_,rfl,rfl,bU,rfl,rfl⟩,trivial⟩)
  refine qW (q1 (a5 pF) (q1 (bD nT) (q1 dM (q1 aE (qN ?_)))))
  refine a8 H (fun h5 H=>?_) (fun h5 H=>?_)
  ·refine qS (bI H fun x7 z6 H=>(bI H fun x9 z8 H=>(bI H fun x11 z10 H=>(dW (dI [] (bG func266 (b8 fu xJ _ z6)) (dI [1] (a5 kU) (dD [18] (bD eJ) (dI [19] (bG func266 (b8 fu pa0.gName _ z8)) (dI [17,20] (j9 ([x7,x9]:List aA) bL cD) (dI [21] (bG func265 (ED (m8 fu) ([x7,x9]:List aA) _ z10)) (lH [2,22] (bR eO) (dN (aR.ret ?_)))))))))))))
   obtain rfl:_=r:=(AA (aX H):)
   exact bE (hr:=⟨⟨_,_,_,rfl,rfl,bU,rfl,rfl⟩,trivial⟩)
  refine qW (q1 (a5 pF) (q1 (bD nT) (q1 dM (q1 aE ?_))))
  refine eF 27 H (fun g12 H=>?_) fun g12 H=>?_
  ·refine qg g12 (a5 gM) (qg g12 (bD kY) (qg g12 (dL eU (aB.trs_len _)) (qg g12 dM (q1 (bV g12) (q1 aE (qN ?_))))))
   refine a8 H (fun h13 H=>?_) (fun h13 H=>?_)
   ·refine qW (q1 (a5 kU) (q1 (bD eJ) (bI H fun x15 z14 H=>(q1 (bG func266 (b8 fu pa0.gName _ z14)) (q1 (bR eO) (qZ ?_))))))
    obtain rfl:_=r:=(AA (aX H):)
    exact bE (hr:=⟨⟨_,_,_,rfl,rfl,bU,rfl,rfl⟩,trivial⟩)
   refine aR.skip ?_;exact dY ⟨_,(aX H:),bW⟩
  iterate 4 refine qk g12 ?_
  refine q1 (b9 g12) (q1 aE (qN (jR rfl (aR.skip ?_))))
  exact dY ⟨_,(aX H:),bW⟩
 rintro⟨⟩ H
 refine qW (q1 (gW cD nL) (q1 (fO cD) (q1 (bR eO) (qN (qS (aR.wk (Wk.regBox (k:=2) (j:=1) 237 2 (by decide) rfl rfl) ?_))))))
 refine rR (σ:=(List aA)) (fun v17=>⟨[(1,.ptr 0 0),(2,.ptr 1 0),(3,.ptr 2 0)],⟨[some ⟨35,eD pa0⟩,some ⟨237,[pS s_,.nil]⟩,some ⟨237,[pS s_,eH v17 0]⟩],[⟨237,2,aA.trs (v17),false⟩]⟩⟩) (fK H) (fun H=>?_) ?_
 ·refine qW (q1 (a5 pF) (q1 (bD nT) (q1 dM (qN ?_))))
  refine a8 H (fun h18 H=>?_) (fun h18 H=>?_)
  ·refine bI H fun x20 z19 H=>(dK H fun z21 H=>(dW (dI [3] (a5 bK) (dD [40] (bD cX) (dI [] (bG func266 (b8 fu fX _ z19)) (dI [42] (j9 ([x20]:List aA) bL cD) (dE [41,43] (nV z21 bL rO) (dI [3] (a5 bK) (lH [45,44] (bR AZ) (dN ?_))))))))))
   exact dY ⟨_,(aX H:),bW⟩
  refine aR.skip ?_;exact dY ⟨_,(aX H:),bW⟩
 rintro v17 H
 refine qS (bI H fun x23 z22 H=>(dK H fun z24 H=>(dW (dI [3] (a5 bK) (dD [46] (bD cX) (dI [1] (a5 kU) (dD [48] (bD eJ) (dI [49] (bG func266 (b8 fu pa0.gName _ z22)) (dI [50] (j9 ([x23]:List aA) bL cD) (dE [47,51] (nV z24 bL rO) (dI [3] (a5 bK) (lH [53,52] (bR AZ) (dN ?_)))))))))))))
 refine qS (qS (qR (q1 aE (qN ?_))))
 refine aR.fact (b5 0 2 rfl rfl rfl (aB.trs_len _)) (fun hl28=>?_)
 refine b0 (σ:=(List aA)) (fun i25 v27=>⟨[(1,.ptr 0 0),(2,.ptr 1 0),(3,.ptr 2 0),(4,pN i25)],⟨[some ⟨35,eD pa0⟩,some ⟨237,[pS s_,.nil]⟩,some ⟨237,[pS s_,eH v27 0]⟩],[⟨237,2,aA.trs (v27),false⟩]⟩⟩) (fun v27=>⟨[(2,.ptr 1 0),(3,.ptr 2 0)],⟨[some ⟨35,eD pa0⟩,some ⟨237,[pS s_,.nil]⟩,some ⟨237,[pS s_,eH v27 0]⟩],[⟨237,2,aA.trs (v27),false⟩]⟩⟩) (fK H) ?_ ?_
 ·rintro i25 v27 H
  refine qS (qS (qR (q1 aE (q1 (a5 gM) (q1 (bD kY) (q1 (dL eU (aB.trs_len _)) (q1 gI (qN ?_))))))))
  refine dG H (fun h29 h29l H=>?_) (fun h29 H=>?_)
  ·have h29n:=a4 h29
   refine aR.skip (qS (aR.block (bI H fun x31 z30 H=>(dK H fun z32 H=>(dW (dI [3] (a5 bK) (dD [61] (bD cX) (dI [1] (a5 gM) (dD [63] (bD kY) (dI [4] aE (dI [64,65] (kP h29n eU) (dI [66] (kM (aB.cs (aW pa0.gArgs i25)) cU) (dI [67] (bG func269 (h_sl5Sx (aW pa0.gArgs i25) _ z30)) ?_)))))))))))))
   refine dI [68] (j9 ([x31]:List aA) bL cD) (dE [62,69] (nV z32 bL rO) (dI [3] (a5 bK) (lH [71,70] (bR AZ) (dN (qR (q1 aE (q1 (rA (i25+1)) (q1 aE (qN ?_)))))))))
   exact iI h29l ⟨_,(aX H:),bW⟩
  refine aR.exit ?_;exact jJ ⟨_,H,bW⟩
 rintro v27 H
 refine qW (q1 (cJ [pS s_,eH v27 0] bU) (q1 (bR eO) (qZ ?_)))
 cases aX H
 exact bE (hr:=⟨⟨_,_,_,rfl,rfl,bU,rfl,rfl⟩,trivial⟩)
def mR:Nat→aB→Option aA
 |0,_=>none
 |fu+1,pa0=>abS fu (mR fu) pa0
theorem amI(fu:Nat):S9 (mR fu):=by
 induction fu with
 |zero=>exact(fun pa0 r H=>by simp only [mR] at H;cases H)
 |succ fu ih=>exact(fun pa0 r H=>by simp only [mR] at H;exact ajA fu (mR fu) ih pa0 r H)
theorem wJ(fu:Nat):S9 (mR fu):=(amI fu)
abbrev vG:=aB→Int→Option Int
def HE(m:vG):Prop:= ∀(pt:aB) (pleft:Int) (r:Int),m pt pleft=some r→b4 Tryz.prog 289 [(aB.pv pt),pI pleft] (pI r:PV)
def aiX(fu:Nat)(r_sl4Left:vG)(pt:aB)(pleft:Int):Nat→Int→Option (LR Int Int):=
 fun i1 v2=>sw (decide (v2≥0))
 (bd (r_sl4Left (aW pt.gArgs i1) v2) (fun x7=>
 some (.next x7)))
 (some (.brk v2))
def aiY(fu:Nat)(r_sl4Left:vG)(pt:aB)(pleft:Int):Option (Int⊕Int):=
 loopN (aiX fu r_sl4Left pt pleft) (pt.gArgs.length-0) 0 (aQ (pleft-1))
def QK(fu:Nat)(r_sl4Left:vG)(pt:aB)(pleft:Int):Option Int:=
 so (aiY fu r_sl4Left pt pleft) (fun v2=>
 some v2)
theorem abO(fu:Nat)(r_sl4Left:vG)(h_sl4Left:HE r_sl4Left):HE (QK fu r_sl4Left):=by
 intro pt pleft r H
 have H:=eE H
 refine qI func289 (fun C hC=>?_)
 refine qW (q1 (iM (eD pt)) (q1 aE (qN (qW (q1 aE (q1 EP (q1 aE (qN ?_))))))))
 refine qS (qS (qR (q1 aE (qN ?_))))
 refine aR.fact (b5 0 2 rfl rfl rfl (aB.trs_len _)) (fun hl3=>?_)
 refine b0 (σ:=Int) (fun i1 v2=>⟨[(1,pI v2),(2,.ptr 0 0),(4,pI 0),(5,pN i1)],⟨[some ⟨35,eD pt⟩],[]⟩⟩) (fun v2=>⟨[(1,pI v2),(4,pI 0)],⟨[some ⟨35,eD pt⟩],[]⟩⟩) (fK H) ?_ ?_
 ·rintro i1 v2 H
  refine qS (qS (qR (q1 aE (q1 (a5 gM) (q1 (bD kY) (q1 (dL eU (aB.trs_len _)) (q1 gI (q1 aE ?_))))))))
  refine AL.splitB 13 rfl (fun g4=>?_) (fun g4=>?_)
  ·have g4l:=qA g4
   have H:=lnT g4l H
   have g4n:=a4 g4
   refine qg g4 aE (qg g4 S8 (q1 (bV g4) (qN ?_)))
   refine a8 H (fun h5 H=>?_) (fun h5 H=>?_)
   ·refine aR.skip (qS (aR.block (qR (q1 (a5 gM) (q1 (bD kY) (q1 aE (q1 (kP g4n eU) (q1 (kM (aB.cs (aW pt.gArgs i1)) cU) (q1 aE (bI H fun x7 z6 H=>(q1 (bG func289 (h_sl4Left (aW pt.gArgs i1) v2 _ z6)) (q1 aE (qN ?_)))))))))))))
    refine qR (q1 aE (q1 (rA (i1+1)) (q1 aE (qN ?_))))
    exact iI g4l ⟨_,(aX H:),bW⟩
   refine aR.exit ?_;exact lpB ⟨_,(aX H:),bW⟩
  have H:=lnE (p9 g4) H
  iterate 2 refine qk g4 ?_
  refine q1 (b9 g4) (qN (jR rfl (aR.exit ?_)))
  exact jJ ⟨_,H,bW⟩
 rintro v2 H
 refine qS (qR ?_)
 iterate 2 refine q1 aE ?_
 refine qN (aR.ret ?_)
 cases aX H
 exact bE
def pA:Nat→aB→Int→Option Int
 |0,_,_=>none
 |fu+1,pt,pleft=>QK fu (pA fu) pt pleft
theorem afM(fu:Nat):HE (pA fu):=by
 induction fu with
 |zero=>exact(fun pt pleft r H=>by simp only [pA] at H;cases H)
 |succ fu ih=>exact(fun pt pleft r H=>by simp only [pA] at H;exact abO fu (pA fu) ih pt pleft r H)
theorem ai0(fu:Nat):HE (pA fu):=(afM fu)
abbrev n8:=aB→Option Int
def yB(m:n8):Prop:= ∀(pt:aB) (r:Int),m pt=some r→b4 Tryz.prog 290 [(aB.pv pt)] (pI r:PV)
def XB(fu:Nat)(r_sTypeDepth:n8)(pt:aB):Nat→Int→Option (LR Int Int):=
 fun i1 v2=>bd (r_sTypeDepth (aW pt.gArgs i1)) (fun x6=>
 bd (NK fu v2 (aQ (1+x6))) (fun x8=>
 some (.next x8)))
def XC(fu:Nat)(r_sTypeDepth:n8)(pt:aB):Option (Int⊕Int):=
 loopN (XB fu r_sTypeDepth pt) (pt.gArgs.length-0) 0 0
def DZ(fu:Nat)(r_sTypeDepth:n8)(pt:aB):Option Int:=
 so (XC fu r_sTypeDepth pt) (fun v2=>
 some v2)
theorem SS(fu:Nat)(r_sTypeDepth:n8)(h_sTypeDepth:yB r_sTypeDepth):yB (DZ fu r_sTypeDepth):=by
 intro pt r H
 have H:=eE H
 refine qI func290 (fun C hC=>?_)
 refine qW (q1 (iM (eD pt)) (q1 aE (qN (qW (q1 aE (qN ?_))))))
 refine qS (qS (qR (q1 aE (qN ?_))))
 refine aR.fact (b5 0 2 rfl rfl rfl (aB.trs_len _)) (fun hl3=>?_)
 refine b0 (σ:=Int) (fun i1 v2=>⟨[(1,.ptr 0 0),(2,pI 0),(3,pI v2),(4,pN i1)],⟨[some ⟨35,eD pt⟩],[]⟩⟩) (fun v2=>⟨[(2,pI 0),(3,pI v2)],⟨[some ⟨35,eD pt⟩],[]⟩⟩) (fK H) ?_ ?_
 ·rintro i1 v2 H
  refine qS (qS (qR (q1 aE (q1 (a5 gM) (q1 (bD kY) (q1 (dL eU (aB.trs_len _)) (q1 gI (qN ?_))))))))
  refine dG H (fun h4 h4l H=>?_) (fun h4 H=>?_)
  ·have h4n:=a4 h4
   refine aR.skip (qS (aR.block (qR (q1 aE (q1 (a5 gM) (q1 (bD kY) (q1 aE (q1 (kP h4n eU) (q1 (kM (aB.cs (aW pt.gArgs i1)) cU) (bI H fun x6 z5 H=>(q1 (bG func290 (h_sTypeDepth (aW pt.gArgs i1) _ z5)) (q1 MZ (bI H fun x8 z7 H=>?_)))))))))))))
   refine q1 (bG func242 (YG fu v2 (aQ (1+x6)) _ z7)) (q1 aE (qN (qR (q1 aE (q1 (rA (i1+1)) (q1 aE (qN ?_)))))))
   exact iI h4l ⟨_,(aX H:),bW⟩
  refine aR.exit ?_;exact jJ ⟨_,H,bW⟩
 rintro v2 H
 refine qS (qR ?_)
 iterate 2 refine q1 aE ?_
 refine qN (aR.ret ?_)
 cases aX H
 exact bE
def j8:Nat→aB→Option Int
 |0,_=>none
 |fu+1,pt=>DZ fu (j8 fu) pt
theorem VE(fu:Nat):yB (j8 fu):=by
 induction fu with
 |zero=>exact(fun pt r H=>by simp only [j8] at H;cases H)
 |succ fu ih=>exact(fun pt r H=>by simp only [j8] at H;exact SS fu (j8 fu) ih pt r H)
theorem XE(fu:Nat):yB (j8 fu):=(VE fu)
def amA(m:ByteArray→Option Bool):Prop:= ∀(ps:ByteArray) (r:Bool),m ps=some r→b4 Tryz.prog 153 [pS ps] (pB r:PV)
def yN(fu:Nat)(ps:ByteArray):Option Bool:=
 sw (decide (ps=fC))
 (some true)
 (some (decide (ps=eX)))
theorem LJ(fu:Nat):amA (yN fu):=by
 intro ps r H
 have H:=eE H
 refine qI func153 (fun C hC=>?_)
 refine qW (q1 aE (qN (qW (q1 aE (q1 AM (q1 aE ?_))))))
 refine eF 5 H (fun g1 H=>?_) fun g1 H=>?_
 ·refine qk g1 (qk g1 (q1 (bV g1) (q1 aE (qZ ?_))))
  cases aX H
  exact bE
 refine qg g1 aE (qg g1 AM (q1 (b9 g1) (q1 aE (qZ ?_))))
 cases aX H
 exact bE
abbrev rK:=aB→Option Bool
def HD(m:rK):Prop:= ∀(pa0:aB) (r:Bool),m pa0=some r→b4 Tryz.prog 291 [(aB.pv pa0)] (pB r:PV)
def aiS(fu:Nat)(r_sl4Form:rK)(pa0:aB)(x2:Bool):Option ((Bool⊕Bool)⊕Bool):=
 sw (decide (pa0.gKind=1))
 (some (.inr (decide (pa0.gKind=1))))
 (some (.inr (decide (pa0.gKind=4))))
def aiR(fu:Nat)(r_sl4Form:rK)(pa0:aB)(x2:Bool):Option (Bool⊕Bool):=
 so (aiS fu r_sl4Form pa0 x2) (fun v4=>
 sw (v4)
 (sw (x2)
 (some (.inr (decide ((pa0.gArgs.length:Int)=0))))
 (some (.inr false)))
 (sw (decide (pa0.gKind=3))
 (sw (x2)
 (some (.inr (decide ((pa0.gArgs.length:Int)=1))))
 (some (.inr false)))
 (sw (decide (pa0.gKind=2))
 (sw (x2)
 (sw (decide ((pa0.gArgs.length:Int)≤3))
 (some (.inr true))
 (bd (yN fu pa0.gName) (fun x14=>
 sw (x14)
 (some (.inr (decide ((pa0.gArgs.length:Int)=0))))
 (some (.inr false)))))
 (bd (yN fu pa0.gName) (fun x17=>
 sw (x17)
 (some (.inr (decide ((pa0.gArgs.length:Int)=0))))
 (some (.inr false)))))
 (some (.inl false)))))
def aiT(fu:Nat)(r_sl4Form:rK)(pa0:aB)(x2 v3:Bool):Nat→Bool→Option (LR Bool Bool):=
 fun i19 v20=>sw (v20)
 (bd (r_sl4Form (aW pa0.gArgs i19)) (fun x25=>
 some (.next x25)))
 (some (.next false))
def aiU(fu:Nat)(r_sl4Form:rK)(pa0:aB)(x2 v3:Bool):Option (Bool⊕Bool):=
 loopN (aiT fu r_sl4Form pa0 x2 v3) (pa0.gArgs.length-0) 0 v3
def QJ(fu:Nat)(r_sl4Form:rK)(pa0:aB):Option Bool:=
 bd (dU fu pa0.gName) (fun x2=>
 so (aiR fu r_sl4Form pa0 x2) (fun v3=>
 so (aiU fu r_sl4Form pa0 x2 v3) (fun v20=>
 some v20)))
theorem abN(fu:Nat)(r_sl4Form:rK)(h_sl4Form:HD r_sl4Form):HD (QJ fu r_sl4Form):=by
 intro pa0 r H
 have H:=eE H
 refine qI func291 (fun C hC=>?_)
 refine qW (q1 (iM (eD pa0)) (q1 aE (qN (qW (q1 (a5 kU) (q1 (bD eJ) (bI H fun x2 z1 H=>(q1 (bG func235 (eC fu pa0.gName _ z1)) (q1 aE (qN (qS ?_)))))))))))
 refine rR (σ:=Bool) (fun v3=>⟨[(1,.ptr 0 0),(2,pB false),(3,pB v3)],⟨[some ⟨35,eD pa0⟩],[]⟩⟩) (fK H) (fun H=>?_) ?_
 ·refine qW (q1 (a5 pF) (q1 (bD nT) (qN (aR.block (qS ?_)))))
  refine rR (σ:=Bool) (fun v4=>⟨[(1,.ptr 0 0),(2,pB false),(3,pB x2),(9,pI pa0.gKind),(10,pB v4)],⟨[some ⟨35,eD pa0⟩],[]⟩⟩) (fK H) (fun H=>?_) ?_
  ·refine qW (q1 dM (q1 aE (qN ?_)))
   refine a8 H (fun h5 H=>?_) (fun h5 H=>?_)
   ·refine aR.skip ?_;exact dY ⟨_,(aX H:),bW⟩
   refine qR (q1 dM (q1 aE (qN ?_)))
   exact dY ⟨_,(aX H:),bW⟩
  rintro v4 H
  refine a8 H (fun h6 H=>?_) (fun h6 H=>?_)
  ·refine qR ?_
   iterate 2 refine q1 aE ?_
   refine eF 14 H (fun g7 H=>?_) fun g7 H=>?_
   ·refine qg g7 (a5 gM) (qg g7 (bD kY) (qg g7 (dL eU (aB.trs_len _)) (qg g7 dM (q1 (bV g7) (q1 aE (qN ?_))))))
    exact dY ⟨_,(aX H:),bW⟩
   iterate 4 refine qk g7 ?_
   refine q1 (b9 g7) (q1 aE (qN ?_))
   exact dY ⟨_,(aX H:),bW⟩
  refine qW (q1 dM (q1 aE (qN ?_)))
  refine a8 H (fun h8 H=>?_) (fun h8 H=>?_)
  ·refine qR ?_
   iterate 2 refine q1 aE ?_
   refine eF 23 H (fun g9 H=>?_) fun g9 H=>?_
   ·refine qg g9 (a5 gM) (qg g9 (bD kY) (qg g9 (dL eU (aB.trs_len _)) (qg g9 dM (q1 (bV g9) (q1 aE (qN ?_))))))
    exact dY ⟨_,(aX H:),bW⟩
   iterate 4 refine qk g9 ?_
   refine q1 (b9 g9) (q1 aE (qN ?_))
   exact dY ⟨_,(aX H:),bW⟩
  refine qW (q1 dM (q1 aE (qN ?_)))
  refine a8 H (fun h10 H=>?_) (fun h10 H=>?_)
  ·refine qR ?_
   iterate 2 refine q1 aE ?_
   refine eF 32 H (fun g11 H=>?_) fun g11 H=>?_
   ·refine qg g11 (a5 gM) (qg g11 (bD kY) (qg g11 (dL eU (aB.trs_len _)) (qg g11 rLe (q1 (bV g11) (q1 aE ?_)))))
    refine eF 38 H (fun g12 H=>?_) fun g12 H=>?_
    ·refine qk g12 ?_
     iterate 3 refine qk g12 ?_
     iterate 4 refine MY ?_
     refine qk g12 (q1 (bV g12) (q1 aE (qN ?_)))
     exact dY ⟨_,(aX H:),bW⟩
    refine qg g12 (a5 kU) (qg g12 (bD eJ) (bI H fun x14 z13 H=>(qg g12 (bG func153 (LJ fu pa0.gName _ z13)) (qg g12 aE ?_))))
    refine eF 42 H (fun g15 H=>?_) fun g15 H=>?_
    ·refine qg g15 (a5 gM) (qg g15 (bD kY) (qg g15 (dL eU (aB.trs_len _)) (qg g15 dM (qg g12 (bV g15) (q1 (b9 g12) (q1 aE (qN ?_)))))))
     exact dY ⟨_,(aX H:),bW⟩
    iterate 4 refine qk g15 ?_
    refine qg g12 (b9 g15) (q1 (b9 g12) (q1 aE (qN ?_)))
    exact dY ⟨_,(aX H:),bW⟩
   iterate 4 refine qk g11 ?_
   refine q1 (b9 g11) (q1 aE (qg rfl (a5 kU) (qg rfl (bD eJ) (bI H fun x17 z16 H=>(qg rfl (bG func153 (LJ fu pa0.gName _ z16)) (qg rfl aE ?_))))))
   refine eF 42 H (fun g18 H=>?_) fun g18 H=>?_
   ·refine qg g18 (a5 gM) (qg g18 (bD kY) (qg g18 (dL eU (aB.trs_len _)) (qg g18 dM (qg rfl (bV g18) (q1 (b9 rfl) (q1 aE (qN ?_)))))))
    exact dY ⟨_,(aX H:),bW⟩
   iterate 4 refine qk g18 ?_
   refine qg rfl (b9 g18) (q1 (b9 rfl) (q1 aE (qN ?_)))
   exact dY ⟨_,(aX H:),bW⟩
  refine qW (q1 aE (qZ ?_))
  obtain rfl:_=r:=(AA (aX H):)
  exact bE
 rintro v3 H
 refine qS (qS (qR (q1 aE (qN ?_))))
 refine aR.fact (b5 0 2 rfl rfl rfl (aB.trs_len _)) (fun hl21=>?_)
 refine b0 (σ:=Bool) (fun i19 v20=>⟨[(1,.ptr 0 0),(2,pB false),(3,pB v20),(4,pN i19)],⟨[some ⟨35,eD pa0⟩],[]⟩⟩) (fun v20=>⟨[(2,pB false),(3,pB v20)],⟨[some ⟨35,eD pa0⟩],[]⟩⟩) (fK H) ?_ ?_
 ·rintro i19 v20 H
  refine qS (qS (qR (q1 aE (q1 (a5 gM) (q1 (bD kY) (q1 (dL eU (aB.trs_len _)) (q1 gI (qN ?_))))))))
  refine dG H (fun h22 h22l H=>?_) (fun h22 H=>?_)
  ·have h22n:=a4 h22
   refine aR.skip (qS (aR.block (qR ?_)))
   iterate 2 refine q1 aE ?_
   refine eF 57 H (fun g23 H=>?_) fun g23 H=>?_
   ·refine qg g23 (a5 gM) (qg g23 (bD kY) (qg g23 aE (qg g23 (kP h22n eU) (qg g23 (kM (aB.cs (aW pa0.gArgs i19)) cU) (bI H fun x25 z24 H=>(qg g23 (bG func291 (h_sl4Form (aW pa0.gArgs i19) _ z24)) (q1 (bV g23) (q1 aE (qN (qR (q1 aE (q1 (rA (i19+1)) (q1 aE ?_)))))))))))))
    refine qN ?_;exact iI h22l ⟨_,(aX H:),bW⟩
   iterate 6 refine qk g23 ?_
   refine q1 (b9 g23) (q1 aE (qN (qR (q1 aE (q1 (rA (i19+1)) (q1 aE (qN ?_)))))))
   exact iI h22l ⟨_,(aX H:),bW⟩
  refine aR.exit ?_;exact jJ ⟨_,H,bW⟩
 rintro v20 H
 refine qS (qR ?_)
 iterate 2 refine q1 aE ?_
 refine qN (aR.ret ?_)
 cases aX H
 exact bE
def o9:Nat→aB→Option Bool
 |0,_=>none
 |fu+1,pa0=>QJ fu (o9 fu) pa0
theorem afL(fu:Nat):HD (o9 fu):=by
 induction fu with
 |zero=>exact(fun pa0 r H=>by simp only [o9] at H;cases H)
 |succ fu ih=>exact(fun pa0 r H=>by simp only [o9] at H;exact abN fu (o9 fu) ih pa0 r H)
theorem aiW(fu:Nat):HD (o9 fu):=(afL fu)
def U8(m:aB→Option Bool):Prop:= ∀(pt:aB) (r:Bool),m pt=some r→b4 Tryz.prog 284 [(aB.pv pt)] (pB r:PV)
def kJ(fu:Nat)(pt:aB):Option Bool:=
 bd (pA fu pt 60) (fun x2=>
 sw (decide (x2≥0))
 (bd (j8 fu pt) (fun x5=>
 sw (decide (x5≤6))
 (bd (o9 fu pt) (fun x8=>
 some x8))
 (some false)))
 (some false))
theorem mD(fu:Nat):U8 (kJ fu):=by
 intro pt r H
 have H:=eE H
 refine qI func284 (fun C hC=>?_)
 refine qW (q1 (iM (eD pt)) (q1 aE (qN (qW (q1 (cJ [pI pt.gKind,pS pt.gName,a7 pt.gArgs] cU) (bI H fun x2 z1 H=>(q1 (bG func289 (ai0 fu pt 60 _ z1)) (q1 S8 (q1 aE ?_)))))))))
 refine eF 6 H (fun g3 H=>?_) fun g3 H=>?_
 ·refine qg g3 (cJ [pI pt.gKind,pS pt.gName,a7 pt.gArgs] cU) (bI H fun x5 z4 H=>(qg g3 (bG func290 (XE fu pt _ z4)) (qg g3 rLe (q1 (bV g3) (q1 aE ?_)))))
  refine eF 11 H (fun g6 H=>?_) fun g6 H=>?_
  ·refine qg g6 (cJ [pI pt.gKind,pS pt.gName,a7 pt.gArgs] cU) (bI H fun x8 z7 H=>(qg g6 (bG func291 (aiW fu pt _ z7)) (q1 (bV g6) (q1 aE (qZ ?_)))))
   cases aX H
   exact bE
  iterate 2 refine qk g6 ?_
  refine q1 (b9 g6) (q1 aE (qZ ?_))
  cases aX H
  exact bE
 iterate 3 refine qk g3 ?_
 refine q1 (b9 g3) (q1 aE ?_)
 iterate 2 refine qk rfl ?_
 refine q1 (b9 rfl) (q1 aE (qZ ?_))
 cases aX H
 exact bE
abbrev j7:=aB→aB→Option Bool
abbrev pC:=(List aB)→(List aB)→Option Bool
def uD(m:j7):Prop:= ∀(pa:aB) (pb:aB) (r:Bool),m pa pb=some r→b4 Tryz.prog 16 [(aB.pv pa),(aB.pv pb)] (pB r:PV)
def HG(m:pC):Prop:= ∀(pa:List aB) (pb:List aB) (r:Bool),m pa pb=some r→b4 Tryz.prog 66 [a7 pa,a7 pb] (pB r:PV)
def DV(fu:Nat)(r_sEqualType:j7)(r_sl4Same:pC)(pa pb:aB):Option Bool:=
 sw (decide (pa.gKind=pb.gKind))
 (sw (decide (pa.gName=pb.gName))
 (bd (r_sl4Same pa.gArgs pb.gArgs) (fun x4=>
 some x4))
 (some false))
 (some false)
theorem SB(fu:Nat)(r_sEqualType:j7)(r_sl4Same:pC)(h_sEqualType:uD r_sEqualType)(h_sl4Same:HG r_sl4Same):uD (DV fu r_sEqualType r_sl4Same):=by
 intro pa pb r H
 have H:=eE H
 refine qI func16 (fun C hC=>?_)
 refine qW (q1 (iM (eD pa)) (q1 (iM (eD pb)) (q1 aE (qN (qW (q1 (a5 pF) (q1 (bD nT) (q1 (a5 pF) (q1 (bD nT) (q1 dM (q1 aE ?_)))))))))))
 refine eF 10 H (fun g1 H=>?_) fun g1 H=>?_
 ·refine qg g1 (a5 kU) (qg g1 (bD eJ) (qg g1 (a5 kU) (qg g1 (bD eJ) (qg g1 AM (q1 (bV g1) (q1 aE ?_))))))
  refine eF 17 H (fun g2 H=>?_) fun g2 H=>?_
  ·refine qg g2 (a5 gM) (qg g2 (bD kY) (qg g2 (a5 gM) (qg g2 (bD kY) (bI H fun x4 z3 H=>(qg g2 (bG func66 (h_sl4Same pa.gArgs pb.gArgs _ z3)) (q1 (bV g2) (q1 aE (qZ ?_))))))))
   cases aX H
   exact bE
  iterate 5 refine qk g2 ?_
  refine q1 (b9 g2) (q1 aE (qZ ?_))
  cases aX H
  exact bE
 iterate 5 refine qk g1 ?_
 refine q1 (b9 g1) (q1 aE ?_)
 iterate 5 refine qk rfl ?_
 refine q1 (b9 rfl) (q1 aE (qZ ?_))
 cases aX H
 exact bE
def ai1(fu:Nat)(r_sEqualType:j7)(r_sl4Same:pC)(pa pb:List aB):Nat→Unit→Option (LR Unit Bool):=
 fun i2 _=>gd (i2<(pb).length)
 (bd (r_sEqualType (aW pa i2) (aW pb i2)) (fun x7=>
 sw (!(x7))
 (some (.ret false))
 (some (.next ()))))
def ai2(fu:Nat)(r_sEqualType:j7)(r_sl4Same:pC)(pa pb:List aB):Option (Bool⊕Unit):=
 loopN (ai1 fu r_sEqualType r_sl4Same pa pb) (pa.length-0) 0 ()
def QL(fu:Nat)(r_sEqualType:j7)(r_sl4Same:pC)(pa pb:List aB):Option Bool:=
 sw (!decide ((pa.length:Int)=(pb.length:Int)))
 (some false)
 (so (ai2 fu r_sEqualType r_sl4Same pa pb) (fun _=>
 some true))
theorem abP(fu:Nat)(r_sEqualType:j7)(r_sl4Same:pC)(h_sEqualType:uD r_sEqualType)(h_sl4Same:HG r_sl4Same):HG (QL fu r_sEqualType r_sl4Same):=by
 intro pa pb r H
 have H:=eE H
 refine qI func66 (fun C hC=>?_)
 refine qW (q1 aE (qN ?_))
 refine qS (qS (qR (q1 aE (q1 (dL eU (aB.trs_len _)) (q1 aE (q1 (dL eU (aB.trs_len _)) (q1 CI (qN ?_))))))))
 refine a8 H (fun h1 H=>?_) (fun h1 H=>?_)
 ·refine qW (q1 aE (qZ ?_))
  cases aX H
  exact bE
 refine aR.skip ?_
 refine qS (qS (qR (q1 aE (qN ?_))))
 refine lD 0 (aB.trs_len _) (fun hl3=>?_)
 refine b0 (σ:=Unit) (fun i2 _=>⟨[(0,a7 pa),(1,a7 pb),(4,pB false),(5,pN i2)],⟨[],[]⟩⟩) (fun _=>⟨[(4,pB false)],⟨[],[]⟩⟩) (fK H) ?_ ?_
 ·rintro i2 ⟨⟩ H
  refine qS (qS (qR ?_))
  iterate 2 refine q1 aE ?_
  refine q1 (dL eU (aB.trs_len _)) (q1 gI (qN ?_))
  refine dG H (fun h4 h4l H=>?_) (fun h4 H=>?_)
  ·have h4n:=a4 h4
   refine aR.skip (qS (aR.block (qS (dK H fun z5 H=>(bI H fun x7 z6 H=>(dW (dI [0] aE (dI [5] aE (dI [17,18] (kP h4n eU) (dI [19] (kM (aB.cs (aW pa i2)) cU) (dI [1] aE (dI [5] aE (dI [21,22] (kP z5 eU) ?_)))))))))))))
   refine dI [23] (kM (aB.cs (aW pb i2)) cU) (dI [20,24] (bG func16 (h_sEqualType (aW pa i2) (aW pb i2) _ z6)) (dI [25] hQ (dN ?_)))
   refine a8 H (fun h8 H=>?_) (fun h8 H=>?_)
   ·refine qW (q1 aE (qZ ?_))
    obtain rfl:_=r:=(mT (aX H):)
    exact bE
   refine aR.skip (qR (q1 aE (q1 (rA (i2+1)) (q1 aE (qN ?_)))))
   exact iI h4l ⟨_,(aX H:),bW⟩
  refine aR.exit ?_;exact jJ ⟨_,H,bW⟩
 rintro⟨⟩ H
 refine qW (q1 aE (qZ ?_))
 cases aX H
 exact bE
mutual
def iN:Nat→aB→aB→Option Bool
 |0,_,_=>none
 |fu+1,pa,pb=>DV fu (iN fu) (rM fu) pa pb
def rM:Nat→(List aB)→(List aB)→Option Bool
 |0,_,_=>none
 |fu+1,pa,pb=>QL fu (iN fu) (rM fu) pa pb
end
theorem U2(fu:Nat):uD (iN fu)∧HG (rM fu):=by
 induction fu with
 |zero=>exact⟨(fun pa pb r H=>by simp only [iN] at H;cases H),(fun pa pb r H=>by simp only [rM] at H;cases H)⟩
 |succ fu ih=>exact⟨(fun pa pb r H=>by simp only [iN] at H;exact SB fu (iN fu) (rM fu) ih.1 ih.2 pa pb r H),(fun pa pb r H=>by simp only [rM] at H;exact abP fu (iN fu) (rM fu) ih.1 ih.2 pa pb r H)⟩
theorem W3(fu:Nat):uD (iN fu):=(U2 fu).1
abbrev tP:=aB→(LB)→Option ((LB))
def HI(m:tP):Prop:= ∀(pt:aB) (pout:LB) (r:(LB)),m pt pout=some r→c6 Tryz.prog 176 [(aB.pv pt),aS pout 0] ⟨[],[⟨9,1,aZ (pout),false⟩]⟩ (fun q t=>q=(aS r 0:PV)∧t=⟨[],[⟨9,1,aZ (r),false⟩]⟩)
def ai5(fu:Nat)(r_sl4Vars:tP)(pt:aB)(pout:LB):Option (((LB))⊕((LB))):=
 sw (decide (pt.gKind=1))
 (bd (nQ fu pout pt.gName) (fun x5=>
 sw (!(x5))
 (gd ((pout).length+(([pt.gName]:LB)).length≤68719476736)
 (some (.inr (pout++([pt.gName]:LB)))))
 (some (.inr pout))))
 (some (.inr pout))
def ai6(fu:Nat)(r_sl4Vars:tP)(pt:aB)(pout v2:LB):Nat→((LB))→Option (LR ((LB)) ((LB))):=
 fun i8 v10=>bd (r_sl4Vars (aW pt.gArgs i8) v10) (fun x14=>
 some (.next x14))
def ai7(fu:Nat)(r_sl4Vars:tP)(pt:aB)(pout v2:LB):Option (((LB))⊕((LB))):=
 loopN (ai6 fu r_sl4Vars pt pout v2) (pt.gArgs.length-0) 0 v2
def QM(fu:Nat)(r_sl4Vars:tP)(pt:aB)(pout:LB):Option ((LB)):=
 so (ai5 fu r_sl4Vars pt pout) (fun v2=>
 so (ai7 fu r_sl4Vars pt pout v2) (fun v10=>
 some v10))
theorem abR(fu:Nat)(r_sl4Vars:tP)(h_sl4Vars:HI r_sl4Vars):HI (QM fu r_sl4Vars):=by
 intro pt pout r H
 have H:=eE H
 refine qI func176 (fun C hC=>?_)
 refine qW (q1 (iM (eD pt)) (q1 aE (qN (qS ?_))))
 refine rR (σ:=(LB)) (fun v2=>⟨[(1,aS v2 0),(2,.ptr 0 0),(4,.nil)],⟨[some ⟨35,eD pt⟩],[⟨9,1,aZ (v2),false⟩]⟩⟩) (fK H) (fun H=>?_) ?_
 ·refine qW (q1 (a5 pF) (q1 (bD nT) (q1 dM (q1 aE ?_))))
  refine eF 9 H (fun g3 H=>?_) fun g3 H=>?_
  ·refine qg g3 aE (qg g3 (a5 kU) (qg g3 (bD eJ) (bI H fun x5 z4 H=>(qg g3 (bG func125 (nR fu pout pt.gName _ z4)) (qg g3 hQ (q1 (bV g3) (qN ?_)))))))
   refine a8 H (fun h6 H=>?_) (fun h6 H=>?_)
   ·refine qR (q1 aE (q1 (a5 kU) (q1 (bD eJ) (q1 (j9 ([pt.gName]:LB) b3 lU) (dK H fun z7 H=>(q1 (nV z7 b3 tR) (q1 aE (qN ?_))))))))
    exact dY ⟨_,(aX H:),bW⟩
   refine aR.skip ?_;exact dY ⟨_,(aX H:),bW⟩
  iterate 5 refine qk g3 ?_
  refine q1 (b9 g3) (qN (jR rfl (aR.skip ?_)))
  exact dY ⟨_,(aX H:),bW⟩
 rintro v2 H
 refine qS (qS (qR (q1 aE (qN ?_))))
 refine aR.fact (b5 0 2 rfl rfl rfl (aB.trs_len _)) (fun hl11=>?_)
 refine b0 (σ:=(LB)) (fun i8 v10=>⟨[(1,aS v10 0),(2,.ptr 0 0),(4,.nil),(5,pN i8)],⟨[some ⟨35,eD pt⟩],[⟨9,1,aZ (v10),false⟩]⟩⟩) (fun v10=>⟨[(1,aS v10 0),(4,.nil)],⟨[some ⟨35,eD pt⟩],[⟨9,1,aZ (v10),false⟩]⟩⟩) (fK H) ?_ ?_
 ·rintro i8 v10 H
  refine qS (qS (qR (q1 aE (q1 (a5 gM) (q1 (bD kY) (q1 (dL eU (aB.trs_len _)) (q1 gI (qN ?_))))))))
  refine dG H (fun h12 h12l H=>?_) (fun h12 H=>?_)
  ·have h12n:=a4 h12
   refine aR.skip (qS (aR.block (qR (q1 (a5 gM) (q1 (bD kY) (q1 aE (q1 (kP h12n eU) (q1 (kM (aB.cs (aW pt.gArgs i8)) cU) (q1 aE (bI H fun x14 z13 H=>(q1 (iF [] [0] func176 (h_sl4Vars (aW pt.gArgs i8) v10 _ z13)) (q1 aE (qN ?_)))))))))))))
   refine qR (q1 aE (q1 (rA (i8+1)) (q1 aE (qN ?_))))
   exact iI h12l ⟨_,(aX H:),bW⟩
  refine aR.exit ?_;exact jJ ⟨_,H,bW⟩
 rintro v10 H
 refine qS (qR ?_)
 iterate 2 refine q1 aE ?_
 refine qN (aR.ret ?_)
 cases aX H
 exact bE
def pD:Nat→aB→(LB)→Option ((LB))
 |0,_,_=>none
 |fu+1,pt,pout=>QM fu (pD fu) pt pout
theorem afP(fu:Nat):HI (pD fu):=by
 induction fu with
 |zero=>exact(fun pt pout r H=>by simp only [pD] at H;cases H)
 |succ fu ih=>exact(fun pt pout r H=>by simp only [pD] at H;exact abR fu (pD fu) ih pt pout r H)
theorem ai9(fu:Nat):HI (pD fu):=(afP fu)
def P0(m:aB→Option ((LB))):Prop:= ∀(pt:aB) (r:(LB)),m pt=some r→b4 Tryz.prog 138 [(aB.pv pt)] (rS r:PV)
def u4(fu:Nat)(pt:aB):Option ((LB)):=
 bd (pD fu pt ([])) (fun x2=>
 some x2)
theorem NA(fu:Nat):P0 (u4 fu):=by
 intro pt r H
 have H:=eE H
 refine qI func138 (fun C hC=>?_)
 refine qW (q1 (iM (eD pt)) (q1 aE (qN (qW (q1 (cJ [pI pt.gKind,pS pt.gName,a7 pt.gArgs] cU) (q1 (uK ([]:LB) b3 lU) (bI H fun x2 z1 H=>(q1 (iF [] [0] func176 (ai9 fu pt ([]) _ z1)) (q1 aE (qZ ?_))))))))))
 cases aX H
 exact bE
abbrev jW:=aB→Option Bool
def rE(m:jW):Prop:= ∀(pt:aB) (r:Bool),m pt=some r→b4 Tryz.prog 139 [(aB.pv pt)] (pB r:PV)
def M4(fu:Nat)(r_sHasProjection:jW)(pt:aB):Nat→Unit→Option (LR Unit Bool):=
 fun i1 _=>bd (r_sHasProjection (aW pt.gArgs i1)) (fun x5=>
 sw (x5)
 (some (.ret true))
 (some (.next ())))
def M5(fu:Nat)(r_sHasProjection:jW)(pt:aB):Option (Bool⊕Unit):=
 loopN (M4 fu r_sHasProjection pt) (pt.gArgs.length-0) 0 ()
def u3(fu:Nat)(r_sHasProjection:jW)(pt:aB):Option Bool:=
 so (M5 fu r_sHasProjection pt) (fun _=>
 some (decide (pt.gKind=3)))
theorem HY(fu:Nat)(r_sHasProjection:jW)(h_sHasProjection:rE r_sHasProjection):rE (u3 fu r_sHasProjection):=by
 intro pt r H
 have H:=eE H
 refine qI func139 (fun C hC=>?_)
 refine qW (q1 (iM (eD pt)) (q1 aE (qN ?_)))
 refine qS (qS (qR (q1 aE (qN ?_))))
 refine aR.fact (b5 0 2 rfl rfl rfl (aB.trs_len _)) (fun hl2=>?_)
 refine b0 (σ:=Unit) (fun i1 _=>⟨[(1,.ptr 0 0),(2,pB false),(3,pN i1)],⟨[some ⟨35,eD pt⟩],[]⟩⟩) (fun _=>⟨[(1,.ptr 0 0),(2,pB false)],⟨[some ⟨35,eD pt⟩],[]⟩⟩) (fK H) ?_ ?_
 ·rintro i1 ⟨⟩ H
  refine qS (qS (qR (q1 aE (q1 (a5 gM) (q1 (bD kY) (q1 (dL eU (aB.trs_len _)) (q1 gI (qN ?_))))))))
  refine dG H (fun h3 h3l H=>?_) (fun h3 H=>?_)
  ·have h3n:=a4 h3
   refine aR.skip (qS (aR.block (qW (q1 (a5 gM) (q1 (bD kY) (q1 aE (q1 (kP h3n eU) (q1 (kM (aB.cs (aW pt.gArgs i1)) cU) (bI H fun x5 z4 H=>(q1 (bG func139 (h_sHasProjection (aW pt.gArgs i1) _ z4)) (qN ?_)))))))))))
   refine a8 H (fun h6 H=>?_) (fun h6 H=>?_)
   ·refine qW (q1 aE (qZ ?_))
    obtain rfl:_=r:=(mT (aX H):)
    exact bE
   refine aR.skip (qR (q1 aE (q1 (rA (i1+1)) (q1 aE (qN ?_)))))
   exact iI h3l ⟨_,(aX H:),bW⟩
  refine aR.exit ?_;exact jJ ⟨_,H,bW⟩
 rintro⟨⟩ H
 refine qW (q1 (a5 pF) (q1 (bD nT) (q1 dM (q1 aE (qZ ?_)))))
 cases aX H
 exact bE
def fH:Nat→aB→Option Bool
 |0,_=>none
 |fu+1,pt=>u3 fu (fH fu) pt
theorem KO(fu:Nat):rE (fH fu):=by
 induction fu with
 |zero=>exact(fun pt r H=>by simp only [fH] at H;cases H)
 |succ fu ih=>exact(fun pt r H=>by simp only [fH] at H;exact HY fu (fH fu) ih pt r H)
theorem AO(fu:Nat):rE (fH fu):=(KO fu)
abbrev fJ:=aB→ByteArray→Option Int
def mM(m:fJ):Prop:= ∀(pt:aB) (pv:ByteArray) (r:Int),m pt pv=some r→b4 Tryz.prog 211 [(aB.pv pt),pS pv] (pI r:PV)
def pJ(fu:Nat)(r_sCountTypeVariable:fJ)(pt:aB)(pv:ByteArray):Option (Int⊕Int):=
 sw (decide (pt.gKind=1))
 (sw (decide (pt.gName=pv))
 (some (.inr 1))
 (some (.inr 0)))
 (some (.inr 0))
def uO(fu:Nat)(r_sCountTypeVariable:fJ)(pt:aB)(pv:ByteArray)(v1:Int):Nat→Int→Option (LR Int Int):=
 fun i4 v5=>bd (r_sCountTypeVariable (aW pt.gArgs i4) pv) (fun x9=>
 some (.next (aQ (v5+x9))))
def uP(fu:Nat)(r_sCountTypeVariable:fJ)(pt:aB)(pv:ByteArray)(v1:Int):Option (Int⊕Int):=
 loopN (uO fu r_sCountTypeVariable pt pv v1) (pt.gArgs.length-0) 0 v1
def mL(fu:Nat)(r_sCountTypeVariable:fJ)(pt:aB)(pv:ByteArray):Option Int:=
 so (pJ fu r_sCountTypeVariable pt pv) (fun v1=>
 so (uP fu r_sCountTypeVariable pt pv v1) (fun v5=>
 some v5))
theorem CJ(fu:Nat)(r_sCountTypeVariable:fJ)(h_sCountTypeVariable:mM r_sCountTypeVariable):mM (mL fu r_sCountTypeVariable):=by
 intro pt pv r H
 have H:=eE H
 refine qI func211 (fun C hC=>?_)
 refine qW (q1 (iM (eD pt)) (q1 aE (qN (qW (q1 aE (qN (qS ?_)))))))
 refine rR (σ:=Int) (fun v1=>⟨[(1,pS pv),(2,.ptr 0 0),(4,pI 0),(5,pI v1)],⟨[some ⟨35,eD pt⟩],[]⟩⟩) (fK H) (fun H=>?_) ?_
 ·refine qW (q1 (a5 pF) (q1 (bD nT) (q1 dM (q1 aE ?_))))
  refine eF 10 H (fun g2 H=>?_) fun g2 H=>?_
  ·refine qg g2 (a5 kU) (qg g2 (bD eJ) (qg g2 aE (qg g2 AM (q1 (bV g2) (qN ?_)))))
   refine a8 H (fun h3 H=>?_) (fun h3 H=>?_)
   ·refine qR (q1 aE (qN ?_))
    exact dY ⟨_,(aX H:),bW⟩
   refine aR.skip ?_;exact dY ⟨_,(aX H:),bW⟩
  iterate 4 refine qk g2 ?_
  refine q1 (b9 g2) (qN (jR rfl (aR.skip ?_)))
  exact dY ⟨_,(aX H:),bW⟩
 rintro v1 H
 refine qS (qS (qR (q1 aE (qN ?_))))
 refine aR.fact (b5 0 2 rfl rfl rfl (aB.trs_len _)) (fun hl6=>?_)
 refine b0 (σ:=Int) (fun i4 v5=>⟨[(1,pS pv),(2,.ptr 0 0),(4,pI 0),(5,pI v5),(6,pN i4)],⟨[some ⟨35,eD pt⟩],[]⟩⟩) (fun v5=>⟨[(4,pI 0),(5,pI v5)],⟨[some ⟨35,eD pt⟩],[]⟩⟩) (fK H) ?_ ?_
 ·rintro i4 v5 H
  refine qS (qS (qR (q1 aE (q1 (a5 gM) (q1 (bD kY) (q1 (dL eU (aB.trs_len _)) (q1 gI (qN ?_))))))))
  refine dG H (fun h7 h7l H=>?_) (fun h7 H=>?_)
  ·have h7n:=a4 h7
   refine aR.skip (qS (aR.block (qR (q1 aE (q1 (a5 gM) (q1 (bD kY) (q1 aE (q1 (kP h7n eU) (q1 (kM (aB.cs (aW pt.gArgs i4)) cU) (q1 aE (bI H fun x9 z8 H=>(q1 (bG func211 (h_sCountTypeVariable (aW pt.gArgs i4) pv _ z8)) (q1 MZ ?_)))))))))))))
   refine q1 aE (qN (qR (q1 aE (q1 (rA (i4+1)) (q1 aE (qN ?_))))))
   exact iI h7l ⟨_,(aX H:),bW⟩
  refine aR.exit ?_;exact jJ ⟨_,H,bW⟩
 rintro v5 H
 refine qS (qR ?_)
 iterate 2 refine q1 aE ?_
 refine qN (aR.ret ?_)
 cases aX H
 exact bE
def cT:Nat→aB→ByteArray→Option Int
 |0,_,_=>none
 |fu+1,pt,pv=>mL fu (cT fu) pt pv
theorem DT(fu:Nat):mM (cT fu):=by
 induction fu with
 |zero=>exact(fun pt pv r H=>by simp only [cT] at H;cases H)
 |succ fu ih=>exact(fun pt pv r H=>by simp only [cT] at H;exact CJ fu (cT fu) ih pt pv r H)
theorem EZ(fu:Nat):mM (cT fu):=(DT fu)
def ac8(m:ByteArray→aB→Option Bool):Prop:= ∀(pv:ByteArray) (pt:aB) (r:Bool),m pv pt=some r→b4 Tryz.prog 200 [pS pv,(aB.pv pt)] (pB r:PV)
def qB(fu:Nat)(pv:ByteArray)(pt:aB):Option Bool:=
 bd (cT fu pt pv) (fun x2=>
 some (decide (x2>0)))
theorem DX(fu:Nat):ac8 (qB fu):=by
 intro pv pt r H
 have H:=eE H
 refine qI func200 (fun C hC=>?_)
 refine qW (q1 (iM (eD pt)) (q1 aE (qN (qW (q1 (cJ [pI pt.gKind,pS pt.gName,a7 pt.gArgs] cU) (q1 aE (bI H fun x2 z1 H=>(q1 (bG func211 (EZ fu pt pv _ z1)) (q1 KL (q1 aE (qN ?_)))))))))))
 refine aR.ret ?_
 cases aX H
 exact bE
end
end Go.Proofs.YtpioomclpaiomaaGreat.W

namespace Go.Proofs.YtpioomclpaiomaaGreat.W
set_option maxRecDepth 100000
set_option maxHeartbeats 40000000
noncomputable section
open Tryz Go.RowKit Go.Proofs
attribute [local irreducible] lt
def ZW(m:Int→Option ByteArray):Prop:= ∀(pn:Int) (r:ByteArray),m pn=some r→b4 Tryz.prog 281 [pI pn] (pS r:PV)
def I3(fu:Nat)(pn:Int):(Int×ByteArray)→Option (LR (Int×ByteArray) ByteArray):=
 fun(v2,v3)=>sw (!decide (v2=0))
 (sw (decide (((v2).tmod 10:Int)<0))
 (gd ((bytesStr ([(GK (aQ (48+(aQ (0-((v2).tmod 10))))))]:List UInt8)).size+(v3).size≤1099511627776)
 (some (.next ((aQ ((v2).tdiv 10)),((bytesStr ([(GK (aQ (48+(aQ (0-((v2).tmod 10))))))]:List UInt8))++v3)))))
 (gd ((bytesStr ([(GK (aQ (48+((v2).tmod 10))))]:List UInt8)).size+(v3).size≤1099511627776)
 (some (.next ((aQ ((v2).tdiv 10)),((bytesStr ([(GK (aQ (48+((v2).tmod 10))))]:List UInt8))++v3))))))
 (some (.brk (v2,v3)))
def I4(fu:Nat)(pn:Int):Option (ByteArray⊕(Int×ByteArray)):=
 loopW (I3 fu pn) fu (pn,s_)
def n3(fu:Nat)(pn:Int):Option ByteArray:=
 sw (decide (pn=0))
 (some s_0)
 (so (I4 fu pn) (fun(v2,v3)=>
 sw (decide (pn<0))
 (gd ((E4).size+(v3).size≤1099511627776)
 (some (E4++v3)))
 (some v3)))
theorem BK(fu:Nat):ZW (n3 fu):=by
 intro pn r H
 have H:=eE H
 refine qI func281 (fun C hC=>?_)
 refine qW (q1 aE (qN ?_))
 refine qS (qS (qR (q1 aE (q1 dM (qN ?_)))))
 refine a8 H (fun h1 H=>?_) (fun h1 H=>?_)
 ·refine qW (q1 aE (qZ ?_))
  cases aX H
  exact bE
 refine aR.skip (qW (q1 aE (q1 gI (q1 aE (qN (qW (q1 aE (qN (qS ?_)))))))))
 refine EN (σ:=Int×ByteArray) (fun(v2,v3)=>⟨[(0,pI v2),(2,pS s_),(3,pB (decide (pn<0))),(4,pS v3)],⟨[],[]⟩⟩) (fun(v2,v3)=>⟨[(2,pS s_),(3,pB (decide (pn<0))),(4,pS v3)],⟨[],[]⟩⟩) (fK H) ?_ ?_
 ·rintro k4 ⟨v2,v3⟩ H
  refine qS (qS (qR (q1 aE (q1 CI (qN ?_)))))
  refine a8 H (fun h5 H=>?_) (fun h5 H=>?_)
  ·refine aR.skip (aR.block (qW (q1 aE (q1 (a3.remI (a:=v2) (b:=10) rfl rfl rfl rfl (by decide)) (q1 aE (qN ?_))))))
   refine qS (qS (qR (q1 aE (q1 gI (qN ?_)))))
   refine a8 H (fun h6 H=>?_) (fun h6 H=>?_)
   ·refine qR (q1 aE (q1 EP (q1 aE (qN (qW (q1 aE (q1 MZ (q1 (a3.convU8 (a:=aQ (48+(aQ (0-((v2).tmod 10))))) rfl rfl rfl ⟨_,Tryz.underlying3⟩ Tryz.underlying5) (q1 (j9 ([(GK (aQ (48+(aQ (0-((v2).tmod 10))))))]:List UInt8) acJ zr5) (q1 (a3.bytesStr rfl rfl rfl rfl Tryz.underlying22 Tryz.underlying5 Tryz.underlying9) (q1 aE (dK H fun z7 H=>?_))))))))))))
    refine q1 (a3.addS rfl rfl rfl rfl (Nat.le_trans z7 (by decide))) (q1 aE (qN (qR (q1 aE (q1 (a3.quoI (a:=v2) (b:=10) rfl rfl rfl rfl (by decide)) (q1 aE (qN ?_)))))))
    exact X9 ⟨_,(aX H:),bW⟩
   refine aR.skip (qW (q1 aE (q1 MZ (q1 (a3.convU8 (a:=aQ (48+((v2).tmod 10))) rfl rfl rfl ⟨_,Tryz.underlying3⟩ Tryz.underlying5) (q1 (j9 ([(GK (aQ (48+((v2).tmod 10))))]:List UInt8) acJ zr5) (q1 (a3.bytesStr rfl rfl rfl rfl Tryz.underlying22 Tryz.underlying5 Tryz.underlying9) (q1 aE (dK H fun z8 H=>(q1 (a3.addS rfl rfl rfl rfl (Nat.le_trans z8 (by decide))) (q1 aE (qN (qR ?_))))))))))))
   refine q1 aE (q1 (a3.quoI (a:=v2) (b:=10) rfl rfl rfl rfl (by decide)) (q1 aE (qN ?_)))
   exact X9 ⟨_,(aX H:),bW⟩
  refine aR.exit ?_;exact lwB ⟨_,(aX H:),bW⟩
 rintro⟨v2,v3⟩ H
 refine qS (qS (qR (q1 aE (qN ?_))))
 refine a8 H (fun h9 H=>?_) (fun h9 H=>?_)
 ·refine qW (q1 aE (dK H fun z10 H=>(q1 (a3.addS rfl rfl rfl rfl (Nat.le_trans z10 (by decide))) (q1 aE (qZ ?_)))))
  cases aX H
  exact bE
 refine aR.skip (qS (qR ?_))
 iterate 2 refine q1 aE ?_
 refine qN (aR.ret ?_)
 cases aX H
 exact bE
def al3(m:ByteArray→Int→Option (Int×Bool)):Prop:= ∀(ps:ByteArray) (pmost:Int) (r:Int×Bool),m ps pmost=some r→b4 Tryz.prog 279 [pS ps,pI pmost] (.tup [pI r.1,pB r.2]:PV)
def VO(fu:Nat)(ps:ByteArray)(pmost:Int):Option ((Int×Bool)⊕ByteArray):=
 sw (decide ((((C1 ps 0).toNat:Int):Int)=45))
 (gd ((0:Int)≤1∧(1:Int)≤(ps.size:Int)∧(ps.size:Int)≤(ps.size:Int))
 (some (.inr (ps.extract (1:Int).toNat (ps.size:Int).toNat))))
 (some (.inr ps))
def VQ(fu:Nat)(ps:ByteArray)(pmost:Int)(v3:ByteArray):Nat→Int→Option (LR Int (Int×Bool)):=
 fun i8 v9=>gd (i8<(v3).size)
 (sw (decide ((((C1 v3 i8).toNat:Int):Int)<48))
 (some (.ret (0,false)))
 (sw (decide ((((C1 v3 i8).toNat:Int):Int)>57))
 (some (.ret (0,false)))
 (some (.next (aQ ((aQ (10*v9))+((GK (((C1 v3 i8).toNat:Int)-48)).toNat:Int)))))))
def VS(fu:Nat)(ps:ByteArray)(pmost:Int)(v3:ByteArray):Option ((Int×Bool)⊕Int):=
 loopN (VQ fu ps pmost v3) (v3.size-0) 0 0
def VP(fu:Nat)(ps:ByteArray)(pmost:Int)(v3:ByteArray)(v9:Int):Option ((Int×Bool)⊕Int):=
 sw (decide ((((C1 ps 0).toNat:Int):Int)=45))
 (some (.inr (aQ (0-v9))))
 (some (.inr v9))
def VR(fu:Nat)(ps:ByteArray)(pmost:Int):Nat→Int→Option (LR Int (Int×Bool)):=
 fun i22 v23=>gd (i22<(ps).size)
 (sw (decide ((((C1 ps i22).toNat:Int):Int)<48))
 (some (.ret (0,false)))
 (sw (decide ((((C1 ps i22).toNat:Int):Int)>57))
 (some (.ret (0,false)))
 (some (.next (aQ ((aQ (10*v23))+((GK (((C1 ps i22).toNat:Int)-48)).toNat:Int)))))))
def VT(fu:Nat)(ps:ByteArray)(pmost:Int):Option ((Int×Bool)⊕Int):=
 loopN (VR fu ps pmost) (ps.size-0) 0 0
def QD(fu:Nat)(ps:ByteArray)(pmost:Int):Option (Int×Bool):=
 sw (decide ((ps.size:Int)>0))
 (gd (0<(ps).size)
 (so (VO fu ps pmost) (fun v3=>
 sw (decide ((v3.size:Int)<1))
 (some (0,false))
 (sw (decide ((v3.size:Int)>pmost))
 (some (0,false))
 (so (VS fu ps pmost v3) (fun v9=>
 so (VP fu ps pmost v3 v9) (fun v15=>
 bd (n3 fu v15) (fun x18=>
 sw (!decide (x18=ps))
 (some (0,false))
 (some (v15,true))))))))))
 (sw (decide ((ps.size:Int)<1))
 (some (0,false))
 (sw (decide ((ps.size:Int)>pmost))
 (some (0,false))
 (so (VT fu ps pmost) (fun v23=>
 bd (n3 fu v23) (fun x30=>
 sw (!decide (x30=ps))
 (some (0,false))
 (some (v23,true)))))))
theorem ah7(fu:Nat):al3 (QD fu):=by
 intro ps pmost r H
 have H:=eE H
 refine qI func279 (fun C hC=>?_)
 refine qS (qR ?_)
 iterate 2 refine q1 aE ?_
 refine qN (qW (q1 aE (q1 (a3.lenS rfl rfl rfl Tryz.underlying9) (q1 KL (q1 aE ?_)))))
 refine eF 13 H (fun g1 H=>?_) fun g1 H=>?_
 ·refine qg g1 aE (dK H fun z2 H=>(qg g1 (a3.indexS (k:=0) rfl rfl rfl rfl z2 Tryz.underlying9) (qg g1 dM (q1 (bV g1) (q1 aE (qN (qS (qR ?_))))))))
  iterate 2 refine q1 aE ?_
  refine qN (qS ?_)
  refine rR (σ:=ByteArray) (fun v3=>⟨[(0,pS ps),(1,pI pmost),(4,pI 0),(5,pB false),(6,pB (decide ((((C1 ps 0).toNat:Int):Int)=45))),(7,pS v3)],⟨[],[]⟩⟩) (fK H) (fun H=>?_) ?_
  ·refine qW (q1 aE (qN ?_))
   refine a8 H (fun h4 H=>?_) (fun h4 H=>?_)
   ·refine qR (q1 aE (dK H fun z5 H=>(q1 (a3.sliceS (l:=1) (k:=(ps.size:Int)) rfl rfl rfl rfl rfl z5 Tryz.underlying9) (q1 aE (qN ?_)))))
    exact dY ⟨_,(aX H:),bW⟩
   refine aR.skip ?_;exact dY ⟨_,(aX H:),bW⟩
  rintro v3 H
  refine qS (qS (qR (q1 aE (q1 (a3.lenS rfl rfl rfl Tryz.underlying9) (q1 gI (q1 aE ?_))))))
  refine eF 25 H (fun g6 H=>?_) fun g6 H=>?_
  ·have g6n:v3.size<1:=by have:=of_decide_eq_true g6;omega
   iterate 4 refine qk g6 ?_
   refine q1 (bV g6) (qN (eL rfl (qS (qR ?_))))
   iterate 2 refine q1 aE ?_
   refine qN (aR.ret ?_)
   cases aX H
   exact tT
  refine qg g6 aE (qg g6 (a3.lenS rfl rfl rfl Tryz.underlying9) (qg g6 aE (qg g6 KL (q1 (b9 g6) (qN ?_)))))
  refine a8 H (fun h7 H=>?_) (fun h7 H=>?_)
  ·refine qS (qR ?_)
   iterate 2 refine q1 aE ?_
   refine qN (aR.ret ?_)
   cases aX H
   exact tT
  refine aR.skip (qW (q1 aE (qN ?_)))
  refine qS (qS (qR (q1 aE (qN ?_))))
  refine szF 7 (fun hl10=>?_)
  refine b0 (σ:=Int) (fun i8 v9=>⟨[(0,pS ps),(4,pI 0),(5,pB false),(6,pB (decide ((((C1 ps 0).toNat:Int):Int)=45))),(7,pS v3),(8,pI v9),(9,pN i8)],⟨[],[]⟩⟩) (fun v9=>⟨[(0,pS ps),(4,pI 0),(5,pB false),(6,pB (decide ((((C1 ps 0).toNat:Int):Int)=45))),(8,pI v9)],⟨[],[]⟩⟩) (fK H) ?_ ?_
  ·rintro i8 v9 H
   refine qS (qS (qR ?_))
   iterate 2 refine q1 aE ?_
   refine q1 (a3.lenS rfl rfl rfl Tryz.underlying9) (q1 gI (qN ?_))
   refine dG H (fun h11 h11l H=>?_) (fun h11 H=>?_)
   ·have h11n:i8<v3.size:=by have:=of_decide_eq_true h11;omega
    refine aR.skip (qS (aR.block ?_))
    refine qS (qS (qR ?_))
    iterate 2 refine q1 aE ?_
    refine dK H fun z12 H=>(q1 (a3.indexS (k:=i8) rfl rfl rfl rfl z12 Tryz.underlying9) (q1 gI (q1 aE ?_)))
    refine eF 41 H (fun g13 H=>?_) fun g13 H=>?_
    ·refine qk g13 ?_
     iterate 3 refine qk g13 ?_
     refine q1 (bV g13) (qN (eL rfl (qS (qR ?_))))
     iterate 2 refine q1 aE ?_
     refine qN (aR.ret ?_)
     obtain rfl:_=r:=(mT (aX H):)
     exact tT
    iterate 2 refine qg g13 aE ?_
    refine qg g13 (a3.indexS (k:=i8) rfl rfl rfl rfl z12 Tryz.underlying9) (qg g13 KL (q1 (b9 g13) (qN ?_)))
    refine a8 H (fun h14 H=>?_) (fun h14 H=>?_)
    ·refine qS (qR ?_)
     iterate 2 refine q1 aE ?_
     refine qN (aR.ret ?_)
     obtain rfl:_=r:=(mT (aX H):)
     exact tT
    refine aR.skip (qR (q1 aE (q1 (a3.mulW rfl rfl rfl rfl) ?_)))
    iterate 2 refine q1 aE ?_
    refine q1 (a3.indexS (k:=i8) rfl rfl rfl rfl z12 Tryz.underlying9) (q1 (a3.subU8 rfl rfl rfl rfl) ?_)
    refine q1 (a3.convI rfl rfl rfl ⟨_,Tryz.underlying5⟩ Tryz.underlying3 (by first|omega|(have:=UInt8.toNat_lt (GK (((C1 v3 i8).toNat:Int)-48));omega)) (by first|omega|(have:=UInt8.toNat_lt (GK (((C1 v3 i8).toNat:Int)-48));omega))) ?_;refine q1 MZ (q1 aE (qN (qR (q1 aE (q1 (rA (i8+1)) (q1 aE (qN ?_)))))))
    exact iI h11l ⟨_,(aX H:),bW⟩
   refine aR.exit ?_;exact jJ ⟨_,H,bW⟩
  rintro v9 H
  refine qS ?_;refine rR (σ:=Int) (fun v15=>⟨[(0,pS ps),(4,pI 0),(5,pB false),(8,pI v15)],⟨[],[]⟩⟩) (fK H) (fun H=>?_) ?_
  ·refine qW (q1 aE (qN ?_))
   refine a8 H (fun h16 H=>?_) (fun h16 H=>?_)
   ·refine qR (q1 aE (q1 EP (q1 aE (qN ?_))))
    exact dY ⟨_,(aX H:),bW⟩
   refine aR.skip ?_;exact dY ⟨_,(aX H:),bW⟩
  rintro v15 H
  refine qS (qS (qR (q1 aE (bI H fun x18 z17 H=>(q1 (bG func281 (BK fu v15 _ z17)) (q1 aE (q1 WA (qN ?_))))))))
  refine a8 H (fun h19 H=>?_) (fun h19 H=>?_)
  ·refine qS (qR ?_)
   iterate 2 refine q1 aE ?_
   refine qN (aR.ret ?_)
   cases aX H
   exact tT
  refine aR.skip (qS (qR ?_))
  iterate 3 refine q1 aE ?_
  refine qN (aR.ret ?_)
  cases aX H
  exact tT
 iterate 3 refine qk g1 ?_
 refine q1 (b9 g1) (q1 aE (qN (qS (qR ?_))))
 iterate 2 refine q1 aE ?_
 refine qN ?_
 refine qS (qS (qR (q1 aE (qN (jR rfl (aR.skip ?_))))))
 refine qS (qS (qR (q1 aE (q1 (a3.lenS rfl rfl rfl Tryz.underlying9) (q1 gI (q1 aE ?_))))))
 refine eF 25 H (fun g20 H=>?_) fun g20 H=>?_
 ·have g20n:ps.size<1:=by have:=of_decide_eq_true g20;omega
  iterate 4 refine qk g20 ?_
  refine q1 (bV g20) (qN (eL rfl (qS (qR ?_))))
  iterate 2 refine q1 aE ?_
  refine qN (aR.ret ?_)
  cases aX H
  exact tT
 refine qg g20 aE (qg g20 (a3.lenS rfl rfl rfl Tryz.underlying9) (qg g20 aE (qg g20 KL (q1 (b9 g20) (qN ?_)))))
 refine a8 H (fun h21 H=>?_) (fun h21 H=>?_)
 ·refine qS (qR ?_)
  iterate 2 refine q1 aE ?_
  refine qN (aR.ret ?_)
  cases aX H
  exact tT
 refine aR.skip (qW (q1 aE (qN ?_)))
 refine qS (qS (qR (q1 aE (qN ?_))))
 refine szF 0 (fun hl24=>?_)
 refine b0 (σ:=Int) (fun i22 v23=>⟨[(0,pS ps),(4,pI 0),(5,pB false),(6,pB false),(7,pS ps),(8,pI v23),(9,pN i22)],⟨[],[]⟩⟩) (fun v23=>⟨[(0,pS ps),(4,pI 0),(5,pB false),(6,pB false),(8,pI v23)],⟨[],[]⟩⟩) (fK H) ?_ ?_
 ·rintro i22 v23 H
  refine qS (qS (qR ?_))
  iterate 2 refine q1 aE ?_
  refine q1 (a3.lenS rfl rfl rfl Tryz.underlying9) (q1 gI (qN ?_))
  refine dG H (fun h25 h25l H=>?_) (fun h25 H=>?_)
  ·have h25n:i22<ps.size:=by have:=of_decide_eq_true h25;omega
   refine aR.skip (qS (aR.block ?_))
   refine qS (qS (qR ?_))
   iterate 2 refine q1 aE ?_
   refine dK H fun z26 H=>(q1 (a3.indexS (k:=i22) rfl rfl rfl rfl z26 Tryz.underlying9) (q1 gI (q1 aE ?_)))
   refine eF 41 H (fun g27 H=>?_) fun g27 H=>?_
   ·refine qk g27 ?_
    iterate 3 refine qk g27 ?_
    refine q1 (bV g27) (qN (eL rfl (qS (qR ?_))))
    iterate 2 refine q1 aE ?_
    refine qN (aR.ret ?_)
    obtain rfl:_=r:=(mT (aX H):)
    exact tT
   iterate 2 refine qg g27 aE ?_
   refine qg g27 (a3.indexS (k:=i22) rfl rfl rfl rfl z26 Tryz.underlying9) (qg g27 KL (q1 (b9 g27) (qN ?_)))
   refine a8 H (fun h28 H=>?_) (fun h28 H=>?_)
   ·refine qS (qR ?_)
    iterate 2 refine q1 aE ?_
    refine qN (aR.ret ?_)
    obtain rfl:_=r:=(mT (aX H):)
    exact tT
   refine aR.skip (qR (q1 aE (q1 (a3.mulW rfl rfl rfl rfl) ?_)))
   iterate 2 refine q1 aE ?_
   refine q1 (a3.indexS (k:=i22) rfl rfl rfl rfl z26 Tryz.underlying9) (q1 (a3.subU8 rfl rfl rfl rfl) ?_)
   refine q1 (a3.convI rfl rfl rfl ⟨_,Tryz.underlying5⟩ Tryz.underlying3 (by first|omega|(have:=UInt8.toNat_lt (GK (((C1 ps i22).toNat:Int)-48));omega)) (by first|omega|(have:=UInt8.toNat_lt (GK (((C1 ps i22).toNat:Int)-48));omega))) ?_;refine q1 MZ (q1 aE (qN (qR (q1 aE (q1 (rA (i22+1)) (q1 aE (qN ?_)))))))
   exact iI h25l ⟨_,(aX H:),bW⟩
  refine aR.exit ?_;exact jJ ⟨_,H,bW⟩
 rintro v23 H
 refine qS (qS (qR (q1 aE (qN (jR rfl (aR.skip ?_))))))
 refine qS (qS (qR (q1 aE (bI H fun x30 z29 H=>(q1 (bG func281 (BK fu v23 _ z29)) (q1 aE (q1 WA (qN ?_))))))))
 refine a8 H (fun h31 H=>?_) (fun h31 H=>?_)
 ·refine qS (qR ?_)
  iterate 2 refine q1 aE ?_
  refine qN (aR.ret ?_)
  cases aX H
  exact tT
 refine aR.skip (qS (qR ?_))
 iterate 3 refine q1 aE ?_
 refine qN (aR.ret ?_)
 cases aX H
 exact tT
def ac9(m:ByteArray→Option (Int×Bool)):Prop:= ∀(ps:ByteArray) (r:Int×Bool),m ps=some r→b4 Tryz.prog 262 [pS ps] (.tup [pI r.1,pB r.2]:PV)
def AP(fu:Nat)(ps:ByteArray):Option (Int×Bool):=
 bd (QD fu ps 12) (fun(x2,x3)=>
 some (x2,x3))
theorem ZZ(fu:Nat):ac9 (AP fu):=by
 intro ps r H
 have H:=eE H
 refine qI func262 (fun C hC=>?_)
 refine qS (qR ?_)
 iterate 2 refine q1 aE ?_
 refine qN (qW (q1 aE (fZ H fun x2 x3 z1 H=>(q1 (bG func279 (ah7 fu ps 12 _ z1)) ?_))))
 iterate 2 refine q1 AK ?_
 iterate 2 refine q1 aE ?_
 refine qN (aR.ret ?_)
 cases aX H
 exact tT
def alN(m:Int→Option aG):Prop:= ∀(pn:Int) (r:aG),m pn=some r→b4 Tryz.prog 159 [pI pn] ((aG.pv r):PV)
def tM(fu:Nat)(pn:Int):Option aG:=
 some (aG.mk 1 s_ s_ pn (aB.mk 0 s_ []) [] [])
theorem u7(fu:Nat):alN (tM fu):=by
 intro pn r H
 have H:=eE H
 refine qI func159 (fun C hC=>?_)
 refine qW (q1 (fO kL) (qN (qW (q1 aE (q1 (gW kL zM) (q1 (bR nA) (qZ ?_)))))))
 cases aX H
 exact bE (hr:=⟨⟨_,_,_,rfl,rfl,fE,rfl,rfl⟩,trivial⟩)
def alO(m:ByteArray→Option aG):Prop:= ∀(ps:ByteArray) (r:aG),m ps=some r→b4 Tryz.prog 157 [pS ps] ((aG.pv r):PV)
def vA(fu:Nat)(ps:ByteArray):Option aG:=
 some (aG.mk 3 s_ ps 0 (aB.mk 0 s_ []) [] [])
theorem zR(fu:Nat):alO (vA fu):=by
 intro ps r H
 have H:=eE H
 refine qI func157 (fun C hC=>?_)
 refine qW (q1 (fO kL) (qN (qW (q1 aE (q1 (gW kL zM) (q1 (bR nA) (qZ ?_)))))))
 cases aX H
 exact bE (hr:=⟨⟨_,_,_,rfl,rfl,fE,rfl,rfl⟩,trivial⟩)
def aoB(m:Int→Int→Option Int):Prop:= ∀(pa:Int) (pb:Int) (r:Int),m pa pb=some r→b4 Tryz.prog 261 [pI pa,pI pb] (pI r:PV)
def qH(fu:Nat)(pa pb:Int):Option Int:=
 sw (decide (pa<pb))
 (some pa)
 (some pb)
theorem rH(fu:Nat):aoB (qH fu):=by
 intro pa pb r H
 have H:=eE H
 refine qI func261 (fun C hC=>?_)
 refine qW (q1 aE (qN ?_))
 refine qS (qS (qR ?_))
 iterate 2 refine q1 aE ?_
 refine q1 gI (qN ?_)
 refine a8 H (fun h1 H=>?_) (fun h1 H=>?_)
 ·refine qS (qR ?_)
  iterate 2 refine q1 aE ?_
  refine qN (aR.ret ?_)
  cases aX H
  exact bE
 refine aR.skip (qS (qR ?_))
 iterate 2 refine q1 aE ?_
 refine qN (aR.ret ?_)
 cases aX H
 exact bE
abbrev iR:=aA→Option aG
abbrev gT:=(List aA)→Option ((List aG))
abbrev jY:=aA→Option bA
def vB(m:iR):Prop:= ∀(pa0:aA) (r:aG),m pa0=some r→b4 Tryz.prog 247 [(aA.pv pa0)] ((aG.pv r):PV)
def wG(m:gT):Prop:= ∀(plist:List aA) (r:(List aG)),m plist=some r→b4 Tryz.prog 263 [bF plist] (eB r:PV)
def CQ(m:jY):Prop:= ∀(px:aA) (r:bA),m px=some r→b4 Tryz.prog 264 [(aA.pv px)] ((bA.pv r):PV)
def aeD(fu:Nat)(r_sl12Expr:iR)(r_sl12Exprs:gT)(r_sl12Arm:jY)(pa0 y15 y18:aA)(x67:Int)(x70:List aG):Nat→((List bA))→Option (LR ((List bA)) aG):=
 fun i71 v73=>bd (r_sl12Arm (aW pa0.gList i71)) (fun x77=>
 gd ((v73).length+(([x77]:List bA)).length≤68719476736)
 (some (.next (v73++([x77]:List bA)))))
def aeE(fu:Nat)(r_sl12Expr:iR)(r_sl12Exprs:gT)(r_sl12Arm:jY)(pa0 y15 y18:aA)(x67:Int)(x70:List aG):Option (aG⊕((List bA))):=
 loopN (aeD fu r_sl12Expr r_sl12Exprs r_sl12Arm pa0 y15 y18 x67 x70) (pa0.gList.length-2) 2 ([])
def K9(fu:Nat)(r_sl12Expr:iR)(r_sl12Exprs:gT)(r_sl12Arm:jY)(pa0:aA):Option aG:=
 sw (!decide (pa0.gAtom=s_))
 (bd (AP fu pa0.gAtom) (fun(x3,x4)=>
 sw (x4)
 (bd (tM fu x3) (fun x7=>
 some x7))
 (sw (decide (pa0.gAtom=pK))
 (some (aG.mk 2 s_ s_ 1 (aB.mk 0 s_ []) [] []))
 (sw (decide (pa0.gAtom=l8))
 (some (aG.mk 2 s_ s_ 0 (aB.mk 0 s_ []) [] []))
 (bd (vA fu pa0.gAtom) (fun x11=>
 some x11))))))
 (gd (([]:List aA).length+(pa0.gList).length≤68719476736)
 (gd ((([])++pa0.gList).length+(([(aA.mk s_ []),(aA.mk s_ []),(aA.mk s_ [])]:List aA)).length≤68719476736)
 (gd (1<((([])++pa0.gList)++([(aA.mk s_ []),(aA.mk s_ []),(aA.mk s_ [])]:List aA)).length)
 (lt (aW ((([])++pa0.gList)++([(aA.mk s_ []),(aA.mk s_ []),(aA.mk s_ [])]:List aA)) 1) (fun y15=>
 gd (0<((([])++pa0.gList)++([(aA.mk s_ []),(aA.mk s_ []),(aA.mk s_ [])]:List aA)).length)
 (lt (aW ((([])++pa0.gList)++([(aA.mk s_ []),(aA.mk s_ []),(aA.mk s_ [])]:List aA)) 0) (fun y18=>
 sw (decide (y18.gAtom=u5))
 (bd (qH fu 2 (pa0.gList.length:Int)) (fun x22=>
 gd ((0:Int)≤x22∧(x22:Int)≤(pa0.gList.length:Int)∧(pa0.gList.length:Int)≤(pa0.gList.length:Int))
 (bd (r_sl12Exprs (List.drop (x22:Int).toNat (List.take (pa0.gList.length:Int).toNat pa0.gList))) (fun x25=>
 some (aG.mk 4 s_ y15.gAtom 0 (aB.mk 0 s_ []) x25 [])))))
 (sw (decide (y18.gAtom=jD))
 (gd (2<((([])++pa0.gList)++([(aA.mk s_ []),(aA.mk s_ []),(aA.mk s_ [])]:List aA)).length)
 (lt (aW ((([])++pa0.gList)++([(aA.mk s_ []),(aA.mk s_ []),(aA.mk s_ [])]:List aA)) 2) (fun y28=>
 bd (qH fu 3 (pa0.gList.length:Int)) (fun x31=>
 gd ((0:Int)≤x31∧(x31:Int)≤(pa0.gList.length:Int)∧(pa0.gList.length:Int)≤(pa0.gList.length:Int))
 (bd (r_sl12Exprs (List.drop (x31:Int).toNat (List.take (pa0.gList.length:Int).toNat pa0.gList))) (fun x34=>
 some (aG.mk 5 y15.gAtom y28.gAtom 0 (aB.mk 0 s_ []) x34 [])))))))
 (sw (decide (y18.gAtom=ES))
 (bd (qH fu 2 (pa0.gList.length:Int)) (fun x37=>
 gd ((0:Int)≤x37∧(x37:Int)≤(pa0.gList.length:Int)∧(pa0.gList.length:Int)≤(pa0.gList.length:Int))
 (bd (r_sl12Exprs (List.drop (x37:Int).toNat (List.take (pa0.gList.length:Int).toNat pa0.gList))) (fun x40=>
 some (aG.mk 6 s_ y15.gAtom 0 (aB.mk 0 s_ []) x40 [])))))
 (sw (decide (y18.gAtom=ER))
 (bd (qH fu 2 (pa0.gList.length:Int)) (fun x43=>
 gd ((0:Int)≤x43∧(x43:Int)≤(pa0.gList.length:Int)∧(pa0.gList.length:Int)≤(pa0.gList.length:Int))
 (bd (r_sl12Exprs (List.drop (x43:Int).toNat (List.take (pa0.gList.length:Int).toNat pa0.gList))) (fun x46=>
 some (aG.mk 8 s_ y15.gAtom 0 (aB.mk 0 s_ []) x46 [])))))
 (sw (decide (y18.gAtom=D1))
 (gd ((0:Int)≤1∧(1:Int)≤(pa0.gList.length:Int)∧(pa0.gList.length:Int)≤(pa0.gList.length:Int))
 (bd (r_sl12Exprs (List.drop (1:Int).toNat (List.take (pa0.gList.length:Int).toNat pa0.gList))) (fun x50=>
 some (aG.mk 9 s_ s_ 0 (aB.mk 0 s_ []) x50 []))))
 (sw (decide (y18.gAtom=w8))
 (bd (qH fu 2 (pa0.gList.length:Int)) (fun x53=>
 gd ((0:Int)≤x53∧(x53:Int)≤(pa0.gList.length:Int)∧(pa0.gList.length:Int)≤(pa0.gList.length:Int))
 (bd (r_sl12Exprs (List.drop (x53:Int).toNat (List.take (pa0.gList.length:Int).toNat pa0.gList))) (fun x56=>
 some (aG.mk 11 y15.gAtom s_ 0 (aB.mk 0 s_ []) x56 [])))))
 (sw (decide (y18.gAtom=YE))
 (bd (mS fu y15) (fun x59=>
 bd (qH fu 2 (pa0.gList.length:Int)) (fun x61=>
 gd ((0:Int)≤x61∧(x61:Int)≤(pa0.gList.length:Int)∧(pa0.gList.length:Int)≤(pa0.gList.length:Int))
 (bd (r_sl12Exprs (List.drop (x61:Int).toNat (List.take (pa0.gList.length:Int).toNat pa0.gList))) (fun x64=>
 some (aG.mk 12 s_ s_ 0 x59 x64 []))))))
 (sw (decide (y18.gAtom=w7))
 (bd (qH fu 2 (pa0.gList.length:Int)) (fun x67=>
 gd ((0:Int)≤1∧(1:Int)≤x67∧(x67:Int)≤(pa0.gList.length:Int))
 (bd (r_sl12Exprs (List.drop (1:Int).toNat (List.take (x67:Int).toNat pa0.gList))) (fun x70=>
 so (aeE fu r_sl12Expr r_sl12Exprs r_sl12Arm pa0 y15 y18 x67 x70) (fun v73=>
 some (aG.mk 7 s_ s_ 0 (aB.mk 0 s_ []) x70 v73))))))
 (bd (qH fu 1 (pa0.gList.length:Int)) (fun x80=>
 gd ((0:Int)≤x80∧(x80:Int)≤(pa0.gList.length:Int)∧(pa0.gList.length:Int)≤(pa0.gList.length:Int))
 (bd (r_sl12Exprs (List.drop (x80:Int).toNat (List.take (pa0.gList.length:Int).toNat pa0.gList))) (fun x83=>
 some (aG.mk 10 s_ y18.gAtom 0 (aB.mk 0 s_ []) x83 [])))))))))))))))))))
theorem XL(fu:Nat)(r_sl12Expr:iR)(r_sl12Exprs:gT)(r_sl12Arm:jY)(h_sl12Expr:vB r_sl12Expr)(h_sl12Exprs:wG r_sl12Exprs)(h_sl12Arm:CQ r_sl12Arm):vB (K9 fu r_sl12Expr r_sl12Exprs r_sl12Arm):=by
 intro pa0 r H
 have H:=eE H
 refine qI func247 (fun C hC=>?_)
 refine qW (q1 (iM ([pS pa0.gAtom,bF pa0.gList])) (q1 (fO kL) (qN ?_)))
 refine qS (qS (qR (q1 (a5 fT) (q1 (bD eJ) (q1 WA (qN ?_))))))
 refine a8 H (fun h1 H=>?_) (fun h1 H=>?_)
 ·refine qW (q1 (a5 fT) (q1 (bD eJ) (fZ H fun x3 x4 z2 H=>(q1 (bG func262 (ZZ fu pa0.gAtom _ z2)) (q1 aE ?_)))))
  iterate 2 refine q1 AK ?_
  iterate 2 refine q1 aE ?_
  refine qN (qS (aR.block (qS (qR ?_))))
  iterate 2 refine q1 aE ?_
  refine qN ?_;refine a8 H (fun h5 H=>?_) (fun h5 H=>?_)
  ·refine qW (q1 aE (bI H fun x7 z6 H=>(q1 (bG func159 (u7 fu x3 _ z6)) (q1 (bR nA) (qZ ?_)))))
   cases aX H
   exact bE (hr:=⟨⟨_,_,_,rfl,rfl,fE,rfl,rfl⟩,trivial⟩)
  refine qW (q1 (a5 fT) (q1 (bD eJ) (q1 AM (q1 aE (qN ?_)))))
  refine a8 H (fun h8 H=>?_) (fun h8 H=>?_)
  ·refine qW (q1 (gW kL zM) (q1 (bR nA) (qZ ?_)))
   cases aX H
   exact bE (hr:=⟨⟨_,_,_,rfl,rfl,fE,rfl,rfl⟩,trivial⟩)
  refine qW (q1 (a5 fT) (q1 (bD eJ) (q1 AM (q1 aE (qN ?_)))))
  refine a8 H (fun h9 H=>?_) (fun h9 H=>?_)
  ·refine qW (q1 (gW kL zM) (q1 (bR nA) (qZ ?_)))
   cases aX H
   exact bE (hr:=⟨⟨_,_,_,rfl,rfl,fE,rfl,rfl⟩,trivial⟩)
  refine aR.skip (qW (q1 (a5 fT) (q1 (bD eJ) (bI H fun x11 z10 H=>(q1 (bG func157 (zR fu pa0.gAtom _ z10)) (q1 (bR nA) (qZ ?_)))))))
  cases aX H
  exact bE (hr:=⟨⟨_,_,_,rfl,rfl,fE,rfl,rfl⟩,trivial⟩)
 refine aR.skip (qW (q1 (uK ([]:List aA) bL cD) (q1 (a5 bK) (q1 (bD cX) (dK H fun z12 H=>(q1 (nV z12 bL rO) ?_))))))
 iterate 3 refine q1 (gW cD nL) ?_
 refine q1 (j9 ([(aA.mk s_ []),(aA.mk s_ []),(aA.mk s_ [])]:List aA) bL cD) (dK H fun z13 H=>(q1 (nV z13 bL rO) (q1 aE (qN (qW (q1 (a5 bK) (q1 (bD cX) (q1 (dL bL (aA.trs_len _)) (q1 aE (qN (qS (qR ?_))))))))))))
 refine q1 aE (dK H fun z14 H=>(fP H fun y15 h16 H=>(q1 (m9 h16 z14 bL) (q1 (lR fT) (q1 (kQ eJ) (q1 aE (qN ?_)))))))
 refine qS (qS (qR (q1 aE (dK H fun z17 H=>(fP H fun y18 h19 H=>(q1 (m9 h19 z17 bL) (q1 (lR fT) (q1 (kQ eJ) (qN (aR.block (qW (q1 AM (q1 aE (qN ?_))))))))))))))
 refine a8 H (fun h20 H=>?_) (fun h20 H=>?_)
 ·refine qS (bI H fun x22 z21 H=>(dK H fun z23 H=>(bI H fun x25 z24 H=>(dW (dI [7] aE (dI [1] (a5 bK) (dD [59] (bD cX) (dI [6] aE (dI [61] (bG func261 (rH fu 2 (pa0.gList.length:Int) _ z21)) ?_)))))))))
  refine dI [60,62] (a3.congrP (a3.sliceR (es:=aA.trs (pa0.gList)) (l:=x22) (k:=(pa0.gList.length:Int)) rfl rfl rfl rfl rfl (by rw [aA.trs_len];exact rfl) (by rw [aA.trs_len];exact z23) bL) (aA.trs_part _ _ _)) ?_;refine dI [63] (bG func263 (h_sl12Exprs (List.drop (x22:Int).toNat (List.take (pa0.gList.length:Int).toNat pa0.gList)) _ z24)) (dI [58,64] (gW kL zM) (lH [2,65] (bR nA) (dN (aR.ret ?_))))
  cases aX H
  exact bE (hr:=⟨⟨_,_,_,rfl,rfl,fE,rfl,rfl⟩,trivial⟩)
 refine qW (q1 AM (q1 aE (qN ?_)))
 refine a8 H (fun h26 H=>?_) (fun h26 H=>?_)
 ·refine qS (dK H fun z27 H=>(fP H fun y28 h29 H=>(bI H fun x31 z30 H=>(dK H fun z32 H=>(bI H fun x34 z33 H=>(dW (dI [7] aE (dI [5] aE (dI [69] (m9 h29 z27 bL) (dI [70] (lR fT) (dI [71] (kQ eJ) (dI [1] (a5 bK) (dD [73] (bD cX) ?_)))))))))))))
  refine dI [6] aE (dI [75] (bG func261 (rH fu 3 (pa0.gList.length:Int) _ z30)) ?_)
  refine dI [74,76] (a3.congrP (a3.sliceR (es:=aA.trs (pa0.gList)) (l:=x31) (k:=(pa0.gList.length:Int)) rfl rfl rfl rfl rfl (by rw [aA.trs_len];exact rfl) (by rw [aA.trs_len];exact z32) bL) (aA.trs_part _ _ _)) ?_;refine dI [77] (bG func263 (h_sl12Exprs (List.drop (x31:Int).toNat (List.take (pa0.gList.length:Int).toNat pa0.gList)) _ z33)) (dI [68,72,78] (gW kL zM) (lH [2,79] (bR nA) (dN (aR.ret ?_))))
  cases aX H
  exact bE (hr:=⟨⟨_,_,_,rfl,rfl,fE,rfl,rfl⟩,trivial⟩)
 refine qW (q1 AM (q1 aE (qN ?_)))
 refine a8 H (fun h35 H=>?_) (fun h35 H=>?_)
 ·refine qS (bI H fun x37 z36 H=>(dK H fun z38 H=>(bI H fun x40 z39 H=>(dW (dI [7] aE (dI [1] (a5 bK) (dD [83] (bD cX) (dI [6] aE (dI [85] (bG func261 (rH fu 2 (pa0.gList.length:Int) _ z36)) ?_)))))))))
  refine dI [84,86] (a3.congrP (a3.sliceR (es:=aA.trs (pa0.gList)) (l:=x37) (k:=(pa0.gList.length:Int)) rfl rfl rfl rfl rfl (by rw [aA.trs_len];exact rfl) (by rw [aA.trs_len];exact z38) bL) (aA.trs_part _ _ _)) ?_;refine dI [87] (bG func263 (h_sl12Exprs (List.drop (x37:Int).toNat (List.take (pa0.gList.length:Int).toNat pa0.gList)) _ z39)) (dI [82,88] (gW kL zM) (lH [2,89] (bR nA) (dN (aR.ret ?_))))
  cases aX H
  exact bE (hr:=⟨⟨_,_,_,rfl,rfl,fE,rfl,rfl⟩,trivial⟩)
 refine qW (q1 AM (q1 aE (qN ?_)))
 refine a8 H (fun h41 H=>?_) (fun h41 H=>?_)
 ·refine qS (bI H fun x43 z42 H=>(dK H fun z44 H=>(bI H fun x46 z45 H=>(dW (dI [7] aE (dI [1] (a5 bK) (dD [93] (bD cX) (dI [6] aE (dI [95] (bG func261 (rH fu 2 (pa0.gList.length:Int) _ z42)) ?_)))))))))
  refine dI [94,96] (a3.congrP (a3.sliceR (es:=aA.trs (pa0.gList)) (l:=x43) (k:=(pa0.gList.length:Int)) rfl rfl rfl rfl rfl (by rw [aA.trs_len];exact rfl) (by rw [aA.trs_len];exact z44) bL) (aA.trs_part _ _ _)) ?_;refine dI [97] (bG func263 (h_sl12Exprs (List.drop (x43:Int).toNat (List.take (pa0.gList.length:Int).toNat pa0.gList)) _ z45)) (dI [92,98] (gW kL zM) (lH [2,99] (bR nA) (dN (aR.ret ?_))))
  cases aX H
  exact bE (hr:=⟨⟨_,_,_,rfl,rfl,fE,rfl,rfl⟩,trivial⟩)
 refine qW (q1 AM (q1 aE (qN ?_)))
 refine a8 H (fun h47 H=>?_) (fun h47 H=>?_)
 ·refine qW (q1 (a5 bK) (q1 (bD cX) (dK H fun z48 H=>?_)))
  refine q1 (a3.congrP (a3.sliceR (es:=aA.trs (pa0.gList)) (l:=1) (k:=(pa0.gList.length:Int)) rfl rfl rfl rfl rfl (by rw [aA.trs_len];exact rfl) (by rw [aA.trs_len];exact z48) bL) (aA.trs_part _ _ _)) ?_;refine bI H fun x50 z49 H=>(q1 (bG func263 (h_sl12Exprs (List.drop (1:Int).toNat (List.take (pa0.gList.length:Int).toNat pa0.gList)) _ z49)) (q1 (gW kL zM) (q1 (bR nA) (qZ ?_))))
  cases aX H
  exact bE (hr:=⟨⟨_,_,_,rfl,rfl,fE,rfl,rfl⟩,trivial⟩)
 refine qW (q1 AM (q1 aE (qN ?_)))
 refine a8 H (fun h51 H=>?_) (fun h51 H=>?_)
 ·refine qS (bI H fun x53 z52 H=>(dK H fun z54 H=>(bI H fun x56 z55 H=>(dW (dI [7] aE (dI [1] (a5 bK) (dD [110] (bD cX) (dI [6] aE (dI [112] (bG func261 (rH fu 2 (pa0.gList.length:Int) _ z52)) ?_)))))))))
  refine dI [111,113] (a3.congrP (a3.sliceR (es:=aA.trs (pa0.gList)) (l:=x53) (k:=(pa0.gList.length:Int)) rfl rfl rfl rfl rfl (by rw [aA.trs_len];exact rfl) (by rw [aA.trs_len];exact z54) bL) (aA.trs_part _ _ _)) ?_;refine dI [114] (bG func263 (h_sl12Exprs (List.drop (x53:Int).toNat (List.take (pa0.gList.length:Int).toNat pa0.gList)) _ z55)) (dI [109,115] (gW kL zM) (lH [2,116] (bR nA) (dN (aR.ret ?_))))
  cases aX H
  exact bE (hr:=⟨⟨_,_,_,rfl,rfl,fE,rfl,rfl⟩,trivial⟩)
 refine qW (q1 AM (q1 aE (qN ?_)))
 refine a8 H (fun h57 H=>?_) (fun h57 H=>?_)
 ·refine qS (bI H fun x59 z58 H=>(bI H fun x61 z60 H=>(dK H fun z62 H=>(bI H fun x64 z63 H=>(dW (dI [5] aE (dI [119] (m9 h16 z14 bL) (dI [120] (kM (aA.cs y15) bU) (dI [121] (bG func246 (wK fu y15 _ z58)) (dI [1] (a5 bK) (dD [123] (bD cX) (dI [6] aE (dI [125] (bG func261 (rH fu 2 (pa0.gList.length:Int) _ z60)) ?_)))))))))))))
  refine dI [124,126] (a3.congrP (a3.sliceR (es:=aA.trs (pa0.gList)) (l:=x61) (k:=(pa0.gList.length:Int)) rfl rfl rfl rfl rfl (by rw [aA.trs_len];exact rfl) (by rw [aA.trs_len];exact z62) bL) (aA.trs_part _ _ _)) ?_;refine dI [127] (bG func263 (h_sl12Exprs (List.drop (x61:Int).toNat (List.take (pa0.gList.length:Int).toNat pa0.gList)) _ z63)) (dI [122,128] (gW kL zM) (lH [2,129] (bR nA) (dN (aR.ret ?_))))
  cases aX H
  exact bE (hr:=⟨⟨_,_,_,rfl,rfl,fE,rfl,rfl⟩,trivial⟩)
 refine qW (q1 AM (q1 aE (qN ?_)))
 refine a8 H (fun h65 H=>?_) (fun h65 H=>?_)
 ·refine qS (bI H fun x67 z66 H=>(dK H fun z68 H=>(bI H fun x70 z69 H=>(dW (dI [1] (a5 bK) (dB [132] 0 1 (wL cX) (dI [6] aE (dI [134] (bG func261 (rH fu 2 (pa0.gList.length:Int) _ z66)) ?_))))))))
  refine dI [133,135] (a3.congrP (a3.sliceR (es:=aA.trs (pa0.gList)) (l:=1) (k:=x67) rfl rfl rfl rfl rfl (by rw [aA.trs_len];exact rfl) (by rw [aA.trs_len];exact z68) bL) (aA.trs_part _ _ _)) ?_;refine dI [136] (bG func263 (h_sl12Exprs (List.drop (1:Int).toNat (List.take (x67:Int).toNat pa0.gList)) _ z69)) (dI [137] (gW kL zM) (dE [] (fO kL) (lH [8,138] (bR nA) (dN ?_))))
  refine qS (qS (qR (q1 aE (qN (aR.wk (Wk.regBox (k:=2) (j:=8) 92 11 (by decide) rfl rfl) ?_)))))
  refine lD 38 (aA.trs_len _) (fun hl74=>?_)
  refine b0 (σ:=(List bA)) (fun i71 v73=>⟨[(1,.ptr 0 0),(2,.ptr 1 0),(5,eH ((([])++pa0.gList)++([(aA.mk s_ []),(aA.mk s_ []),(aA.mk s_ [])]:List aA)) 0),(6,pN pa0.gList.length),(8,.ptr 2 0),(9,pN i71)],⟨[some ⟨237,[pS pa0.gAtom,bF pa0.gList]⟩,some ⟨87,[pI 0,pS s_,pS s_,pI 0,pI 0,pS s_,.nil,.nil,.nil]⟩,some ⟨87,[pI 7,pS s_,pS s_,pI 0,pI 0,pS s_,.nil,eB x70,akS v73 1]⟩],[⟨237,2,aA.trs ((([])++pa0.gList)++([(aA.mk s_ []),(aA.mk s_ []),(aA.mk s_ [])]:List aA)),false⟩,⟨92,11,bA.trs (v73),false⟩]⟩⟩) (fun v73=>⟨[(1,.ptr 0 0),(2,.ptr 1 0),(5,eH ((([])++pa0.gList)++([(aA.mk s_ []),(aA.mk s_ []),(aA.mk s_ [])]:List aA)) 0),(6,pN pa0.gList.length),(8,.ptr 2 0)],⟨[some ⟨237,[pS pa0.gAtom,bF pa0.gList]⟩,some ⟨87,[pI 0,pS s_,pS s_,pI 0,pI 0,pS s_,.nil,.nil,.nil]⟩,some ⟨87,[pI 7,pS s_,pS s_,pI 0,pI 0,pS s_,.nil,eB x70,akS v73 1]⟩],[⟨237,2,aA.trs ((([])++pa0.gList)++([(aA.mk s_ []),(aA.mk s_ []),(aA.mk s_ [])]:List aA)),false⟩,⟨92,11,bA.trs (v73),false⟩]⟩⟩) (fK H) ?_ ?_
  ·rintro i71 v73 H
   refine qS (qS (qR ?_))
   iterate 2 refine q1 aE ?_
   refine q1 gI (qN ?_)
   refine dG H (fun h75 h75l H=>?_) (fun h75 H=>?_)
   ·have h75n:=a4 h75
    refine aR.skip (qS (aR.block (bI H fun x77 z76 H=>(dK H fun z78 H=>(dW (dI [8] (a5 eI) (dD [144] (bD mN) (dI [1] (a5 bK) (dD [146] (bD cX) (dI [9] aE (dI [147,148] (kP h75n bL) (dI [149] (kM (aA.cs (aW pa0.gList i71)) bU) (dI [150] (bG func264 (h_sl12Arm (aW pa0.gList i71) _ z76)) ?_)))))))))))))
    refine dI [151] (j9 ([x77]:List bA) jL QQ) (dE [145,152] (nV z78 jL asV) (dI [8] (a5 eI) (lH [154,153] (bR asM) (dN (qR (q1 aE (q1 (rA (i71+1)) (q1 aE (qN ?_)))))))))
    exact iI h75l ⟨_,(aX H:),bW⟩
   refine aR.exit ?_;exact jJ ⟨_,H,bW⟩
  rintro v73 H
  refine qW (q1 (cJ [pI 7,pS s_,pS s_,pI 0,pI 0,pS s_,.nil,eB x70,akS v73 1] fE) (q1 (bR nA) (qZ ?_)))
  cases aX H
  exact bE (hr:=⟨⟨_,_,_,rfl,rfl,fE,rfl,rfl⟩,trivial⟩)
 refine aR.skip (qS (bI H fun x80 z79 H=>(dK H fun z81 H=>(bI H fun x83 z82 H=>(dW (dI [5] aE (dI [156] (m9 h19 z17 bL) (dI [157] (lR fT) (dI [158] (kQ eJ) (dI [1] (a5 bK) (dD [160] (bD cX) (dI [6] aE (dI [162] (bG func261 (rH fu 1 (pa0.gList.length:Int) _ z79)) ?_)))))))))))))
 refine dI [161,163] (a3.congrP (a3.sliceR (es:=aA.trs (pa0.gList)) (l:=x80) (k:=(pa0.gList.length:Int)) rfl rfl rfl rfl rfl (by rw [aA.trs_len];exact rfl) (by rw [aA.trs_len];exact z81) bL) (aA.trs_part _ _ _)) ?_;refine dI [164] (bG func263 (h_sl12Exprs (List.drop (x80:Int).toNat (List.take (pa0.gList.length:Int).toNat pa0.gList)) _ z82)) (dI [159,165] (gW kL zM) (lH [2,166] (bR nA) (dN (aR.ret ?_))))
 cases aX H
 exact bE (hr:=⟨⟨_,_,_,rfl,rfl,fE,rfl,rfl⟩,trivial⟩)
def aaD(fu:Nat)(r_sl12Expr:iR)(r_sl12Exprs:gT)(r_sl12Arm:jY)(plist:List aA):Nat→((List aG))→Option (LR ((List aG)) ((List aG))):=
 fun i1 v3=>bd (r_sl12Expr (aW plist i1)) (fun x7=>
 gd ((v3).length+(([x7]:List aG)).length≤68719476736)
 (some (.next (v3++([x7]:List aG)))))
def aaE(fu:Nat)(r_sl12Expr:iR)(r_sl12Exprs:gT)(r_sl12Arm:jY)(plist:List aA):Option (((List aG))⊕((List aG))):=
 loopN (aaD fu r_sl12Expr r_sl12Exprs r_sl12Arm plist) (plist.length-0) 0 ([])
def F4(fu:Nat)(r_sl12Expr:iR)(r_sl12Exprs:gT)(r_sl12Arm:jY)(plist:List aA):Option ((List aG)):=
 so (aaE fu r_sl12Expr r_sl12Exprs r_sl12Arm plist) (fun v3=>
 some v3)
theorem VG(fu:Nat)(r_sl12Expr:iR)(r_sl12Exprs:gT)(r_sl12Arm:jY)(h_sl12Expr:vB r_sl12Expr)(h_sl12Exprs:wG r_sl12Exprs)(h_sl12Arm:CQ r_sl12Arm):wG (F4 fu r_sl12Expr r_sl12Exprs r_sl12Arm):=by
 intro plist r H
 have H:=eE H
 refine qI func263 (fun C hC=>?_)
 refine qW (q1 aE (qN (qW (q1 (uK ([]:List aG) jZ kL) (q1 aE (qN ?_))))))
 refine qS (qS (qR (q1 aE (qN ?_))))
 refine lD 0 (aA.trs_len _) (fun hl4=>?_)
 refine b0 (σ:=(List aG)) (fun i1 v3=>⟨[(0,bF plist),(2,.nil),(3,TO v3 0),(4,pN i1)],⟨[],[⟨87,9,aG.trs (v3),false⟩]⟩⟩) (fun v3=>⟨[(2,.nil),(3,TO v3 0)],⟨[],[⟨87,9,aG.trs (v3),false⟩]⟩⟩) (fK H) ?_ ?_
 ·rintro i1 v3 H
  refine qS (qS (qR ?_))
  iterate 2 refine q1 aE ?_
  refine q1 (dL bL (aA.trs_len _)) (q1 gI (qN ?_))
  refine dG H (fun h5 h5l H=>?_) (fun h5 H=>?_)
  ·have h5n:=a4 h5
   refine aR.skip (qS (aR.block (qR ?_)))
   iterate 3 refine q1 aE ?_
   refine q1 (kP h5n bL) (q1 (kM (aA.cs (aW plist i1)) bU) (bI H fun x7 z6 H=>(q1 (bG func247 (h_sl12Expr (aW plist i1) _ z6)) (q1 (j9 ([x7]:List aG) jZ kL) (dK H fun z8 H=>(q1 (nV z8 jZ arQ) (q1 aE (qN (qR (q1 aE (q1 (rA (i1+1)) (q1 aE (qN ?_)))))))))))))
   exact iI h5l ⟨_,(aX H:),bW⟩
  refine aR.exit ?_;exact jJ ⟨_,H,bW⟩
 rintro v3 H
 refine qS (qR ?_)
 iterate 2 refine q1 aE ?_
 refine qN (aR.ret ?_)
 cases aX H
 exact bE
def P6(fu:Nat)(r_sl12Expr:iR)(r_sl12Exprs:gT)(r_sl12Arm:jY)(px:aA):Option bA:=
 sw (decide ((px.gList.length:Int)<2))
 (some (bA.mk s_ [] (aG.mk 0 s_ s_ 0 (aB.mk 0 s_ []) [] [])))
 (gd ((0:Int)≤1∧(1:Int)≤aQ ((px.gList.length:Int)-1)∧(aQ ((px.gList.length:Int)-1):Int)≤(px.gList.length:Int))
 (bd (zW fu (List.drop (1:Int).toNat (List.take (aQ ((px.gList.length:Int)-1):Int).toNat px.gList))) (fun(x4,x5)=>
 gd (0<(px.gList).length)
 (gd (0≤aQ ((px.gList.length:Int)-1)∧(aQ ((px.gList.length:Int)-1)).toNat<(px.gList).length)
 (lt (aW px.gList ((aQ ((px.gList.length:Int)-1)).toNat)) (fun y8=>
 bd (r_sl12Expr y8) (fun x11=>
 some (bA.mk ((aW px.gList 0).gAtom) x4 x11))))))))
theorem aaB(fu:Nat)(r_sl12Expr:iR)(r_sl12Exprs:gT)(r_sl12Arm:jY)(h_sl12Expr:vB r_sl12Expr)(h_sl12Exprs:wG r_sl12Exprs)(h_sl12Arm:CQ r_sl12Arm):CQ (P6 fu r_sl12Expr r_sl12Exprs r_sl12Arm):=by
 intro px r H
 have H:=eE H
 refine qI func264 (fun C hC=>?_)
 refine qW (q1 (iM ([pS px.gAtom,bF px.gList])) (q1 (fO QQ) (qN (qW (q1 (a5 bK) (q1 (bD cX) (q1 (dL bL (aA.trs_len _)) (q1 aE (qN ?_)))))))))
 refine qS (qS (qR (q1 aE (q1 gI (qN ?_)))))
 refine a8 H (fun h1 H=>?_) (fun h1 H=>?_)
 ·have h1n:px.gList.length<2:=by have:=of_decide_eq_true h1;omega
  refine qW (q1 (gW QQ anV) (q1 (bR aoO) (qZ ?_)))
  cases aX H
  exact bE (hr:=⟨⟨_,_,_,rfl,rfl,alL,rfl,rfl⟩,trivial⟩)
 refine aR.skip (qW (q1 (a5 bK) (q1 (bD cX) (q1 aE (q1 EP (dK H fun z2 H=>?_))))))
 refine q1 (a3.congrP (a3.sliceR (es:=aA.trs (px.gList)) (l:=1) (k:=aQ ((px.gList.length:Int)-1)) rfl rfl rfl rfl rfl (by rw [aA.trs_len];exact rfl) (by rw [aA.trs_len];exact z2) bL) (aA.trs_part _ _ _)) ?_;refine fZ H fun x4 x5 z3 H=>(q1 (bG func218 (GH fu (List.drop (1:Int).toNat (List.take (aQ ((px.gList.length:Int)-1):Int).toNat px.gList)) _ z3)) (q1 aE ?_))
 iterate 2 refine q1 AK ?_
 iterate 2 refine q1 aE ?_
 refine qN (qS (dK H fun z6 H=>(dK H fun z7 H=>(fP H fun y8 h9 H=>(bI H fun x11 z10 H=>(dW (dI [1] (a5 bK) (dD [21] (bD cX) (dI [22] (kP z6 bL) (dI [23] (lR fT) (dI [24] (kQ eJ) (dI [4] aE (dI [1] (a5 bK) ?_)))))))))))))
 refine dD [27] (bD cX) (dI [3] aE (dI [29] EP (dI [28,30] (rIm h9 z7 bL) (dI [31] (kM (aA.cs y8) bU) (dI [32] (bG func247 (h_sl12Expr y8 _ z10)) (dI [25,26,33] (gW QQ anV) (lH [2,34] (bR aoO) (dN (aR.ret ?_)))))))))
 cases aX H
 exact bE (hr:=⟨⟨_,_,_,rfl,rfl,alL,rfl,rfl⟩,trivial⟩)
mutual
def iA:Nat→aA→Option aG
 |0,_=>none
 |fu+1,pa0=>K9 fu (iA fu) (kK fu) (nP fu) pa0
def kK:Nat→(List aA)→Option ((List aG))
 |0,_=>none
 |fu+1,plist=>F4 fu (iA fu) (kK fu) (nP fu) plist
def nP:Nat→aA→Option bA
 |0,_=>none
 |fu+1,px=>P6 fu (iA fu) (kK fu) (nP fu) px
end
theorem aaC(fu:Nat):vB (iA fu)∧wG (kK fu)∧CQ (nP fu):=by
 induction fu with
 |zero=>exact⟨(fun pa0 r H=>by simp only [iA] at H;cases H),(fun plist r H=>by simp only [kK] at H;cases H),(fun px r H=>by simp only [nP] at H;cases H)⟩
 |succ fu ih=>exact⟨(fun pa0 r H=>by simp only [iA] at H;exact XL fu (iA fu) (kK fu) (nP fu) ih.1 ih.2.1 ih.2.2 pa0 r H),(fun plist r H=>by simp only [kK] at H;exact VG fu (iA fu) (kK fu) (nP fu) ih.1 ih.2.1 ih.2.2 plist r H),(fun px r H=>by simp only [nP] at H;exact aaB fu (iA fu) (kK fu) (nP fu) ih.1 ih.2.1 ih.2.2 px r H)⟩
theorem F3(fu:Nat):vB (iA fu):=(aaC fu).1
abbrev o3:=aG→Option aA
abbrev lA:=(List aA)→(List aG)→Option aA
def F5(m:o3):Prop:= ∀(pa0:aG) (r:aA),m pa0=some r→b4 Tryz.prog 270 [(aG.pv pa0)] ((aA.pv r):PV)
def D7(m:lA):Prop:= ∀(phead:List aA) (plist:List aG) (r:aA),m phead plist=some r→c6 Tryz.prog 282 [eH phead 0,eB plist] ⟨[],[⟨237,2,aA.trs (phead),false⟩]⟩ (fun q t=>q=(.agg [pS r.gAtom,eH r.gList 0]:PV)∧t=⟨[],[⟨237,2,aA.trs (r.gList),false⟩]⟩)
def alP(fu:Nat)(r_sl12Sx:o3)(r_sl12Args:lA)(pa0:aG)(x68 x70:aA):Nat→((List aA))→Option (LR ((List aA)) aA):=
 fun i71 v73=>lt (aW pa0.gArms i71) (fun y76=>
 bd (cF fu y76.gConstructor) (fun x79=>
 bd (EE fu y76.gVars) (fun x81=>
 gd ((([x79]:List aA)).length+(x81).length≤68719476736)
 (bd (r_sl12Sx y76.gBody) (fun x84=>
 gd ((([x79]:List aA)++x81).length+(([x84]:List aA)).length≤68719476736)
 (gd ((v73).length+(([(aA.mk s_ ((([x79]:List aA)++x81)++([x84]:List aA)))]:List aA)).length≤68719476736)
 (some (.next (v73++([(aA.mk s_ ((([x79]:List aA)++x81)++([x84]:List aA)))]:List aA))))))))))
def alQ(fu:Nat)(r_sl12Sx:o3)(r_sl12Args:lA)(pa0:aG)(x68 x70:aA):Option (aA⊕((List aA))):=
 loopN (alP fu r_sl12Sx r_sl12Args pa0 x68 x70) (pa0.gArms.length-0) 0 x70.gList
def VH(fu:Nat)(r_sl12Sx:o3)(r_sl12Args:lA)(pa0:aG):Option aA:=
 sw (decide (pa0.gKind=1))
 (bd (n3 fu pa0.gN) (fun x3=>
 bd (cF fu x3) (fun x5=>
 some x5)))
 (sw (decide (pa0.gKind=2))
 (gd (0≤pa0.gN∧(pa0.gN).toNat<(([l8,pK]:LB)).length)
 (bd (cF fu (aW ([l8,pK]:LB) ((pa0.gN).toNat))) (fun x9=>
 some x9)))
 (sw (decide (pa0.gKind=3))
 (bd (cF fu pa0.gName) (fun x12=>
 some x12))
 (sw (decide (pa0.gKind=4))
 (bd (cF fu u5) (fun x15=>
 bd (cF fu pa0.gName) (fun x17=>
 bd (r_sl12Args ([x15,x17]:List aA) pa0.gArgs) (fun x19=>
 some (aA.mk x19.gAtom x19.gList)))))
 (sw (decide (pa0.gKind=5))
 (bd (cF fu jD) (fun x22=>
 bd (cF fu pa0.gTrait) (fun x24=>
 bd (cF fu pa0.gName) (fun x26=>
 bd (r_sl12Args ([x22,x24,x26]:List aA) pa0.gArgs) (fun x28=>
 some (aA.mk x28.gAtom x28.gList))))))
 (sw (decide (pa0.gKind=6))
 (bd (cF fu ES) (fun x31=>
 bd (cF fu pa0.gName) (fun x33=>
 bd (r_sl12Args ([x31,x33]:List aA) pa0.gArgs) (fun x35=>
 some (aA.mk x35.gAtom x35.gList)))))
 (sw (decide (pa0.gKind=8))
 (bd (cF fu ER) (fun x38=>
 bd (cF fu pa0.gName) (fun x40=>
 bd (r_sl12Args ([x38,x40]:List aA) pa0.gArgs) (fun x42=>
 some (aA.mk x42.gAtom x42.gList)))))
 (sw (decide (pa0.gKind=9))
 (bd (cF fu D1) (fun x45=>
 bd (r_sl12Args ([x45]:List aA) pa0.gArgs) (fun x47=>
 some (aA.mk x47.gAtom x47.gList))))
 (sw (decide (pa0.gKind=10))
 (bd (cF fu pa0.gName) (fun x50=>
 bd (r_sl12Args ([x50]:List aA) pa0.gArgs) (fun x52=>
 some (aA.mk x52.gAtom x52.gList))))
 (sw (decide (pa0.gKind=11))
 (bd (cF fu w8) (fun x55=>
 bd (cF fu pa0.gTrait) (fun x57=>
 bd (r_sl12Args ([x55,x57]:List aA) pa0.gArgs) (fun x59=>
 some (aA.mk x59.gAtom x59.gList)))))
 (sw (decide (pa0.gKind=12))
 (bd (cF fu YE) (fun x62=>
 bd (mR fu pa0.gType) (fun x64=>
 bd (r_sl12Args ([x62,x64]:List aA) pa0.gArgs) (fun x66=>
 some (aA.mk x66.gAtom x66.gList)))))
 (bd (cF fu w7) (fun x68=>
 bd (r_sl12Args ([x68]:List aA) pa0.gArgs) (fun x70=>
 so (alQ fu r_sl12Sx r_sl12Args pa0 x68 x70) (fun v73=>
 some (aA.mk x70.gAtom v73)))))))))))))))
theorem aeG(fu:Nat)(r_sl12Sx:o3)(r_sl12Args:lA)(h_sl12Sx:F5 r_sl12Sx)(h_sl12Args:D7 r_sl12Args):F5 (VH fu r_sl12Sx r_sl12Args):=by
 intro pa0 r H
 have H:=eE H
 refine qI func270 (fun C hC=>?_)
 refine qW (q1 (iM (eN pa0)) (q1 (fO cD) (qN ?_)))
 refine qS (qS (qR (q1 (a5 pW) (q1 (bD nT) (qN (aR.block (qW (q1 dM (q1 aE (qN ?_))))))))))
 refine a8 H (fun h1 H=>?_) (fun h1 H=>?_)
 ·refine qW (q1 (a5 FH) (q1 (bD nT) (bI H fun x3 z2 H=>(q1 (bG func281 (BK fu pa0.gN _ z2)) (bI H fun x5 z4 H=>(q1 (bG func266 (b8 fu x3 _ z4)) (q1 (bR eO) (qZ ?_))))))))
  cases aX H
  exact bE (hr:=⟨⟨_,_,_,rfl,rfl,bU,rfl,rfl⟩,trivial⟩)
 refine qW (q1 dM (q1 aE (qN ?_)))
 refine a8 H (fun h6 H=>?_) (fun h6 H=>?_)
 ·refine qW (q1 (j9 ([l8,pK]:LB) b3 lU) (q1 (a5 FH) (q1 (bD nT) (dK H fun z7 H=>(q1 (rIy z7 b3) (q1 (kQ eJ) (bI H fun x9 z8 H=>(q1 (bG func266 (b8 fu (aW ([l8,pK]:LB) ((pa0.gN).toNat)) _ z8)) (q1 (bR eO) (qZ ?_))))))))))
  cases aX H
  exact bE (hr:=⟨⟨_,_,_,rfl,rfl,bU,rfl,rfl⟩,trivial⟩)
 refine qW (q1 dM (q1 aE (qN ?_)))
 refine a8 H (fun h10 H=>?_) (fun h10 H=>?_)
 ·refine qW (q1 (a5 lX) (q1 (bD eJ) (bI H fun x12 z11 H=>(q1 (bG func266 (b8 fu pa0.gName _ z11)) (q1 (bR eO) (qZ ?_))))))
  cases aX H
  exact bE (hr:=⟨⟨_,_,_,rfl,rfl,bU,rfl,rfl⟩,trivial⟩)
 refine qW (q1 dM (q1 aE (qN ?_)))
 refine a8 H (fun h13 H=>?_) (fun h13 H=>?_)
 ·refine qS (bI H fun x15 z14 H=>(bI H fun x17 z16 H=>(bI H fun x19 z18 H=>(dW (dI [] (bG func266 (b8 fu u5 _ z14)) (dI [1] (a5 lX) (dD [31] (bD eJ) (dI [32] (bG func266 (b8 fu pa0.gName _ z16)) (dE [30,33] (uK ([x15,x17]:List aA) bL cD) (dI [1] (a5 fM) (dB [35] 0 1 (wL oZ) (dE [34,36] (iF [] [0] func282 (h_sl12Args ([x15,x17]:List aA) pa0.gArgs _ z18)) (lH [2,37] (bR eO) ?_)))))))))))))
  refine dN (aR.ret ?_)
  cases aX H
  exact bE (hr:=⟨⟨_,_,_,rfl,rfl,bU,rfl,rfl⟩,trivial⟩)
 refine qW (q1 dM (q1 aE (qN ?_)))
 refine a8 H (fun h20 H=>?_) (fun h20 H=>?_)
 ·refine qS (bI H fun x22 z21 H=>(bI H fun x24 z23 H=>(bI H fun x26 z25 H=>(bI H fun x28 z27 H=>(dW (dI [] (bG func266 (b8 fu jD _ z21)) (dI [1] (a5 A5) (dD [41] (bD eJ) (dI [42] (bG func266 (b8 fu pa0.gTrait _ z23)) (dI [1] (a5 lX) (dD [44] (bD eJ) (dI [45] (bG func266 (b8 fu pa0.gName _ z25)) (dE [40,43,46] (uK ([x22,x24,x26]:List aA) bL cD) ?_)))))))))))))
  refine dI [1] (a5 fM) (dB [48] 0 1 (wL oZ) (dE [47,49] (iF [] [0] func282 (h_sl12Args ([x22,x24,x26]:List aA) pa0.gArgs _ z27)) (lH [2,50] (bR eO) (dN (aR.ret ?_)))))
  cases aX H
  exact bE (hr:=⟨⟨_,_,_,rfl,rfl,bU,rfl,rfl⟩,trivial⟩)
 refine qW (q1 dM (q1 aE (qN ?_)))
 refine a8 H (fun h29 H=>?_) (fun h29 H=>?_)
 ·refine qS (bI H fun x31 z30 H=>(bI H fun x33 z32 H=>(bI H fun x35 z34 H=>(dW (dI [] (bG func266 (b8 fu ES _ z30)) (dI [1] (a5 lX) (dD [54] (bD eJ) (dI [55] (bG func266 (b8 fu pa0.gName _ z32)) (dE [53,56] (uK ([x31,x33]:List aA) bL cD) (dI [1] (a5 fM) (dB [58] 0 1 (wL oZ) (dE [57,59] (iF [] [0] func282 (h_sl12Args ([x31,x33]:List aA) pa0.gArgs _ z34)) (lH [2,60] (bR eO) ?_)))))))))))))
  refine dN (aR.ret ?_)
  cases aX H
  exact bE (hr:=⟨⟨_,_,_,rfl,rfl,bU,rfl,rfl⟩,trivial⟩)
 refine qW (q1 dM (q1 aE (qN ?_)))
 refine a8 H (fun h36 H=>?_) (fun h36 H=>?_)
 ·refine qS (bI H fun x38 z37 H=>(bI H fun x40 z39 H=>(bI H fun x42 z41 H=>(dW (dI [] (bG func266 (b8 fu ER _ z37)) (dI [1] (a5 lX) (dD [64] (bD eJ) (dI [65] (bG func266 (b8 fu pa0.gName _ z39)) (dE [63,66] (uK ([x38,x40]:List aA) bL cD) (dI [1] (a5 fM) (dB [68] 0 1 (wL oZ) (dE [67,69] (iF [] [0] func282 (h_sl12Args ([x38,x40]:List aA) pa0.gArgs _ z41)) (lH [2,70] (bR eO) ?_)))))))))))))
  refine dN (aR.ret ?_)
  cases aX H
  exact bE (hr:=⟨⟨_,_,_,rfl,rfl,bU,rfl,rfl⟩,trivial⟩)
 refine qW (q1 dM (q1 aE (qN ?_)))
 refine a8 H (fun h43 H=>?_) (fun h43 H=>?_)
 ·refine qS (bI H fun x45 z44 H=>(bI H fun x47 z46 H=>(dW (dI [] (bG func266 (b8 fu D1 _ z44)) (dE [73] (uK ([x45]:List aA) bL cD) (dI [1] (a5 fM) (dB [75] 0 1 (wL oZ) (dE [74,76] (iF [] [0] func282 (h_sl12Args ([x45]:List aA) pa0.gArgs _ z46)) (lH [2,77] (bR eO) (dN (aR.ret ?_)))))))))))
  cases aX H
  exact bE (hr:=⟨⟨_,_,_,rfl,rfl,bU,rfl,rfl⟩,trivial⟩)
 refine qW (q1 dM (q1 aE (qN ?_)))
 refine a8 H (fun h48 H=>?_) (fun h48 H=>?_)
 ·refine qS (bI H fun x50 z49 H=>(bI H fun x52 z51 H=>(dW (dI [1] (a5 lX) (dD [80] (bD eJ) (dI [81] (bG func266 (b8 fu pa0.gName _ z49)) (dE [82] (uK ([x50]:List aA) bL cD) (dI [1] (a5 fM) (dB [84] 0 1 (wL oZ) (dE [83,85] (iF [] [0] func282 (h_sl12Args ([x50]:List aA) pa0.gArgs _ z51)) (lH [2,86] (bR eO) (dN (aR.ret ?_)))))))))))))
  cases aX H
  exact bE (hr:=⟨⟨_,_,_,rfl,rfl,bU,rfl,rfl⟩,trivial⟩)
 refine qW (q1 dM (q1 aE (qN ?_)))
 refine a8 H (fun h53 H=>?_) (fun h53 H=>?_)
 ·refine qS (bI H fun x55 z54 H=>(bI H fun x57 z56 H=>(bI H fun x59 z58 H=>(dW (dI [] (bG func266 (b8 fu w8 _ z54)) (dI [1] (a5 A5) (dD [90] (bD eJ) (dI [91] (bG func266 (b8 fu pa0.gTrait _ z56)) (dE [89,92] (uK ([x55,x57]:List aA) bL cD) (dI [1] (a5 fM) (dB [94] 0 1 (wL oZ) (dE [93,95] (iF [] [0] func282 (h_sl12Args ([x55,x57]:List aA) pa0.gArgs _ z58)) (lH [2,96] (bR eO) ?_)))))))))))))
  refine dN (aR.ret ?_)
  cases aX H
  exact bE (hr:=⟨⟨_,_,_,rfl,rfl,bU,rfl,rfl⟩,trivial⟩)
 refine qW (q1 dM (q1 aE (qN ?_)))
 refine a8 H (fun h60 H=>?_) (fun h60 H=>?_)
 ·refine qS (bI H fun x62 z61 H=>(bI H fun x64 z63 H=>(bI H fun x66 z65 H=>(dW (dI [] (bG func266 (b8 fu YE _ z61)) (dI [1] (a5 pX) (dD [100] (cJ [pI pa0.gType.gKind,pS pa0.gType.gName,a7 pa0.gType.gArgs] cU) (dI [101] (bG func269 (wJ fu pa0.gType _ z63)) (dE [99,102] (uK ([x62,x64]:List aA) bL cD) (dI [1] (a5 fM) (dB [104] 0 1 (wL oZ) (dE [103,105] (iF [] [0] func282 (h_sl12Args ([x62,x64]:List aA) pa0.gArgs _ z65)) (lH [2,106] (bR eO) ?_)))))))))))))
  refine dN (aR.ret ?_)
  cases aX H
  exact bE (hr:=⟨⟨_,_,_,rfl,rfl,bU,rfl,rfl⟩,trivial⟩)
 refine aR.skip (qS (bI H fun x68 z67 H=>(bI H fun x70 z69 H=>(dWa (dI [] (bG func266 (b8 fu w7 _ z67)) ?_)))))
 refine dEz [107] (fun _ z=>by cases z<;>exact uK ([x68]:List aA) bL cD) ?_;refine dI [1] (a5 fM) (dBz [109] 0 1 (wL oZ) ?_)
 refine dEz [108,110] (fun _ z=>by cases z<;>exact iF [] [0] func282 (h_sl12Args ([x68]:List aA) pa0.gArgs _ z69)) ?_;refine dA (fun _ st h=>vAl h cD) (dZ 3 [3,111] (bR eO) (dN ?_))
 refine qS (qS (qR (q1 aE (qN ?_))))
 refine aR.fact (b5 0 8 rfl rfl rfl (bA.trs_len _)) (fun hl74=>?_)
 refine b0 (σ:=(List aA)) (fun i71 v73=>⟨[(1,.ptr 0 0),(2,.ptr 1 0),(3,.ptr 2 0),(4,pN i71)],⟨[some ⟨87,eN pa0⟩,some ⟨237,[pS s_,.nil]⟩,some ⟨237,[pS x70.gAtom,eH v73 0]⟩],[⟨237,2,aA.trs (v73),false⟩]⟩⟩) (fun v73=>⟨[(2,.ptr 1 0),(3,.ptr 2 0)],⟨[some ⟨87,eN pa0⟩,some ⟨237,[pS s_,.nil]⟩,some ⟨237,[pS x70.gAtom,eH v73 0]⟩],[⟨237,2,aA.trs (v73),false⟩]⟩⟩) (fK H) ?_ ?_
 ·rintro i71 v73 H
  refine qS (qS (qR (q1 aE (q1 (a5 eI) (q1 (bD mN) (q1 (dL jL (bA.trs_len _)) (q1 gI (qN ?_))))))))
  refine dG H (fun h75 h75l H=>?_) (fun h75 H=>?_)
  ·have h75n:=a4 h75
   refine aR.skip (qS (aR.block (qW (q1 (a5 eI) (q1 (bD mN) (q1 aE (fP H fun y76 h77 H=>(q1 (m9 h77 h75n jL) (q1 (kM (bA.cs y76) alL) (q1 (fO QQ) (q1 (bR aoO) (qN ?_))))))))))))
   refine qS (bI H fun x79 z78 H=>(bI H fun x81 z80 H=>(dK H fun z82 H=>(dW (dI [5] (a5 tW) (dD [124] (bD eJ) (dI [125] (bG func266 (b8 fu y76.gConstructor _ z78)) (dE [126] (uK ([x79]:List aA) bL cD) (dI [5] (a5 yY) (dB [128] 0 1 (wL kZ) (dI [129] (bG func280 (RH fu y76.gVars _ z80)) (dE [127,130] (nV z82 bL rO) (dI [131] aE ?_)))))))))))))
   refine dN (bI H fun x84 z83 H=>(dK H fun z85 H=>(dK H fun z86 H=>(dW (dI [3] (a5 bK) (dB [132] 0 1 (wL cX) (dI [6] aE (dI [5] (a5 A6) (dD [135] (cJ [pI y76.gBody.gKind,pS y76.gBody.gTrait,pS y76.gBody.gName,pI y76.gBody.gN,pI y76.gBody.gType.gKind,pS y76.gBody.gType.gName,a7 y76.gBody.gType.gArgs,eB y76.gBody.gArgs,g0 y76.gBody.gArms] fE) (dI [136] (bG func270 (h_sl12Sx y76.gBody _ z83)) (dI [137] (j9 ([x84]:List aA) bL cD) (dE [134,138] (nV z85 bL rO) (dI [139] (gW cD nL) ?_)))))))))))))
   refine dI [140] (j9 ([(aA.mk s_ ((([x79]:List aA)++x81)++([x84]:List aA)))]:List aA) bL cD) (dE [133,141] (nV z86 bL rO) (dI [3] (a5 bK) (lH [143,142] (bR AZ) (dN (qR (q1 aE (q1 (rA (i71+1)) (q1 aE (qN ?_)))))))))
   exact iI h75l ⟨_,(aX H:),bW⟩
  refine aR.exit ?_;exact jJ ⟨_,H,bW⟩
 rintro v73 H
 refine qW (q1 (cJ [pS x70.gAtom,eH v73 0] bU) (q1 (bR eO) (qZ ?_)))
 cases aX H
 exact bE (hr:=⟨⟨_,_,_,rfl,rfl,bU,rfl,rfl⟩,trivial⟩)
def aeA(fu:Nat)(r_sl12Sx:o3)(r_sl12Args:lA)(phead:List aA)(plist:List aG):Nat→((List aA))→Option (LR ((List aA)) aA):=
 fun i1 v3=>lt (aW plist i1) (fun y6=>
 bd (r_sl12Sx y6) (fun x9=>
 gd ((v3).length+(([x9]:List aA)).length≤68719476736)
 (some (.next (v3++([x9]:List aA))))))
def aeB(fu:Nat)(r_sl12Sx:o3)(r_sl12Args:lA)(phead:List aA)(plist:List aG):Option (aA⊕((List aA))):=
 loopN (aeA fu r_sl12Sx r_sl12Args phead plist) (plist.length-0) 0 phead
def K8(fu:Nat)(r_sl12Sx:o3)(r_sl12Args:lA)(phead:List aA)(plist:List aG):Option aA:=
 so (aeB fu r_sl12Sx r_sl12Args phead plist) (fun v3=>
 some (aA.mk s_ v3))
theorem XK(fu:Nat)(r_sl12Sx:o3)(r_sl12Args:lA)(h_sl12Sx:F5 r_sl12Sx)(h_sl12Args:D7 r_sl12Args):D7 (K8 fu r_sl12Sx r_sl12Args):=by
 intro phead plist r H
 have H:=eE H
 refine qI func282 (fun C hC=>?_)
 refine qW (q1 (fO cD) (qN (qW (q1 aE (q1 (gW cD nL) (q1 (fO cD) (q1 (bR eO) (qN ?_))))))))
 refine qS (qS (qR (q1 aE (qN ?_))))
 refine lD 1 (aG.trs_len _) (fun hl4=>?_)
 refine b0 (σ:=(List aA)) (fun i1 v3=>⟨[(1,eB plist),(4,.ptr 0 0),(5,.ptr 1 0),(6,pN i1)],⟨[some ⟨237,[pS s_,.nil]⟩,some ⟨237,[pS s_,eH v3 0]⟩],[⟨237,2,aA.trs (v3),false⟩]⟩⟩) (fun v3=>⟨[(4,.ptr 0 0),(5,.ptr 1 0)],⟨[some ⟨237,[pS s_,.nil]⟩,some ⟨237,[pS s_,eH v3 0]⟩],[⟨237,2,aA.trs (v3),false⟩]⟩⟩) (fK H) ?_ ?_
 ·rintro i1 v3 H
  refine qS (qS (qR ?_))
  iterate 2 refine q1 aE ?_
  refine q1 (dL jZ (aG.trs_len _)) (q1 gI (qN ?_))
  refine dG H (fun h5 h5l H=>?_) (fun h5 H=>?_)
  ·have h5n:=a4 h5
   refine aR.skip (qS (aR.block (fP H fun y6 h7 H=>(bI H fun x9 z8 H=>(dK H fun z10 H=>(dW (dI [5] (a5 bK) (dD [15] (bD cX) (dI [1] aE (dI [6] aE (dI [17,18] (m9 h7 h5n jZ) (dI [19] (kM (aG.cs y6) fE) (dI [20] (bG func270 (h_sl12Sx y6 _ z8)) ?_)))))))))))))
   refine dI [21] (j9 ([x9]:List aA) bL cD) (dE [16,22] (nV z10 bL rO) (dI [5] (a5 bK) (lH [24,23] (bR AZ) (dN (qR (q1 aE (q1 (rA (i1+1)) (q1 aE (qN ?_)))))))))
   exact iI h5l ⟨_,(aX H:),bW⟩
  refine aR.exit ?_;exact jJ ⟨_,H,bW⟩
 rintro v3 H
 refine qW (q1 (cJ [pS s_,eH v3 0] bU) (q1 (bR eO) (qZ ?_)))
 cases aX H
 exact bE (hr:=⟨⟨_,_,_,rfl,rfl,bU,rfl,rfl⟩,trivial⟩)
mutual
def mO:Nat→aG→Option aA
 |0,_=>none
 |fu+1,pa0=>VH fu (mO fu) (oE fu) pa0
def oE:Nat→(List aA)→(List aG)→Option aA
 |0,_,_=>none
 |fu+1,phead,plist=>K8 fu (mO fu) (oE fu) phead plist
end
theorem ahE(fu:Nat):F5 (mO fu)∧D7 (oE fu):=by
 induction fu with
 |zero=>exact⟨(fun pa0 r H=>by simp only [mO] at H;cases H),(fun phead plist r H=>by simp only [oE] at H;cases H)⟩
 |succ fu ih=>exact⟨(fun pa0 r H=>by simp only [mO] at H;exact aeG fu (mO fu) (oE fu) ih.1 ih.2 pa0 r H),(fun phead plist r H=>by simp only [oE] at H;exact XK fu (mO fu) (oE fu) ih.1 ih.2 phead plist r H)⟩
theorem P7(fu:Nat):F5 (mO fu):=(ahE fu).1
end
end Go.Proofs.YtpioomclpaiomaaGreat.W
