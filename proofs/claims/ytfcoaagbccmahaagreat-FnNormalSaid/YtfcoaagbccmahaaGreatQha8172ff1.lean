/- Words, rules and walks of several kinds, laid together. No conditions but those that each theorem states. -/
import Derived.Test.YtfcoaagbccmahaaGreatQhe0bd9957
set_option linter.unusedSimpArgs false
set_option linter.unusedVariables false
namespace Go.Proofs.YtfcoaagbccmahaaGreat.W
set_option maxRecDepth 20000
set_option maxHeartbeats 4000000
open Go.RowKit Go.WalkArith Go.IntWalk
def ZQ(fu:Nat):Prop:= ∀(px:UInt8),Ok (JU fu px) (fun _=>True)
theorem JH:bP ZQ:=(bP.ge 2147483648).imp fun fu hfu px=>by
 refine oD (fun g1=>?_) fun g1=>?_
 ·refine oD (fun _=>oS) fun g2=>?_;refine oD (fun g3=>?_) fun g3=>?_
  ·exact oD (fun _=>oS) fun g4=>oD (fun _=>oS) fun g5=>oD (fun _=>oS) fun g6=>oD (fun _=>oS) fun g7=>oD (fun _=>oS) fun g8=>oD (fun _=>oS) fun g9=>oD (fun _=>oS) fun g10=>oS
  exact oD (fun _=>oS) fun g11=>oD (fun _=>oS) fun g12=>oD (fun _=>oS) fun g13=>oD (fun _=>oS) fun g14=>oD (fun _=>oS) fun g15=>oD (fun _=>oS) fun g16=>oS
 refine oD (fun g17=>?_) fun g17=>?_
 ·exact oD (fun _=>oS) fun g18=>oD (fun _=>oS) fun g19=>oD (fun _=>oS) fun g20=>oD (fun _=>oS) fun g21=>oD (fun _=>oS) fun g22=>oD (fun _=>oS) fun g23=>oD (fun _=>oS) fun g24=>oS
 exact oD (fun _=>oS) fun g25=>oD (fun _=>oS) fun g26=>oD (fun _=>oS) fun g27=>oD (fun _=>oS) fun g28=>oD (fun _=>oS) fun g29=>oD (fun _=>oS) fun g30=>oS
def akK(fu:Nat):Prop:= ∀(px pC pD:Int),Ok (sR fu px pC pD) (fun _=>True)
theorem sJ:bP akK:=(bP.ge 2147483648).imp fun fu hfu px pC pD=>by
 exact oD (fun _=>oS) fun g1=>oS
def HB(fu:Nat):Prop:= ∀(ps:ByteArray),ps.size≤1073741824→Ok (BK fu ps) (fun _=>True)
theorem rP:bP HB:=(((bP.ge 2147483648).and JH).and sJ).imp fun fu ⟨⟨hfu,JH⟩,sJ⟩ ps hpre=>by
 refine G0 ?_ ?_
 ·refine Ok.loop1 ?_;rintro i1 ⟨⟩ hl2
  exact oG fun z4=>oB (JH (FF ps i1)) fun x6 _=>oW (fun _=>oR) fun g6=>nY
 rintro⟨⟩-
 exact oB (sJ (ps.size:Int) 1 12) fun x9 _=>oS
def alK(fu:Nat):Prop:= ∀(px:aB) (p3:Int),wt px≤1073741824→Ok (qH fu px p3) (fun _=>True)
def PO(n:Nat)(m:AV):Prop:= ∀(px:aB) (p3:Int),wt px<n→wt px≤1073741824→Ok (m px p3) (fun _=>True)
theorem ajT{n fu:Nat}(hfu:2147483648≤fu){p6:AV}(p8:PO n p6):PO (n+1) (R5 fu p6):=by
 intro px p3 hm hpre
 refine oEN (fun i1 v2 hl2=>?_) ?_
 ·have:=aB.wt_eq px
  have:=aZ px.aCc
  refine oD (fun g4=>?_) fun g4=>?_
  ·have:=cQ px.aCc i1 hl2
   exact oB (p8 (aR px.aCc i1) v2 bO bO) fun x7 _=>nY
  exact oK
 intro v2 _
 exact oS
theorem am0(n:Nat):bP fun fu=>PO n (qH fu):=by
 induction n with
 |zero=>exact .all fun fu=>fun _ _ h=>absurd h (Nat.not_lt_zero _)
 |succ n ih=>exact bP.succ ((ih.and (bP.ge 2147483648)).imp fun fu ⟨h,hfu⟩=>fun px p3=>by rw [qH];exact ajT hfu h px p3)
theorem QQ:bP alK:=(am0 8589934592).imp fun fu h px p3 hpre=>h px p3 bO hpre
def alJ(fu:Nat):Prop:= ∀(px:aB),wt px≤1073741824→Ok (qG fu px) (fun _=>True)
def PN(n:Nat)(m:AU):Prop:= ∀(px:aB),wt px<n→wt px≤1073741824→Ok (m px) (fun _=>True)
theorem ajQ{n fu:Nat}(hfu:2147483648≤fu)(rP:HB fu){p7:AU}(p9:PN n p7):PN (n+1) (R4 fu p7):=by
 intro px hm hpre
 have:=aB.wt_eq px
 have:s_.size=0:=rfl
 refine oN (fun g1=>?_) fun g1=>?_
 ·have:=HQ g1
  exact oB (rP px.aCf bO) fun x3 _=>oC (fun _=>oS) fun g3=>oS
 refine G0 ?_ ?_
 ·refine Ok.loop1 ?_;rintro i5 ⟨⟩ hl5
  have:=aZ px.aCc
  have:=cQ px.aCc i5 hl5
  exact oB (p9 (aR px.aCc i5) bO bO) fun x9 _=>oW (fun _=>oR) fun g8=>nY
 rintro⟨⟩-
 exact oS
theorem amZ(n:Nat):bP fun fu=>PN n (qG fu):=by
 induction n with
 |zero=>exact .all fun fu=>fun _ h=>absurd h (Nat.not_lt_zero _)
 |succ n ih=>exact bP.succ ((ih.and ((bP.ge 2147483648).and rP)).imp fun fu ⟨h,⟨hfu,rP⟩⟩=>fun px=>by rw [qG];exact ajQ hfu rP h px)
theorem QP:bP alJ:=(amZ 8589934592).imp fun fu h px hpre=>h px bO hpre
def UU(fu:Nat):Prop:= ∀(pa pb:Int),Ok (PC fu pa pb) (fun _=>True)
theorem tI:bP UU:=(bP.ge 2147483648).imp fun fu hfu pa pb=>by
 exact oD (fun _=>oS) fun g1=>oS
def X5(fu:Nat):Prop:= ∀(px:aB),wt px≤1073741824→Ok (jD fu px) (fun _=>True)
def DA(n:Nat)(m:qE):Prop:= ∀(px:aB),wt px<n→wt px≤1073741824→Ok (m px) (fun _=>True)
theorem WR{n fu:Nat}(hfu:2147483648≤fu)(tI:UU fu){p1:qE}(p4:DA n p1):DA (n+1) (DP fu p1):=by
 intro px hm hpre
 have:=aB.wt_eq px
 have:s_.size=0:=rfl
 refine oN (fun _=>oS) fun g1=>?_;refine oEN (fun i2 v3 hl3=>?_) ?_
 ·have:=aZ px.aCc
  have:=cQ px.aCc i2 hl3
  exact oB (p4 (aR px.aCc i2) bO bO) fun x7 _=>oB (tI v3 x7) fun x9 _=>nY
 intro v3 _
 exact oS
theorem YY(n:Nat):bP fun fu=>DA n (jD fu):=by
 induction n with
 |zero=>exact .all fun fu=>fun _ h=>absurd h (Nat.not_lt_zero _)
 |succ n ih=>exact bP.succ ((ih.and ((bP.ge 2147483648).and tI)).imp fun fu ⟨h,⟨hfu,tI⟩⟩=>fun px=>by rw [jD];exact WR hfu tI h px)
theorem DH:bP X5:=(YY 8589934592).imp fun fu h px hpre=>h px bO hpre
def S6(fu:Nat):Prop:= ∀(px:aB),wt px≤1073741824→Ok (iM fu px) (fun _=>True)
theorem cM:bP S6:=((((bP.ge 2147483648).and QQ).and QP).and DH).imp fun fu ⟨⟨⟨hfu,QQ⟩,QP⟩,DH⟩ px hpre=>by
 refine oB (QQ px 900 bO) fun x2 _=>?_;refine oD (fun g2=>?_) fun g2=>?_
 ·refine oB (QP px bO) fun x5 _=>?_;refine oC (fun g4=>?_) fun g4=>?_
  ·exact oB (DH px bO) fun x8 _=>oS
  exact oS
 exact oS
def FD(fu:Nat):Prop:= ∀(p0:List aB),wl p0≤1073741824→Ok (B3 fu p0) (fun r=>wl r.1≤wl p0)
theorem iP:bP FD:=(bP.ge 2147483648).imp fun fu hfu p0 hpre=>by
 have:=(aW:wl ([]:LB)=0∧_)
 refine QX p0 1 (fun i1 v3 hl2 hI3 _ _=>?_) ?_
 ·have:=aZ p0
  have:=cQ p0 i1 hl2
  have:=aB.wt_eq (aR p0 i1)
  have:s_.size=0:=rfl
  refine oD (fun _=>oR) fun g4=>?_
  have:=HQ g4
  have:=aZ (v3)
  have:=b9 ((aR p0 i1).aCf)
  have:=bA ((aR p0 i1).aCf)
  refine oG fun z5=>?_
  have:=b0 v3 ([((aR p0 i1).aCf)]:LB)
  exact nY
 intro v3 h1
 exact oS
def I7(fu:Nat):Prop:= ∀(ps:ByteArray),Ok (cB fu ps) (fun r=>wt r=ps.size)
theorem bM:bP I7:=(bP.ge 2147483648).imp fun fu hfu ps=>by
 have:=(aW:wl ([]:List aB)=0∧_)
 have:=aB.wt_mk ps []
 exact oS
def LQ(fu:Nat):Prop:= ∀(p0:LB),wl p0≤1073741824→Ok (GH fu p0) (fun r=>wl r≤wl p0)
theorem nB:bP LQ:=((bP.ge 2147483648).and bM).imp fun fu ⟨hfu,bM⟩ p0 hpre=>by
 have:=(aW:wl ([]:List aB)=0∧_)
 refine QX p0 1 (fun i1 v3 hl2 hI3 _ _=>?_) ?_
 ·have:=aZ p0
  have:=cQ p0 i1 hl2
  have:=bA (aR p0 i1)
  refine oB (bM (aR p0 i1)) fun x7 h4=>?_
  have:=aZ (v3)
  have:=b9 x7
  refine oG fun z5=>?_
  have:=b0 v3 ([x7]:List aB)
  exact nY
 intro v3 h1
 exact oS
def ZS(fu:Nat):Prop:= ∀(p0:List aB),wl p0≤1073741824→Ok (mK fu p0) (fun r=>wt r=wl p0)
theorem eO:bP ZS:=(bP.ge 2147483648).imp fun fu hfu p0 hpre=>by
 have:=(aW:wl ([]:List aB)=0∧_)
 have:=aZ (p0)
 refine oG fun z1=>?_
 have:s_.size=0:=rfl
 have:=b0 ([]:List aB) p0
 have:=aB.wt_mk s_ (([])++p0)
 exact oS
def X2(fu:Nat):Prop:= ∀(pa pb:aB),wt pa≤1073741824→Ok (fQ fu pa pb) (fun _=>True)
def C9(n:Nat)(m:qD):Prop:= ∀(pa pb:aB),wt pa<n→wt pa≤1073741824→Ok (m pa pb) (fun _=>True)
theorem WF{n fu:Nat}(hfu:2147483648≤fu){p2:qD}(p5:C9 n p2):C9 (n+1) (DN fu p2):=by
 intro pa pb hm hpre
 have:=aB.wt_eq pa
 have:=aB.wt_eq pb
 refine oN (fun _=>oS) fun g1=>?_
 have:=aZ pa.aCc
 have:=aZ pb.aCc
 refine oN (fun _=>oS) fun g2=>?_;refine G0 ?_ ?_
 ·refine Ok.loop1 ?_;rintro i3 ⟨⟩ hl4
  have:=aZ (pb.aCc)
  refine oG fun z6=>?_
  have:=cQ pa.aCc i3 hl4
  have:=cQ pb.aCc i3 z6
  exact oB (p5 (aR pa.aCc i3) (aR pb.aCc i3) bO bO) fun x8 _=>oW (fun _=>oR) fun g8=>nY
 rintro⟨⟩-
 exact oS
theorem YU(n:Nat):bP fun fu=>C9 n (fQ fu):=by
 induction n with
 |zero=>exact .all fun fu=>fun _ _ h=>absurd h (Nat.not_lt_zero _)
 |succ n ih=>exact bP.succ ((ih.and (bP.ge 2147483648)).imp fun fu ⟨h,hfu⟩=>fun pa pb=>by rw [fQ];exact WF hfu h pa pb)
theorem gL:bP X2:=(YU 8589934592).imp fun fu h pa pb hpre=>h pa pb bO hpre
end Go.Proofs.YtfcoaagbccmahaaGreat.W

namespace Go.Proofs.YtfcoaagbccmahaaGreat.W
set_option maxRecDepth 20000
set_option maxHeartbeats 4000000
open Go.RowKit Go.WalkArith Go.IntWalk
def UT(fu:Nat):Prop:= ∀(p0:LB) (ps:ByteArray),Ok (lD fu p0 ps) (fun _=>True)
theorem dV:bP UT:=(bP.ge 2147483648).imp fun fu hfu p0 ps=>by
 refine G0 ?_ ?_
 ·refine Ok.loop1 ?_;rintro i1 ⟨⟩ hl2
  have:=aZ p0
  exact oD (fun _=>oR) fun g4=>nY
 rintro⟨⟩-
 exact oS
def X3(fu:Nat):Prop:= ∀(ps:ByteArray),Ok (xC fu ps) (fun _=>True)
theorem DF:bP X3:=((bP.ge 2147483648).and dV).imp fun fu ⟨hfu,dV⟩ ps=>by
 have:dR.size=3:=rfl
 have:dP.size=4:=rfl
 have:fM.size=5:=rfl
 have:zP.size=3:=rfl
 have:F4.size=2:=rfl
 have:GX.size=3:=rfl
 have:zC.size=4:=rfl
 have:GY.size=3:=rfl
 have:pX.size=6:=rfl
 have:zD.size=4:=rfl
 have:qX.size=4:=rfl
 have:mA.size=5:=rfl
 have:wl ([dR,dP,fM,zP,F4,GX,zC,GY,pX,zD,qX,mA]:LB)=58:=rfl
 exact oB (dV ([dR,dP,fM,zP,F4,GX,zC,GY,pX,zD,qX,mA]:LB) ps) fun x2 _=>oS
def A2(fu:Nat):Prop:= ∀(ps:ByteArray),Ok (c7 fu ps) (fun _=>True)
theorem bL:bP A2:=(((bP.ge 2147483648).and sJ).and DF).imp fun fu ⟨⟨hfu,sJ⟩,DF⟩ ps=>by
 refine oB (sJ (ps.size:Int) 1 8) fun x2 _=>oW (fun _=>oS) fun g2=>oB (DF ps) fun x5 _=>oC (fun _=>oS) fun g4=>?_;refine G0 ?_ ?_
 ·refine Ok.loop1 ?_;rintro i7 ⟨⟩ hl6
  refine oG fun z8=>?_;refine oD (fun g9=>?_) fun g9=>?_
  ·refine oW (fun g10=>?_) fun g10=>?_
   ·exact oD (fun _=>oR) fun g11=>oD (fun _=>oR) fun g12=>oD (fun _=>oR) fun g13=>nY
   exact nY
  exact oD (fun _=>oR) fun g14=>oD (fun _=>oR) fun g15=>oD (fun _=>oR) fun g16=>nY
 rintro⟨⟩-
 exact oS
def UV(fu:Nat):Prop:= ∀(p0:LB),Ok (GI fu p0) (fun _=>True)
theorem rQ:bP UV:=((bP.ge 2147483648).and bL).imp fun fu ⟨hfu,bL⟩ p0=>by
 refine G0 ?_ ?_
 ·refine Ok.loop1 ?_;rintro i1 ⟨⟩ hl2
  have:=aZ p0
  have:=cQ p0 i1 hl2
  have:=bA (aR p0 i1)
  exact oB (bL (aR p0 i1)) fun x5 _=>oW (fun _=>oR) fun g5=>nY
 rintro⟨⟩-
 exact oS
def G8(fu:Nat):Prop:= ∀(p0:LB),Ok (kU fu p0) (fun _=>True)
theorem eI:bP G8:=((bP.ge 2147483648).and dV).imp fun fu ⟨hfu,dV⟩ p0=>by
 refine G0 ?_ ?_
 ·refine Ok.loop1 ?_;rintro i1 ⟨⟩ hl2
  have:=aZ p0
  refine oG fun z4=>?_
  have:=UM (0:Int).toNat (i1:Int).toNat p0
  have:=cQ p0 i1 hl2
  have:=bA (aR p0 i1)
  exact oB (dV (List.drop (0:Int).toNat (List.take (i1:Int).toNat p0)) (aR p0 i1)) fun x6 _=>oC (fun _=>oR) fun g6=>nY
 rintro⟨⟩-
 exact oS
def UX(fu:Nat):Prop:= ∀(ps:ByteArray),Ok (l7 fu ps) (fun r=>wt r=ps.size)
theorem dX:bP UX:=(bP.ge 2147483648).imp fun fu hfu ps=>by
 have:=(aW:wl ([]:List aA)=0∧_)
 have:=aA.wt_mk 1 ps []
 exact oS
def UW(fu:Nat):Prop:= ∀(ps:ByteArray) (pD:List aA),ps.size+wl pD≤1073741824→Ok (eK fu ps pD) (fun r=>wt r=ps.size+wl pD)
theorem cG:bP UW:=(bP.ge 2147483648).imp fun fu hfu ps pD hpre=>by
 have:=(aW:wl ([]:List aA)=0∧_)
 have:=aZ (pD)
 refine oG fun z1=>?_
 have:=b0 ([]:List aA) pD
 have:=aA.wt_mk 2 ps (([])++pD)
 exact oS
def abI(fu:Nat):Prop:= ∀(p3:aA),wt p3≤67108864→Ok (m8 fu p3) (fun r=>wt r+1≤8*(wt p3+1))
def abC(n:Nat)(m:C6):Prop:= ∀(p3:aA),wt p3<n→wt p3≤67108864→Ok (m p3) (fun r=>wt r+1≤8*(wt p3+1))
theorem aoT{n fu:Nat}(hfu:2147483648≤fu)(bM:I7 fu)(eO:ZS fu){pK:C6}(pP:abC n pK):abC (n+1) (adU fu pK):=by
 intro p3 hm hpre
 refine G0 ?_ ?_
 ·have:=aA.wt_eq p3
  refine oD (fun g2=>?_) fun g2=>?_
  ·have:anD.size=1:=rfl
   refine oG fun z3=>?_
   have:=eX anD p3.aB9
   exact oB (bM (anD++p3.aB9)) fun x4 h4=>oL
  refine oD (fun g5=>?_) fun g5=>?_
  ·have:zP.size=3:=rfl
   refine oB (bM zP) fun x7 h6=>oB (bM p3.aB9) fun x9 h7=>?_
   have:=kQ x7 x9
   exact oB (eO ([x7,x9]:List aB) bO) fun x11 h8=>oL
  refine oD (fun g9=>?_) fun g9=>?_
  ·have:=aZ p3.aCa
   refine oD (fun g10=>?_) fun g10=>?_
   ·exact oB (bM p3.aB9) fun x15 h11=>oL
   exact oI
  exact oI
 rintro⟨⟩-
 refine Ok.sok (E:=fun v17=>wl v17≤6) ?_ ?_
 ·have:=aA.wt_eq p3
  refine oD (fun g13=>?_) fun g13=>?_
  ·have:fM.size=5:=rfl
   refine oB (bM fM) fun x20 h14=>?_
   have:=(aW:wl ([]:List aB)=0∧_)
   have:=b9 x20
   refine oG fun z15=>?_
   have:=b0 ([]:List aB) ([x20]:List aB)
   exact oI
  have:=(aW:wl ([]:List aB)=0∧_)
  exact oI
 intro v17 h12
 have:=aA.wt_eq p3
 refine oB (bM p3.aB9) fun x23 h16=>?_
 have:=aZ (v17)
 have:=b9 x23
 refine oG fun z17=>?_
 have:=b0 v17 ([x23]:List aB)
 refine QX p3.aCa 8 (fun i25 v27 hl19 hI20 _ _=>?_) ?_
 ·have:=aZ p3.aCa
  have:=cQ p3.aCa i25 hl19
  refine oB (pP (aR p3.aCa i25) bO bO) fun x31 h21=>?_
  have:=aZ (v27)
  have:=b9 x31
  refine oG fun z22=>?_
  have:=b0 v27 ([x31]:List aB)
  exact nY
 intro v27 h18
 have:s_.size=0:=rfl
 have:=aB.wt_mk s_ v27
 exact oS
theorem aqA(n:Nat):bP fun fu=>abC n (m8 fu):=by
 induction n with
 |zero=>exact .all fun fu=>fun _ h=>absurd h (Nat.not_lt_zero _)
 |succ n ih=>exact bP.succ ((ih.and (((bP.ge 2147483648).and bM).and eO)).imp fun fu ⟨h,⟨⟨hfu,bM⟩,eO⟩⟩=>fun p3=>by rw [m8];exact aoT hfu bM eO h p3)
theorem iZ:bP abI:=(aqA 8589934592).imp fun fu h p3 hpre=>h p3 bO hpre
def alQ(fu:Nat):Prop:= ∀(pt:aA) (pC:Int),wt pt≤1073741824→Ok (qM fu pt pC) (fun _=>True)
def PQ(n:Nat)(m:AZ):Prop:= ∀(pt:aA) (pC:Int),wt pt<n→wt pt≤1073741824→Ok (m pt pC) (fun _=>True)
theorem aj4{n fu:Nat}(hfu:2147483648≤fu){pE:AZ}(pL:PQ n pE):PQ (n+1) (R7 fu pE):=by
 intro pt pC hm hpre
 refine oEN (fun i1 v2 hl2=>?_) ?_
 ·have:=aA.wt_eq pt
  have:=aZ pt.aCa
  refine oD (fun g4=>?_) fun g4=>?_
  ·have:=cQ pt.aCa i1 hl2
   exact oB (pL (aR pt.aCa i1) v2 bO bO) fun x7 _=>nY
  exact oK
 intro v2 _
 exact oS
theorem am4(n:Nat):bP fun fu=>PQ n (qM fu):=by
 induction n with
 |zero=>exact .all fun fu=>fun _ _ h=>absurd h (Nat.not_lt_zero _)
 |succ n ih=>exact bP.succ ((ih.and (bP.ge 2147483648)).imp fun fu ⟨h,hfu⟩=>fun pt pC=>by rw [qM];exact aj4 hfu h pt pC)
theorem QU:bP alQ:=(am4 8589934592).imp fun fu h pt pC hpre=>h pt pC bO hpre
def abG(fu:Nat):Prop:= ∀(pt:aA),wt pt≤1073741824→Ok (kK fu pt) (fun _=>True)
def FA(n:Nat)(m:sP):Prop:= ∀(pt:aA),wt pt<n→wt pt≤1073741824→Ok (m pt) (fun _=>True)
theorem Y2{n fu:Nat}(hfu:2147483648≤fu)(tI:UU fu){p8:sP}(pJ:FA n p8):FA (n+1) (F2 fu p8):=by
 intro pt hm hpre
 refine oEN (fun i1 v2 hl2=>?_) ?_
 ·have:=aA.wt_eq pt
  have:=aZ pt.aCa
  have:=cQ pt.aCa i1 hl2
  refine oB (pJ (aR pt.aCa i1) bO bO) fun x6 _=>?_
  have:=eL (1+x6)
  exact oB (tI v2 (aX (1+x6))) fun x8 _=>nY
 intro v2 _
 exact oS
theorem acN(n:Nat):bP fun fu=>FA n (kK fu):=by
 induction n with
 |zero=>exact .all fun fu=>fun _ h=>absurd h (Nat.not_lt_zero _)
 |succ n ih=>exact bP.succ ((ih.and ((bP.ge 2147483648).and tI)).imp fun fu ⟨h,⟨hfu,tI⟩⟩=>fun pt=>by rw [kK];exact Y2 hfu tI h pt)
theorem FR:bP abG:=(acN 8589934592).imp fun fu h pt hpre=>h pt bO hpre
def ZU(fu:Nat):Prop:= ∀(ps:ByteArray),Ok (AY fu ps) (fun _=>True)
theorem AP:bP ZU:=(bP.ge 2147483648).imp fun fu hfu ps=>by
 exact oD (fun _=>oS) fun g1=>oS
def alO(fu:Nat):Prop:= ∀(p3:aA),wt p3≤1073741824→Ok (lT fu p3) (fun _=>True)
def PP(n:Nat)(m:uN):Prop:= ∀(p3:aA),wt p3<n→wt p3≤1073741824→Ok (m p3) (fun _=>True)
theorem aj1{n fu:Nat}(hfu:2147483648≤fu)(bL:A2 fu)(AP:ZU fu){pF:uN}(pM:PP n pF):PP (n+1) (J0 fu pF):=by
 intro p3 hm hpre
 have:=aA.wt_eq p3
 refine oB (bL p3.aB9) fun x2 _=>?_;refine G0 ?_ ?_
 ·refine G0 ?_ ?_
  ·exact oD (fun _=>oI) fun g4=>oI
  intro v4 _
  refine oC (fun g5=>?_) fun g5=>?_
  ·exact oC (fun _=>oI) fun g6=>oI
  refine oD (fun g7=>?_) fun g7=>?_
  ·exact oC (fun _=>oI) fun g8=>oI
  refine oD (fun g9=>?_) fun g9=>?_
  ·refine oC (fun g10=>?_) fun g10=>?_
   ·exact oD (fun _=>oI) fun g11=>oB (AP p3.aB9) fun x14 _=>oC (fun _=>oI) fun g13=>oI
   exact oB (AP p3.aB9) fun x17 _=>oC (fun _=>oI) fun g15=>oI
  exact oL
 intro v3 _
 refine oEN (fun i19 v20 hl17=>?_) ?_
 ·have:=aZ p3.aCa
  refine oC (fun g19=>?_) fun g19=>?_
  ·have:=cQ p3.aCa i19 hl17
   exact oB (pM (aR p3.aCa i19) bO bO) fun x25 _=>nY
  exact nY
 intro v20 _
 exact oS
theorem am3(n:Nat):bP fun fu=>PP n (lT fu):=by
 induction n with
 |zero=>exact .all fun fu=>fun _ h=>absurd h (Nat.not_lt_zero _)
 |succ n ih=>exact bP.succ ((ih.and (((bP.ge 2147483648).and bL).and AP)).imp fun fu ⟨h,⟨⟨hfu,bL⟩,AP⟩⟩=>fun p3=>by rw [lT];exact aj1 hfu bL AP h p3)
theorem QT:bP alO:=(am3 8589934592).imp fun fu h p3 hpre=>h p3 bO hpre
def HF(fu:Nat):Prop:= ∀(pt:aA),wt pt≤1073741824→Ok (iI fu pt) (fun _=>True)
theorem eJ:bP HF:=((((bP.ge 2147483648).and QU).and FR).and QT).imp fun fu ⟨⟨⟨hfu,QU⟩,FR⟩,QT⟩ pt hpre=>by
 refine oB (QU pt 60 bO) fun x2 _=>?_;refine oD (fun g2=>?_) fun g2=>?_
 ·refine oB (FR pt bO) fun x5 _=>?_;refine oD (fun g4=>?_) fun g4=>?_
  ·exact oB (QT pt bO) fun x8 _=>oS
  exact oS
 exact oS
def NK(fu:Nat):Prop:= ∀(pa pb:aA),wt pa≤1073741824→Ok (fI fu pa pb) (fun _=>True)
def zQ(n:Nat)(m:kJ):Prop:= ∀(pa pb:aA),2*wt pa+1<n→wt pa≤1073741824→Ok (m pa pb) (fun _=>True)
def I6(n:Nat)(m:qO):Prop:= ∀(pa pb:List aA),2*wl pa<n→wl pa≤1073741824→Ok (m pa pb) (fun _=>True)
theorem YW{n fu:Nat}(hfu:2147483648≤fu){p1:kJ}(p9:zQ n p1){p4:qO}(pG:I6 n p4):zQ (n+1) (z0 fu p1 p4):=by
 intro pa pb hm hpre
 have:=aA.wt_eq pa
 have:=aA.wt_eq pb
 refine oD (fun g1=>?_) fun g1=>?_
 ·refine oD (fun g2=>?_) fun g2=>?_
  ·exact oB (pG pa.aCa pb.aCa bO bO) fun x4 _=>oS
  exact oS
 exact oS
theorem aj7{n fu:Nat}(hfu:2147483648≤fu){p1:kJ}(p9:zQ n p1){p4:qO}(pG:I6 n p4):I6 (n+1) (E6 fu p1 p4):=by
 intro pa pb hm hpre
 have:=aZ pa
 have:=aZ pb
 refine oN (fun _=>oS) fun g1=>?_;refine G0 ?_ ?_
 ·refine Ok.loop1 ?_;rintro i2 ⟨⟩ hl3
  have:=aZ (pb)
  refine oG fun z5=>?_
  have:=cQ pa i2 hl3
  have:=cQ pb i2 z5
  exact oB (p9 (aR pa i2) (aR pb i2) bO bO) fun x7 _=>oW (fun _=>oR) fun g7=>nY
 rintro⟨⟩-
 exact oS
theorem acH(n:Nat):bP fun fu=>zQ n (fI fu)∧I6 n (k8 fu):=by
 induction n with
 |zero=>exact .all fun fu=>⟨fun _ _ h=>absurd h (Nat.not_lt_zero _),fun _ _ h=>absurd h (Nat.not_lt_zero _)⟩
 |succ n ih=>exact bP.succ ((ih.and (bP.ge 2147483648)).imp fun fu ⟨h,hfu⟩=>⟨fun pa pb=>by rw [fI];exact YW hfu h.1 h.2 pa pb,fun pa pb=>by rw [k8];exact aj7 hfu h.1 h.2 pa pb⟩)
theorem u6:bP NK:=(acH 8589934592).imp fun fu h pa pb hpre=>h.1 pa pb bO hpre
def alS(fu:Nat):Prop:= ∀(pt:aA) (p7:LB),wt pt+wl p7≤268435456→Ok (lU fu pt p7) (fun r=>wl r≤wl p7+wt pt+1)
def PR(n:Nat)(m:w5):Prop:= ∀(pt:aA) (p7:LB),wt pt<n→wt pt+wl p7≤268435456→Ok (m pt p7) (fun r=>wl r≤wl p7+wt pt+1)
theorem akA{n fu:Nat}(hfu:2147483648≤fu)(dV:UT fu){pH:w5}(pO:PR n pH):PR (n+1) (J5 fu pH):=by
 intro pt p7 hm hpre
 have:=aA.wt_eq pt
 refine Ok.sok (E:=fun v2=>wl v2+wl pt.aCa≤wl p7+wt pt+1) ?_ ?_
 ·refine oD (fun g2=>?_) fun g2=>?_
  ·refine oB (dV p7 pt.aB9) fun x5 _=>?_;refine oW (fun g4=>?_) fun g4=>?_
   ·have:=aZ (p7)
    have:=b9 pt.aB9
    have:=bA pt.aB9
    refine oG fun z5=>?_
    have:=b0 p7 ([pt.aB9]:LB)
    exact oI
   exact oI
  exact oI
 intro v2 h1
 refine QX pt.aCa 1 (fun i8 v10 hl7 hI8 _ _=>?_) ?_
 ·have:=aZ pt.aCa
  have:=cQ pt.aCa i8 hl7
  exact oB (pO (aR pt.aCa i8) v10 bO bO) fun x14 h9=>nY
 intro v10 h6
 exact oS
theorem am6(n:Nat):bP fun fu=>PR n (lU fu):=by
 induction n with
 |zero=>exact .all fun fu=>fun _ _ h=>absurd h (Nat.not_lt_zero _)
 |succ n ih=>exact bP.succ ((ih.and ((bP.ge 2147483648).and dV)).imp fun fu ⟨h,⟨hfu,dV⟩⟩=>fun pt p7=>by rw [lU];exact akA hfu dV h pt p7)
theorem QV:bP alS:=(am6 8589934592).imp fun fu h pt p7 hpre=>h pt p7 bO hpre
def PW(fu:Nat):Prop:= ∀(pt:aA),wt pt≤268435456→Ok (nU fu pt) (fun r=>wl r≤wt pt+1)
theorem wG:bP PW:=((bP.ge 2147483648).and QV).imp fun fu ⟨hfu,QV⟩ pt hpre=>by
 have:=(aW:wl ([]:LB)=0∧_)
 exact oB (QV pt ([]:LB) bO) fun x2 h1=>oS
def PU(fu:Nat):Prop:= ∀(pt:aA),wt pt≤1073741824→Ok (dM fu pt) (fun _=>True)
def vV(n:Nat)(m:lQ):Prop:= ∀(pt:aA),wt pt<n→wt pt≤1073741824→Ok (m pt) (fun _=>True)
theorem OW{n fu:Nat}(hfu:2147483648≤fu){p5:lQ}(pA:vV n p5):vV (n+1) (sN fu p5):=by
 intro pt hm hpre
 refine G0 ?_ ?_
 ·refine Ok.loop1 ?_;rintro i1 ⟨⟩ hl2
  have:=aA.wt_eq pt
  have:=aZ pt.aCa
  have:=cQ pt.aCa i1 hl2
  exact oB (pA (aR pt.aCa i1) bO bO) fun x5 _=>oC (fun _=>oR) fun g5=>nY
 rintro⟨⟩-
 exact oS
theorem Q9(n:Nat):bP fun fu=>vV n (dM fu):=by
 induction n with
 |zero=>exact .all fun fu=>fun _ h=>absurd h (Nat.not_lt_zero _)
 |succ n ih=>exact bP.succ ((ih.and (bP.ge 2147483648)).imp fun fu ⟨h,hfu⟩=>fun pt=>by rw [dM];exact OW hfu h pt)
theorem lP:bP PU:=(Q9 8589934592).imp fun fu h pt hpre=>h pt bO hpre
def G9(fu:Nat):Prop:= ∀(pt:aA) (pv:ByteArray),wt pt+pv.size≤1073741824→Ok (eB fu pt pv) (fun _=>True)
def rD(n:Nat)(m:gG):Prop:= ∀(pt:aA) (pv:ByteArray),wt pt<n→wt pt+pv.size≤1073741824→Ok (m pt pv) (fun _=>True)
theorem G4{n fu:Nat}(hfu:2147483648≤fu){p2:gG}(p6:rD n p2):rD (n+1) (rW fu p2):=by
 intro pt pv hm hpre
 refine G0 ?_ ?_
 ·refine oD (fun g2=>?_) fun g2=>?_
  ·exact oD (fun _=>oI) fun g3=>oI
  exact oI
 intro v1 _
 refine oEN (fun i4 v5 hl5=>?_) ?_
 ·have:=aA.wt_eq pt
  have:=aZ pt.aCa
  have:=cQ pt.aCa i4 hl5
  exact oB (p6 (aR pt.aCa i4) pv bO bO) fun x9 _=>nY
 intro v5 _
 exact oS
theorem IJ(n:Nat):bP fun fu=>rD n (eB fu):=by
 induction n with
 |zero=>exact .all fun fu=>fun _ _ h=>absurd h (Nat.not_lt_zero _)
 |succ n ih=>exact bP.succ ((ih.and (bP.ge 2147483648)).imp fun fu ⟨h,hfu⟩=>fun pt pv=>by rw [eB];exact G4 hfu h pt pv)
theorem rO:bP G9:=(IJ 8589934592).imp fun fu h pt pv hpre=>h pt pv bO hpre
def ad9(fu:Nat):Prop:= ∀(pv:ByteArray) (pt:aA),pv.size+wt pt≤1073741824→Ok (IK fu pv pt) (fun _=>True)
theorem H7:bP ad9:=((bP.ge 2147483648).and rO).imp fun fu ⟨hfu,rO⟩ pv pt hpre=>by
 exact oB (rO pt pv bO) fun x2 _=>oS
end Go.Proofs.YtfcoaagbccmahaaGreat.W

namespace Go.Proofs.YtfcoaagbccmahaaGreat.W
open Go.RowKit Go.WalkArith Go.IntWalk
theorem apZ(d:DS)(l:LB):0<l.length→(d.pick l).size+1≤wl l:=fun h=>by
 have:=B7 (d.pick_mem h)
 exact this
theorem alY(d:DS)(n:Nat):0<n→d.below n<n:=fun h=>d.below_lt h
theorem ao5(E:Int): -9223372036854775808≤aX E∧aX E≤9223372036854775807:=by
 unfold aX IntKind.wrap
 simp [IntKind.bits,IntKind.signed]
 omega
inductive LA:aL→Prop
 |mk {k:Int} {t n:ByteArray} {i:Int} {ty:aA} {args:List aL} {arms:List bU} (h:(k=2→0≤i∧i≤1)∧(k=1→i.natAbs≤9223372036854775808)) (ha: ∀a∈args,LA a) (hm: ∀m∈arms,LA m.aCj):LA (.mk k t n i ty args arms)
theorem LA.num{e:aL}(h:LA e):(e.aCb=2→0≤e.aCR∧e.aCR≤1)∧(e.aCb=1→e.aCR.natAbs≤9223372036854775808):=by cases h;assumption
theorem LA.arg{e:aL}(h:LA e): ∀a∈e.aCa,LA a:=by cases h;assumption
theorem LA.arm{e:aL}(h:LA e): ∀m∈e.aCu,LA m.aCj:=by cases h;assumption
theorem LA.zero:LA (aL.mk 0 s_ s_ 0 (aA.mk 0 s_ []) [] []):= .mk ⟨by omega,by omega⟩ (by simp) (by simp)
section
variable {α:Type}
theorem akM{P:α→Prop}: ∀a∈([]:List α),P a:=by simp
theorem anP{P:α→Prop}{l:List α}{x:α}(h: ∀a∈l,P a)(hx:P x): ∀a∈l++ [x],P a:=by
 intro a ha
 rcases List.mem_append.1 ha with ha|ha
 ·exact h a ha
 ·obtain rfl:=List.mem_singleton.1 ha
  exact hx
theorem abL [Inhabited α]{P:α→Prop}{l:List α}{i:Nat}(h: ∀a∈l,P a)(hi:i<l.length):P (aR l i):=h _ (cC hi)
variable [Wt α]
theorem aiB(a:List α)(x:α):(a.length=0→wl (List.drop 1 (a++ [x]))=0)∧(0<a.length→wl (List.drop 1 (a++ [x]))=wl (List.drop 1 a)+wt x+1):=by
 cases a with
 |nil=>exact⟨fun _=>rfl,fun h=>by simp at h⟩
 |cons b a=>exact⟨fun h=>by simp at h,fun _=>by simp only [List.cons_append,List.drop_succ_cons,List.drop_zero];rw [(b0 _ _).1,(b9 _).1];omega⟩
theorem as4(v:List α):wl (List.drop (1:Int).toNat (List.take (((v.length:Nat):Int):Int).toNat v))=wl (List.drop 1 v):=by
 have:List.take (((v.length:Nat):Int):Int).toNat v=v:=by simp
 rw [this]
 rfl
theorem zX(L:List α)(x:Int)(k:Nat):(((k:Int)≤((L.length:Nat):Int)∧x=k)∨(((L.length:Nat):Int)≤k∧x=((L.length:Nat):Int)))→wl (List.drop (x:Int).toNat (List.take (((L.length:Nat):Int):Int).toNat L))+wl (List.take k L)≤wl L:=by
 have e:List.take (((L.length:Nat):Int):Int).toNat L=L:=by simp
 rw [e]
 rintro(⟨h,rfl⟩|⟨h,rfl⟩)
 ·have:=I3 k L
  simp only [Int.toNat_natCast]
  omega
 ·simp only [Int.toNat_natCast,List.drop_length]
  have:=oY L k
  show 0+_≤_
  omega
theorem apY(L:List α)(x:Int):(((2:Int)≤((L.length:Nat):Int)∧x=2)∨(((L.length:Nat):Int)≤2∧x=((L.length:Nat):Int)))→wl (List.drop (1:Int).toNat (List.take (x:Int).toNat L))+wl (List.take 1 L)≤wl (List.take 2 L):=by
 have key: ∀M:List α,wl (List.drop (1:Int).toNat M)+wl (List.take 1 M)=wl M:=fun M=>by
  have:=I3 1 M
  show wl (List.drop 1 M)+_=_
  omega
 rintro(⟨h,rfl⟩|⟨h,rfl⟩)
 ·have:=key (L.take 2)
  rw [List.take_take] at this
  exact Nat.le_of_eq this
 ·have h2:L.length≤2:=by omega
  have:=key L
  rw [show List.take (((L.length:Nat):Int):Int).toNat L=L by simp,List.take_of_length_le h2]
  exact Nat.le_of_eq this
variable [Inhabited α]
theorem aiV(L:List α)(a b c:α)(k k1:Nat)(hk:k+1=k1):(k<L.length→wt (aR ((([])++L)++([a,b,c]:List α)) k)+1+wl (List.take k L)=wl (List.take k1 L))∧(L.length≤k→k<L.length+3→wt (aR ((([])++L)++([a,b,c]:List α)) k)≤wt a+wt b+wt c∧wl (List.take k L)=wl L∧wl (List.take k1 L)=wl L)∧wl (List.take k1 L)≤wl L:=by
 subst hk
 rw [List.nil_append]
 refine⟨fun h=>?_,fun h h3=>⟨?_,by rw [List.take_of_length_le h],by rw [List.take_of_length_le (by omega)]⟩,oY L _⟩
 ·have h2:=oZ L k h
  have e:aR (L++ [a,b,c]) k=aR L k:=by
   unfold aR
   rw [List.getElem?_append_left h]
  rw [e]
  omega
 ·have e:aR (L++ [a,b,c]) k=aR [a,b,c] (k-L.length):=by
   unfold aR
   rw [List.getElem?_append_right h]
  rw [e]
  have:k-L.length=0∨k-L.length=1∨k-L.length=2:=by omega
  rcases this with h|h|h<;>rw [h]<;>simp [aR]<;>omega
end
theorem oX{α β:Type}[Wt α]{v:List α}{x:α}{PA:α→Prop}{E:List α→Prop}{Q:β→Prop}{m:List α→Prop}(hB: ∀a∈v,PA a)(h:m (v++ [x]):=by first|omega|(dsimp only;omega))(hx:PA x:=by first|assumption|exact LA.zero):Ok (some (LR.next (v++ [x]))) (PL Q (fun v=>m v∧ ∀a∈v,PA a) E):=⟨_,rfl,h,anP hB hx⟩
theorem oS2{α:Type}{P1 P2:α→Prop}{a:α}(h:P1 a:=by first|omega|(dsimp only;omega))(k:P2 a:=by first|assumption|exact LA.zero|exact .mk ⟨by omega,by omega⟩ (by first|assumption|exact akM) (by first|assumption|exact akM)):Ok (some a) (fun a=>P1 a∧P2 a):=⟨a,rfl,h,k⟩
def asL(p r:dG):Prop:=r.aCS=p.aCS∧p.aCH≤r.aCH∧r.aCH≤((p.aCS.size:Nat):Int)∧r.aCC=p.aCC∧r.aCJ=p.aCJ
def ZT(fu:Nat):Prop:= ∀p:dG,0≤p.aCH→p.aCH≤((p.aCS.size:Nat):Int)→p.aCS.size≤1048576→Ok (AX fu p) (asL p)
theorem aaA:bP ZT:=(bP.ge 2147483648).imp fun fu hfu p h0 h1 h2=>by
 unfold AX
 refine Ok.sok (E:=fun v1=>p.aCH≤v1∧v1≤((p.aCS.size:Nat):Int)) ?_ (fun v1 h=>Ok.some ⟨rfl,h.1,h.2,rfl,rfl⟩)
 refine Ok.loopW (fun v1=>p.aCH≤v1∧v1≤((p.aCS.size:Nat):Int)) (fun v1=>(((p.aCS.size:Nat):Int)-v1).toNat) ?_ _ _ bO bO
 intro v1 hI
 have:=eL (v1+1)
 unfold XG
 refine Ok.swd (fun g=>?_) (fun g=>Ok.brk hI)
 refine Ok.gdk bO (fun z=>?_)
 refine Ok.swd (fun _=>Ok.next bO) (fun _=>?_)
 refine Ok.swd (fun _=>Ok.next bO) (fun _=>Ok.brk hI)
def aeN(p:dG)(r:aB×dG):Prop:=r.2.aCS=p.aCS∧p.aCH≤r.2.aCH∧r.2.aCH≤((p.aCS.size:Nat):Int)∧(r.2.aCJ=false→r.2.aCC=p.aCC∧(wt r.1:Int)+1≤2*(r.2.aCH-p.aCH))
def anM(n:Nat)(r:dG→Option (aB×dG)):Prop:= ∀p:dG,(14-p.aCC).toNat<n→0≤p.aCH→p.aCH≤((p.aCS.size:Nat):Int)→p.aCS.size≤1048576→0≤p.aCC→p.aCC≤14→p.aCJ=false→Ok (r p) (aeN p)
theorem ajV(n fu:Nat)(hfu:2147483648≤fu)(k1:ZT fu)(k2:ZQ fu)(r:AW)(hr:anM n r):anM (n+1) (JX fu r):=by
 intro p hn h0 h1 h2 hd hd2 hb
 unfold JX
 refine Ok.bd (k1 p h0 h1 h2) ?_;rintro x ⟨e1,e2,e3,e4,e5⟩
 have e3':x.aCH≤((x.aCS.size:Nat):Int):=by rw [e1];exact e3
 have bad: ∀v:Int,p.aCH≤v→v≤((p.aCS.size:Nat):Int)→Ok (some ((aB.mk s_ []),(dG.mk x.aCS v x.aCC (aX (x.aCF+1)) true))) (aeN p):=fun v hv hv2=>Ok.some ⟨e1,hv,hv2,fun h=>by cases h⟩
 refine Ok.swd (fun _=>bad _ e2 e3) (fun g1=>?_)
 refine Ok.swd (fun _=>bad _ e2 e3) (fun g2=>?_)
 refine Ok.sok (E:=fun v=>x.aCH≤v∧v≤((x.aCS.size:Nat):Int)) ?_ ?_
 ·have hz:x.aCS.size≤1048576:=by rw [e1];exact h2
  refine Ok.loopW (fun v1=>x.aCH≤v1∧v1≤((x.aCS.size:Nat):Int)) (fun v1=>(((x.aCS.size:Nat):Int)-v1).toNat) ?_ _ _ bO bO
  intro v1 hI
  have:=eL (v1+1)
  unfold XE
  refine Ok.swd (fun g=>?_) (fun g=>Ok.brk hI)
  refine Ok.gdk bO (fun z=>?_)
  refine Ok.bd (k2 _) ?_;rintro b-
  exact Ok.sw (fun _=>Ok.next bO) (fun _=>Ok.brk hI)
 intro v hv
 refine Ok.swd (fun g3=>?_) (fun g3=>?_)
 ·refine Ok.gdk bO (fun z=>Ok.some ⟨e1,by show _≤v;omega,by show v≤_;rw [← e1];exact hv.2,fun _=>⟨e4,?_⟩⟩)
  show(wt (aB.mk _ []):Int)+1≤2*(v-p.aCH)
  rw [aB.wt_mk,FG]
  have:wl ([]:List aB)=0:=rfl
  omega
 ·refine Ok.gdk bO (fun z=>?_)
  have hvp:v≤((p.aCS.size:Nat):Int):=by rw [← e1];exact hv.2
  refine Ok.swn (fun _=>bad _ (by omega) hvp) (fun g4=>?_)
  refine Ok.swd (fun _=>bad _ (by omega) hvp) (fun g5=>?_)
  have w1:=eL (v+1)
  have w2:=eL (x.aCC+1)
  have hz:x.aCS.size≤1048576:=by rw [e1];exact h2
  refine Ok.sok (E:=fun(q:ByteArray×Int×Int×Int×Bool×List aB)=>q.1=p.aCS∧p.aCH≤q.2.1∧q.2.1≤((p.aCS.size:Nat):Int)∧q.2.2.2.2.1=true) ?_ ?_
  ·refine Ok.loopW (fun(q:ByteArray×Int×Int×Int×Bool×List aB)=>q.1=p.aCS∧v+1≤q.2.1∧q.2.1≤((p.aCS.size:Nat):Int)∧(q.2.2.2.2.1=false→q.2.2.1=p.aCC+1∧(wl q.2.2.2.2.2:Int)≤2*(q.2.1-(v+1)))) (fun q=>(2*(((p.aCS.size:Nat):Int)-q.2.1)).toNat+(if q.2.2.2.2.1 then 0 else 1)) ?_ _ _ ?_ ?_
   ·rintro⟨v17,v18,v19,v20,v21,v23⟩ ⟨i1,i2,i3,i4⟩
    dsimp only at i1 i2 i3 i4
    subst i1
    unfold XF
    refine Ok.swb (fun g6=>?_) (fun g6=>Ok.brk ⟨rfl,by show p.aCH≤v18;omega,i3,g6⟩)
    subst g6
    obtain⟨i5,i6⟩:=i4 rfl
    subst i5
    refine Ok.bd (k1 _ (by show 0≤v18;omega) i3 h2) ?_;rintro y ⟨f1,f2,f3,f4,f5⟩
    replace f1:y.aCS=p.aCS:=f1
    replace f2:v18≤y.aCH:=f2
    replace f3:y.aCH≤((p.aCS.size:Nat):Int):=f3
    replace f4:y.aCC=p.aCC+1:=f4
    replace f5:y.aCJ=false:=f5
    have hl:=aZ v23
    have step: ∀q:aB×dG,aeN y q→Ok (gd ((v23).length+(([q.1]:List aB)).length≤68719476736) (some (LR.next (q.2.aCS,q.2.aCH,q.2.aCC,q.2.aCF,q.2.aCJ,(v23++([q.1]:List aB)))))) (PL (aeN p) (fun s'=>(fun(q:ByteArray×Int×Int×Int×Bool×List aB)=>q.1=p.aCS∧v+1≤q.2.1∧q.2.1≤((p.aCS.size:Nat):Int)∧(q.2.2.2.2.1=false→q.2.2.1=p.aCC+1∧(wl q.2.2.2.2.2:Int)≤2*(q.2.1-(v+1)))) s'∧(fun(q:ByteArray×Int×Int×Int×Bool×List aB)=>(2*(((p.aCS.size:Nat):Int)-q.2.1)).toNat+(if q.2.2.2.2.1 then 0 else 1)) s'<(fun(q:ByteArray×Int×Int×Int×Bool×List aB)=>(2*(((p.aCS.size:Nat):Int)-q.2.1)).toNat+(if q.2.2.2.2.1 then 0 else 1)) (p.aCS,v18,p.aCC+1,v20,false,v23)) (fun(q:ByteArray×Int×Int×Int×Bool×List aB)=>q.1=p.aCS∧p.aCH≤q.2.1∧q.2.1≤((p.aCS.size:Nat):Int)∧q.2.2.2.2.1=true)):=by
     rintro⟨a,b⟩ ⟨j1,j2,j3,j4⟩
     dsimp only at j1 j2 j3 j4
     have j3':b.aCH≤((p.aCS.size:Nat):Int):=by rw [← f1];exact j3
     have l1:=b9 a
     refine Ok.gdk (by dsimp only;omega) (fun _=>Ok.next ⟨⟨j1.trans f1,by show v+1≤b.aCH;omega,j3',fun hb2=>?_⟩,?_⟩)
     ·obtain⟨j5,j6⟩:=j4 hb2
      refine⟨by show b.aCC=_;rw [j5,f4],?_⟩
      show(wl (v23++ [a]):Int)≤2*(b.aCH-(v+1))
      have:=b0 v23 [a]
      omega
     ·dsimp only
      cases hbb:b.aCJ with
      |true=>rw [if_pos rfl,if_neg Bool.false_ne_true];omega
      |false=>
       obtain⟨j5,j6⟩:=j4 hbb
       rw [if_neg Bool.false_ne_true]
       omega
    have call:Ok (r y) (aeN y):=hr y (by rw [f4];omega) (by omega) (by rw [f1];exact f3) (by rw [f1];exact h2) (by rw [f4];omega) (by rw [f4];omega) f5
    have w3:=eL (y.aCH+1)
    have w4:=eL (y.aCC-1)
    have hys:y.aCS.size=p.aCS.size:=by rw [f1]
    refine Ok.swd (fun g7=>?_) (fun g7=>Ok.bd call step)
    refine Ok.gdk (by omega) (fun z2=>?_)
    refine Ok.swd (fun g8=>Ok.ret ⟨f1,by show p.aCH≤aX _;omega,by show aX _≤_;omega,fun _=>⟨by show aX _=_;omega,?_⟩⟩) (fun g8=>Ok.bd call step)
    show(wt (aB.mk s_ v23):Int)+1≤2*(aX (y.aCH+1)-p.aCH)
    rw [aB.wt_mk]
    have:s_.size=0:=rfl
    omega
   ·dsimp only
    have: ∀b:Bool,(if b then 0 else 1)≤1:=by decide
    have:=this x.aCJ
    omega
   ·have hxs:x.aCS.size=p.aCS.size:=by rw [e1]
    refine⟨e1,by dsimp only;omega,by dsimp only;omega,fun _=>⟨by dsimp only;omega,?_⟩⟩
    show((wl ([]:List aB):Nat):Int)≤2*(aX (v+1)-(v+1))
    have:wl ([]:List aB)=0:=rfl
    omega
  ·rintro⟨v17,v18,v19,v20,v21,v23⟩ ⟨i1,i2,i3,i4⟩
   dsimp only at i1 i2 i3 i4
   exact Ok.some ⟨i1,i2,i3,fun h=>by rw [show v21=false from h] at i4;cases i4⟩
theorem am1(n:Nat):bP fun fu=>anM n (sV fu):=by
 induction n with
 |zero=>exact .all fun fu p h=>absurd h (Nat.not_lt_zero _)
 |succ n ih=>
  refine bP.succ ((ih.and (((bP.ge 2147483648).and aaA).and JH)).imp fun fu h=>?_)
  intro p
  rw [sV]
  exact ajV n fu h.2.1.1 h.2.1.2 h.2.2 _ h.1 p
def X4(fu:Nat):Prop:= ∀ps:ByteArray,ps.size≤1048576→Ok (xD fu ps) (fun r=>wt r.1≤2*ps.size)
theorem DG:bP X4:=(((am1 15).and aaA).and cM).imp fun fu hh ps h=>by
 obtain⟨⟨k1,k2⟩,k3⟩:=hh
 have zero: ∀b:Bool,Ok (some ((aB.mk s_ []),b)) (fun r=>wt r.1≤2*ps.size):=fun b=>Ok.some (by
  show wt (aB.mk s_ [])≤_
  rw [aB.wt_mk]
  have:s_.size=0:=rfl
  have:wl ([]:List aB)=0:=rfl
  omega)
 unfold xD
 refine Ok.bd (k1 _ (by show(14-(0:Int)).toNat<15;omega) (Int.le_refl _) (by show(0:Int)≤_;omega) h (Int.le_refl _) (by show(0:Int)≤14;omega) rfl) ?_;rintro⟨x,r⟩ ⟨e1,e2,e3,e4⟩
 dsimp only at e1 e2 e3 e4
 replace e1:r.aCS=ps:=e1
 replace e2:0≤r.aCH:=e2
 replace e3:r.aCH≤((ps.size:Nat):Int):=e3
 refine Ok.bd (k2 r e2 (by rw [e1];exact e3) (by rw [e1];exact h)) ?_;rintro y ⟨f1,f2,f3,f4,f5⟩
 refine Ok.sw (fun _=>zero _) (fun g=>?_)
 obtain⟨-,e5⟩:=e4 (by rw [← f5];exact g)
 replace e5:(wt x:Int)+1≤2*(r.aCH-0):=e5
 refine Ok.swn (fun _=>zero _) (fun _=>?_)
 refine Ok.bd (k3 x (by omega)) ?_;rintro b-
 exact Ok.swb (fun _=>zero _) (fun _=>Ok.some (by show wt x≤_;omega))
theorem ar6{v:Int}{k:Nat}(h:v.natAbs<10^(k+1)):(v.tdiv 10).natAbs<10^k:=by
 rw [Int.natAbs_tdiv,Nat.pow_succ] at*
 show v.natAbs/10<_
 omega
def FC(fu:Nat):Prop:= ∀pn:Int,pn.natAbs≤9223372036854775808→Ok (oJ fu pn) (fun r=>r.size≤21)
theorem mQ:bP FC:=(bP.ge 18446744073709551616).imp fun fu hfu pn h=>by
 unfold oJ
 refine Ok.swd (fun _=>Ok.some (by decide)) (fun _=>?_)
 refine Ok.sok (E:=fun q:Int×ByteArray=>q.2.size≤20) ?_ ?_
 ·refine Ok.loopW (fun q:Int×ByteArray=>q.1.natAbs≤9223372036854775808∧ ∃k,q.2.size+k≤19∧q.1.natAbs<10^k) (fun q=>q.1.natAbs) ?_ _ _ (by dsimp only;omega) ⟨h,19,by show(0:Nat)+19≤19;omega,by dsimp only;omega⟩
  rintro⟨v2,v3⟩ ⟨h1,k,h2,h3⟩
  dsimp only at h1 h2 h3
  unfold K5
  refine Ok.swn (fun g=>?_) (fun _=>Ok.brk (by dsimp only;omega))
  obtain⟨k,rfl⟩: ∃m,k=m+1:=by
   rcases k with _|m
   ·exfalso
    have:(10:Nat)^0=1:=rfl
    omega
   ·exact⟨m,rfl⟩
  have h4:=ar6 h3
  have h5:(v2.tdiv 10).natAbs<v2.natAbs:=by
   rw [Int.natAbs_tdiv]
   show v2.natAbs/10<_
   omega
  have w:=eL (v2.tdiv 10)
  have w:aX (v2.tdiv 10)=v2.tdiv 10:=w (by omega)
  have fin: ∀u:UInt8,Ok (gd ((bytesStr ([u]:List UInt8)).size+(v3).size≤1099511627776) (some (LR.next ((aX ((v2).tdiv 10)),((bytesStr ([u]:List UInt8))++v3))))) (PL (fun r:ByteArray=>r.size≤21) (fun s'=>(fun q:Int×ByteArray=>q.1.natAbs≤9223372036854775808∧ ∃k,q.2.size+k≤19∧q.1.natAbs<10^k) s'∧(fun q:Int×ByteArray=>q.1.natAbs) s'<(fun q:Int×ByteArray=>q.1.natAbs) (v2,v3)) (fun q:Int×ByteArray=>q.2.size≤20)):=fun u=>by
   have e1:=anT [u]
   have e2: [u].length=1:=rfl
   have e3:=eX (bytesStr [u]) v3
   refine Ok.gdk (by omega) (fun _=>Ok.next ⟨⟨by dsimp only;rw [w];omega,k,by dsimp only;omega,by dsimp only;rw [w];exact h4⟩,by dsimp only;rw [w];exact h5⟩)
  exact Ok.swd (fun _=>fin _) (fun _=>fin _)
 ·rintro⟨v2,v3⟩ hv
  dsimp only at hv
  have:G7.size=1:=rfl
  have:=eX G7 v3
  exact Ok.swd (fun _=>Ok.gdk (by omega) (fun _=>Ok.some bO)) (fun _=>Ok.some bO)
def CD(fu:Nat):Prop:= ∀ps:ByteArray,Ok (CS fu ps) (fun r=>r.1.natAbs≤9223372036854775808)
theorem mR:bP CD:=mQ.imp fun fu k ps=>by
 have rng: ∀E:Int,(aX E).natAbs≤9223372036854775808:=fun E=>by have:=ao5 E;omega
 have fin: ∀v:Int,v.natAbs≤9223372036854775808→Ok (bd (oJ fu v) (fun x18=>sw (!decide (x18=ps)) (some ((0:Int),false)) (some (v,true)))) (fun r=>r.1.natAbs≤9223372036854775808):=fun v hv=>by
  refine Ok.bd (k v hv) ?_;rintro x-
  exact Ok.swn (fun _=>Ok.some (by decide)) (fun _=>Ok.some hv)
 have loop: ∀(f:Nat→Int→Option (LR Int (Int×Bool))) (n:Nat),(∀i s,i<n→Ok (f i s) (PL (fun r:Int×Bool=>r.1.natAbs≤9223372036854775808) (fun v:Int=>v.natAbs≤9223372036854775808) (fun v:Int=>v.natAbs≤9223372036854775808)))→Ok (loopN f (n-0) 0 0) (PS (fun r:Int×Bool=>r.1.natAbs≤9223372036854775808) (fun v:Int=>v.natAbs≤9223372036854775808)):=fun f n hf=>Ok.loop0 (fun _ v=>v.natAbs≤9223372036854775808) (by decide) (fun i s _ h=>h) (fun i s hi _=>hf i s hi)
 unfold CS
 refine Ok.bd (Q:=fun r:Int×Bool=>r.1.natAbs≤9223372036854775808) ?_ (fun r hr=>by obtain⟨a,b⟩:=r;exact Ok.some hr)
 unfold R2
 have hps:((ps.size:Nat):Int)=((ps.size:Nat):Int):=rfl
 refine Ok.swd (fun g=>?_) (fun g=>?_)
 ·refine Ok.gdk (by omega) (fun _=>?_)
  refine Ok.sok (E:=fun _=>True) ?_ ?_
  ·unfold W6
   exact Ok.swd (fun _=>Ok.gdk (by omega) (fun _=>Ok.inr trivial)) (fun _=>Ok.inr trivial)
  rintro v3-
  refine Ok.swd (fun _=>Ok.some (by decide)) (fun _=>?_)
  refine Ok.swd (fun _=>Ok.some (by decide)) (fun _=>?_)
  refine Ok.sok (E:=fun v:Int=>v.natAbs≤9223372036854775808) ?_ ?_
  ·refine loop _ _ (fun i s hi=>?_)
   unfold W8
   refine Ok.gdk hi (fun _=>?_)
   exact Ok.swd (fun _=>Ok.ret (by decide)) (fun _=>Ok.swd (fun _=>Ok.ret (by decide)) (fun _=>Ok.next (rng _)))
  intro v9 hv
  refine Ok.sok (E:=fun v:Int=>v.natAbs≤9223372036854775808) ?_ ?_
  ·unfold W7
   exact Ok.swd (fun _=>Ok.inr (rng _)) (fun _=>Ok.inr hv)
  intro v15 hv
  exact fin v15 hv
 ·refine Ok.swd (fun _=>Ok.some (by decide)) (fun _=>?_)
  refine Ok.swd (fun _=>Ok.some (by decide)) (fun _=>?_)
  refine Ok.sok (E:=fun v:Int=>v.natAbs≤9223372036854775808) ?_ (fun v hv=>fin v hv)
  refine loop _ _ (fun i s hi=>?_)
  unfold W9
  refine Ok.gdk hi (fun _=>?_)
  exact Ok.swd (fun _=>Ok.ret (by decide)) (fun _=>Ok.swd (fun _=>Ok.ret (by decide)) (fun _=>Ok.next (rng _)))
end Go.Proofs.YtfcoaagbccmahaaGreat.W

namespace Go.Proofs.YtfcoaagbccmahaaGreat.W
set_option maxRecDepth 20000
set_option maxHeartbeats 4000000
open Go.RowKit Go.WalkArith Go.IntWalk
attribute [local irreducible] wt wl
def T7(fu:Nat):Prop:= ∀(p0:aB),wt p0≤268435456→Ok (m9 fu p0) (fun r=>wt r≤2*wt p0)
def abD(n:Nat)(m:J7):Prop:= ∀(p0:aB),wt p0<n→wt p0≤268435456→Ok (m p0) (fun r=>wt r≤2*wt p0)
theorem aoV{n fu:Nat}(hfu:2147483648≤fu)(dX:UX fu)(cG:UW fu){pE:J7}(pF:abD n pE):abD (n+1) (adV fu pE):=by
 intro p0 hm hpre
 have:=aB.wt_eq p0
 have:s_.size=0:=rfl
 refine oN (fun g1=>?_) fun g1=>?_
 ·have:=HQ g1
  refine oG fun z2=>?_;refine oD (fun g3=>?_) fun g3=>?_
  ·refine oG fun z4=>?_
   have:=FG p0.aCf (1:Int).toNat (p0.aCf.size:Int).toNat
   exact oB (dX (p0.aCf.extract (1:Int).toNat (p0.aCf.size:Int).toNat)) fun x6 h5=>oS
  have:=(aW:wl ([]:List aA)=0∧_)
  exact oB (cG p0.aCf ([]:List aA) bO) fun x8 h6=>oS
 have:=aZ p0.aCc
 refine oD (fun g7=>?_) fun g7=>?_
 ·have:=(aW:wl ([]:List aA)=0∧_)
  have:=aA.wt_mk 0 s_ []
  exact oS
 have:=aZ (p0.aCc)
 refine oG fun z8=>?_
 have:=(aW:wl ([]:List aA)=0∧_)
 refine Ok.sok (E:=fun v13=>wl v13+2*wl (List.take 1 p0.aCc)≤wl ([]:List aA)+2*wl p0.aCc∧(v13.length=0∨wl (List.drop 1 v13)+2*wl (List.take 2 p0.aCc)≤2*wl p0.aCc)) ?_ ?_
 ·refine Ok.loop0 (fun i11 v13=>wl v13+2*wl (List.take 1 p0.aCc)≤wl ([]:List aA)+2*wl (List.take i11 p0.aCc)∧((i11=1∧v13.length=0)∨(2≤i11∧1≤v13.length∧wl (List.drop 1 v13)+2*wl (List.take 2 p0.aCc)≤2*wl (List.take i11 p0.aCc)))) (by exact bO) (by rintro i11 v13-hI;have:=oY p0.aCc i11;(try dsimp only at hI ⊢);omega) ?_;rintro i11 v13 hl10 hI11
  have:=oZ p0.aCc i11 hl10
  have:=oY p0.aCc (i11+1)
  have:=cQ p0.aCc i11 hl10
  refine oB (pF (aR p0.aCc i11) bO bO) fun x17 h12=>?_
  have:=aZ (v13)
  have:=b9 x17
  refine oG fun z13=>?_
  have:=b0 v13 ([x17]:List aA)
  have:=aiB v13 x17
  have:=ad1 p0.aCc 2 (i11+1)
  exact Ok.next bO
 intro v13 h9
 have:=cQ p0.aCc 0 z8
 have:wl (List.take 1 p0.aCc)=wl (List.take 0 p0.aCc)+wt (aR p0.aCc 0)+1:=K9 p0.aCc 0 z8
 have:=aB.wt_eq (aR p0.aCc 0)
 have:fM.size=5:=rfl
 refine oD (fun g14=>?_) fun g14=>?_
 ·have:=congrArg ByteArray.size g14
  have:=aZ v13
  refine oD (fun g15=>?_) fun g15=>?_
  ·refine oG fun z16=>?_
   have:=cQ p0.aCc 1 z16
   have:wl (List.take 2 p0.aCc)=wl (List.take 1 p0.aCc)+wt (aR p0.aCc 1)+1:=K9 p0.aCc 1 z16
   have:=aB.wt_eq (aR p0.aCc 1)
   refine oN (fun g17=>?_) fun g17=>?_
   ·have:=HQ g17
    refine oG fun z18=>?_
    have:=zX v13 1 1
    have:=as4 v13
    have:=aA.wt_mk 3 ((aR p0.aCc 1).aCf) (List.drop (1:Int).toNat (List.take (v13.length:Int).toNat v13))
    exact oS
   have:zP.size=3:=rfl
   refine oD (fun g19=>?_) fun g19=>?_
   ·have:=congrArg ByteArray.size g19
    have:=aA.wt_mk 2 ((aR p0.aCc 0).aCf) v13
    exact oS
   have:=aA.wt_mk 2 ((aR p0.aCc 0).aCf) v13
   exact oS
  have:zP.size=3:=rfl
  refine oD (fun g20=>?_) fun g20=>?_
  ·have:=congrArg ByteArray.size g20
   refine oD (fun g21=>?_) fun g21=>?_
   ·refine oG fun z22=>?_
    have:=cQ p0.aCc 1 z22
    have:wl (List.take 2 p0.aCc)=wl (List.take 1 p0.aCc)+wt (aR p0.aCc 1)+1:=K9 p0.aCc 1 z22
    have:=aB.wt_eq (aR p0.aCc 1)
    refine oN (fun g23=>?_) fun g23=>?_
    ·have:=HQ g23
     have:=aA.wt_mk 4 ((aR p0.aCc 1).aCf) []
     exact oS
    have:=aA.wt_mk 2 ((aR p0.aCc 0).aCf) v13
    exact oS
   have:=aA.wt_mk 2 ((aR p0.aCc 0).aCf) v13
   exact oS
  have:=aA.wt_mk 2 ((aR p0.aCc 0).aCf) v13
  exact oS
 have:zP.size=3:=rfl
 refine oD (fun g24=>?_) fun g24=>?_
 ·have:=congrArg ByteArray.size g24
  have:=aZ v13
  refine oD (fun g25=>?_) fun g25=>?_
  ·refine oG fun z26=>?_
   have:=cQ p0.aCc 1 z26
   have:wl (List.take 2 p0.aCc)=wl (List.take 1 p0.aCc)+wt (aR p0.aCc 1)+1:=K9 p0.aCc 1 z26
   have:=aB.wt_eq (aR p0.aCc 1)
   refine oN (fun g27=>?_) fun g27=>?_
   ·have:=HQ g27
    have:=aA.wt_mk 4 ((aR p0.aCc 1).aCf) []
    exact oS
   have:=aA.wt_mk 2 ((aR p0.aCc 0).aCf) v13
   exact oS
  have:=aA.wt_mk 2 ((aR p0.aCc 0).aCf) v13
  exact oS
 have:=aA.wt_mk 2 ((aR p0.aCc 0).aCf) v13
 exact oS
theorem aqB(n:Nat):bP fun fu=>abD n (m9 fu):=by
 induction n with
 |zero=>exact .all fun fu=>fun _ h=>absurd h (Nat.not_lt_zero _)
 |succ n ih=>exact bP.succ ((ih.and (((bP.ge 2147483648).and dX).and cG)).imp fun fu ⟨h,⟨⟨hfu,dX⟩,cG⟩⟩=>fun p0=>by rw [m9];exact aoV hfu dX cG h p0)
theorem iB:bP T7:=(aqB 8589934592).imp fun fu h p0 hpre=>h p0 bO hpre
def DX(fu:Nat):Prop:= ∀(pn:Int),pn.natAbs≤9223372036854775808→Ok (uK fu pn) (fun r=>wt r=0∧LA r)
theorem fF:bP DX:=(bP.ge 2147483648).imp fun fu hfu pn hpre=>by
 have:s_.size=0:=rfl
 have:=(aW:wl ([]:List aA)=0∧_)
 have:=aA.wt_mk 0 s_ []
 have:=(aW:wl ([]:List aL)=0∧_)
 have:=(aW:wl ([]:List bU)=0∧_)
 have:=aL.wt_mk 1 s_ s_ pn (aA.mk 0 s_ []) [] []
 exact oS2
def DY(fu:Nat):Prop:= ∀(ps:ByteArray),Ok (wU fu ps) (fun r=>wt r=ps.size∧LA r)
theorem fO:bP DY:=(bP.ge 2147483648).imp fun fu hfu ps=>by
 have:s_.size=0:=rfl
 have:=(aW:wl ([]:List aA)=0∧_)
 have:=aA.wt_mk 0 s_ []
 have:=(aW:wl ([]:List aL)=0∧_)
 have:=(aW:wl ([]:List bU)=0∧_)
 have:=aL.wt_mk 3 s_ ps 0 (aA.mk 0 s_ []) [] []
 exact oS2
def NN(fu:Nat):Prop:= ∀(pa pb:Int),Ok (r7 fu pa pb) (fun r=>(pa≤pb∧r=pa)∨(pb≤pa∧r=pb))
theorem jF:bP NN:=(bP.ge 2147483648).imp fun fu hfu pa pb=>by
 exact oD (fun _=>oS) fun g1=>oS
def ahV(fu:Nat):Prop:= ∀(p0:aB),wt p0≤67108864→Ok (gZ fu p0) (fun r=>wt r≤2*wt p0∧LA r)
def A1(n:Nat)(m:kC):Prop:= ∀(p0:aB),2*wt p0+1<n→wt p0≤67108864→Ok (m p0) (fun r=>wt r≤2*wt p0∧LA r)
def xJ(n:Nat)(m:iT):Prop:= ∀(p4:List aB),2*wl p4<n→wl p4≤67108864→Ok (m p4) (fun r=>wl r≤2*wl p4∧ ∀a∈r,LA a)
def DV(n:Nat)(m:lR):Prop:= ∀(px:aB),2*wt px+1<n→wt px≤67108864→Ok (m px) (fun r=>wt r≤2*wt px∧LA r.aCj)
theorem agR{n fu:Nat}(hfu:2147483648≤fu)(mR:CD fu)(fF:DX fu)(fO:DY fu)(jF:NN fu)(iB:T7 fu)(iP:FD fu){p5:kC}(p8:A1 n p5){p3:iT}(p1:xJ n p3){p6:lR}(pA:DV n p6):A1 (n+1) (MY fu p5 p3 p6):=by
 intro p0 hm hpre
 have:=aB.wt_eq p0
 have:s_.size=0:=rfl
 refine oN (fun g1=>?_) fun g1=>?_
 ·have:=HQ g1
  refine vS (mR p0.aCf) fun x3 x4 h2=>?_
  dsimp only at h2
  refine oC (fun g3=>?_) fun g3=>?_
  ·exact SQ (fF x3 bO) fun x7 h4 h4B=>oS2
  have:qX.size=4:=rfl
  refine oD (fun g5=>?_) fun g5=>?_
  ·have:=congrArg ByteArray.size g5
   have:=(aW:wl ([]:List aA)=0∧_)
   have:=aA.wt_mk 0 s_ []
   have:=(aW:wl ([]:List aL)=0∧_)
   have:=(aW:wl ([]:List bU)=0∧_)
   have:=aL.wt_mk 2 s_ s_ 1 (aA.mk 0 s_ []) [] []
   exact oS2
  have:mA.size=5:=rfl
  refine oD (fun g6=>?_) fun g6=>?_
  ·have:=congrArg ByteArray.size g6
   have:=(aW:wl ([]:List aA)=0∧_)
   have:=aA.wt_mk 0 s_ []
   have:=(aW:wl ([]:List aL)=0∧_)
   have:=(aW:wl ([]:List bU)=0∧_)
   have:=aL.wt_mk 2 s_ s_ 0 (aA.mk 0 s_ []) [] []
   exact oS2
  exact SQ (fO p0.aCf) fun x11 h7 h7B=>oS2
 have:=(aW:wl ([]:List aB)=0∧_)
 have:=aZ (p0.aCc)
 refine oG fun z8=>?_
 have:=b0 ([]:List aB) p0.aCc
 have:=aB.wt_mk s_ []
 have:=EP (aB.mk s_ []) (aB.mk s_ []) (aB.mk s_ [])
 refine oG fun z9=>?_
 have:=b0 (([])++p0.aCc) ([(aB.mk s_ []),(aB.mk s_ []),(aB.mk s_ [])]:List aB)
 refine oG fun z10=>?_
 have:=aiV p0.aCc (aB.mk s_ []) (aB.mk s_ []) (aB.mk s_ []) 1 2 rfl
 refine Ok.lt fun y15 h11=>?_
 have:=congrArg wt h11
 refine oG fun z12=>?_
 have:=aiV p0.aCc (aB.mk s_ []) (aB.mk s_ []) (aB.mk s_ []) 0 1 rfl
 refine Ok.lt fun y18 h13=>?_
 have:=congrArg wt h13
 have:=aB.wt_eq y18
 have:RQ.size=4:=rfl
 refine oD (fun g14=>?_) fun g14=>?_
 ·have:=congrArg ByteArray.size g14
  have:=aZ p0.aCc
  refine oB (jF 2 (p0.aCc.length:Int)) fun x22 h15=>oG fun z16=>?_
  have:=zX p0.aCc x22 2
  refine SQ (p1 (List.drop (x22:Int).toNat (List.take (p0.aCc.length:Int).toNat p0.aCc)) bO bO) fun x25 h17 h17B=>?_
  have:=aB.wt_eq y15
  have:=(aW:wl ([]:List aA)=0∧_)
  have:=aA.wt_mk 0 s_ []
  have:=(aW:wl ([]:List bU)=0∧_)
  have:=aL.wt_mk 4 s_ y15.aCf 0 (aA.mk 0 s_ []) x25 []
  exact oS2
 have:pX.size=6:=rfl
 refine oD (fun g18=>?_) fun g18=>?_
 ·have:=congrArg ByteArray.size g18
  refine oG fun z19=>?_
  have:=aiV p0.aCc (aB.mk s_ []) (aB.mk s_ []) (aB.mk s_ []) 2 3 rfl
  refine Ok.lt fun y28 h20=>?_
  have:=congrArg wt h20
  have:=aZ p0.aCc
  refine oB (jF 3 (p0.aCc.length:Int)) fun x31 h21=>oG fun z22=>?_
  have:=zX p0.aCc x31 3
  refine SQ (p1 (List.drop (x31:Int).toNat (List.take (p0.aCc.length:Int).toNat p0.aCc)) bO bO) fun x34 h23 h23B=>?_
  have:=aB.wt_eq y15
  have:=aB.wt_eq y28
  have:=(aW:wl ([]:List aA)=0∧_)
  have:=aA.wt_mk 0 s_ []
  have:=(aW:wl ([]:List bU)=0∧_)
  have:=aL.wt_mk 5 y15.aCf y28.aCf 0 (aA.mk 0 s_ []) x34 []
  exact oS2
 have:GY.size=3:=rfl
 refine oD (fun g24=>?_) fun g24=>?_
 ·have:=congrArg ByteArray.size g24
  have:=aZ p0.aCc
  refine oB (jF 2 (p0.aCc.length:Int)) fun x37 h25=>oG fun z26=>?_
  have:=zX p0.aCc x37 2
  refine SQ (p1 (List.drop (x37:Int).toNat (List.take (p0.aCc.length:Int).toNat p0.aCc)) bO bO) fun x40 h27 h27B=>?_
  have:=aB.wt_eq y15
  have:=(aW:wl ([]:List aA)=0∧_)
  have:=aA.wt_mk 0 s_ []
  have:=(aW:wl ([]:List bU)=0∧_)
  have:=aL.wt_mk 6 s_ y15.aCf 0 (aA.mk 0 s_ []) x40 []
  exact oS2
 have:GX.size=3:=rfl
 refine oD (fun g28=>?_) fun g28=>?_
 ·have:=congrArg ByteArray.size g28
  have:=aZ p0.aCc
  refine oB (jF 2 (p0.aCc.length:Int)) fun x43 h29=>oG fun z30=>?_
  have:=zX p0.aCc x43 2
  refine SQ (p1 (List.drop (x43:Int).toNat (List.take (p0.aCc.length:Int).toNat p0.aCc)) bO bO) fun x46 h31 h31B=>?_
  have:=aB.wt_eq y15
  have:=(aW:wl ([]:List aA)=0∧_)
  have:=aA.wt_mk 0 s_ []
  have:=(aW:wl ([]:List bU)=0∧_)
  have:=aL.wt_mk 8 s_ y15.aCf 0 (aA.mk 0 s_ []) x46 []
  exact oS2
 have:F4.size=2:=rfl
 refine oD (fun g32=>?_) fun g32=>?_
 ·have:=congrArg ByteArray.size g32
  have:=aZ p0.aCc
  refine oG fun z33=>?_
  have:=zX p0.aCc 1 1
  refine SQ (p1 (List.drop (1:Int).toNat (List.take (p0.aCc.length:Int).toNat p0.aCc)) bO bO) fun x50 h34 h34B=>?_
  have:=(aW:wl ([]:List aA)=0∧_)
  have:=aA.wt_mk 0 s_ []
  have:=(aW:wl ([]:List bU)=0∧_)
  have:=aL.wt_mk 9 s_ s_ 0 (aA.mk 0 s_ []) x50 []
  exact oS2
 have:zD.size=4:=rfl
 refine oD (fun g35=>?_) fun g35=>?_
 ·have:=congrArg ByteArray.size g35
  have:=aZ p0.aCc
  refine oB (jF 2 (p0.aCc.length:Int)) fun x53 h36=>oG fun z37=>?_
  have:=zX p0.aCc x53 2
  refine SQ (p1 (List.drop (x53:Int).toNat (List.take (p0.aCc.length:Int).toNat p0.aCc)) bO bO) fun x56 h38 h38B=>?_
  have:=aB.wt_eq y15
  have:=(aW:wl ([]:List aA)=0∧_)
  have:=aA.wt_mk 0 s_ []
  have:=(aW:wl ([]:List bU)=0∧_)
  have:=aL.wt_mk 11 y15.aCf s_ 0 (aA.mk 0 s_ []) x56 []
  exact oS2
 have:aaR.size=3:=rfl
 refine oD (fun g39=>?_) fun g39=>?_
 ·have:=congrArg ByteArray.size g39
  refine oB (iB y15 bO) fun x59 h40=>?_
  have:=aZ p0.aCc
  refine oB (jF 2 (p0.aCc.length:Int)) fun x61 h41=>oG fun z42=>?_
  have:=zX p0.aCc x61 2
  refine SQ (p1 (List.drop (x61:Int).toNat (List.take (p0.aCc.length:Int).toNat p0.aCc)) bO bO) fun x64 h43 h43B=>?_
  have:=(aW:wl ([]:List bU)=0∧_)
  have:=aL.wt_mk 12 s_ s_ 0 x59 x64 []
  exact oS2
 have:zC.size=4:=rfl
 refine oD (fun g44=>?_) fun g44=>?_
 ·have:=congrArg ByteArray.size g44
  have:=aZ p0.aCc
  refine oB (jF 2 (p0.aCc.length:Int)) fun x67 h45=>oG fun z46=>?_
  have:=apY p0.aCc x67
  refine SQ (p1 (List.drop (1:Int).toNat (List.take (x67:Int).toNat p0.aCc)) bO bO) fun x70 h47 h47B=>?_
  have:=(aW:wl ([]:List bU)=0∧_)
  refine apS (PA:=fun a=>LA a.aCj) p0.aCc 2 (fun i71 v73 hl49 hI50 hI50B _ _=>?_) ?_
  ·have:=cQ p0.aCc i71 hl49
   refine SQ (pA (aR p0.aCc i71) bO bO) fun x77 h51 h51B=>?_
   have:=aZ (v73)
   have:=b9 x77
   refine oG fun z52=>?_
   have:=b0 v73 ([x77]:List bU)
   exact oX hI50B
  rintro v73 ⟨h48,h48B⟩
  have:=(aW:wl ([]:List aA)=0∧_)
  have:=aA.wt_mk 0 s_ []
  have:=aL.wt_mk 7 s_ s_ 0 (aA.mk 0 s_ []) x70 v73
  exact oS2
 have:=aZ p0.aCc
 refine oB (jF 1 (p0.aCc.length:Int)) fun x80 h53=>oG fun z54=>?_
 have:=zX p0.aCc x80 1
 refine SQ (p1 (List.drop (x80:Int).toNat (List.take (p0.aCc.length:Int).toNat p0.aCc)) bO bO) fun x83 h55 h55B=>?_
 have:=(aW:wl ([]:List aA)=0∧_)
 have:=aA.wt_mk 0 s_ []
 have:=(aW:wl ([]:List bU)=0∧_)
 have:=aL.wt_mk 10 s_ y18.aCf 0 (aA.mk 0 s_ []) x83 []
 exact oS2
theorem acW{n fu:Nat}(hfu:2147483648≤fu)(mR:CD fu)(fF:DX fu)(fO:DY fu)(jF:NN fu)(iB:T7 fu)(iP:FD fu){p5:kC}(p8:A1 n p5){p3:iT}(p1:xJ n p3){p6:lR}(pA:DV n p6):xJ (n+1) (IP fu p5 p3 p6):=by
 intro p4 hm hpre
 have:=(aW:wl ([]:List aL)=0∧_)
 refine apS (PA:=fun a=>LA a) p4 2 (fun i1 v3 hl2 hI3 hI3B _ _=>?_) ?_
 ·have:=aZ p4
  have:=cQ p4 i1 hl2
  refine SQ (p8 (aR p4 i1) bO bO) fun x7 h4 h4B=>?_
  have:=aZ (v3)
  have:=b9 x7
  refine oG fun z5=>?_
  have:=b0 v3 ([x7]:List aL)
  exact oX hI3B
 rintro v3 ⟨h1,h1B⟩
 exact oS2
theorem ajD{n fu:Nat}(hfu:2147483648≤fu)(mR:CD fu)(fF:DX fu)(fO:DY fu)(jF:NN fu)(iB:T7 fu)(iP:FD fu){p5:kC}(p8:A1 n p5){p3:iT}(p1:xJ n p3){p6:lR}(pA:DV n p6):DV (n+1) (RW fu p5 p3 p6):=by
 intro px hm hpre
 have:=aB.wt_eq px
 have:=aZ px.aCc
 refine oD (fun g1=>?_) fun g1=>?_
 ·have:s_.size=0:=rfl
  have:=(aW:wl ([]:List aA)=0∧_)
  have:=aA.wt_mk 0 s_ []
  have:=(aW:wl ([]:List aL)=0∧_)
  have:=(aW:wl ([]:List bU)=0∧_)
  have:=aL.wt_mk 0 s_ s_ 0 (aA.mk 0 s_ []) [] []
  have:=(aW:wl ([]:LB)=0∧_)
  have:=bU.wt_mk s_ [] (aL.mk 0 s_ s_ 0 (aA.mk 0 s_ []) [] [])
  exact oS2
 have:=eL ((px.aCc.length:Int)-1)
 refine oG fun z2=>?_
 have:=UM (1:Int).toNat (aX ((px.aCc.length:Int)-1):Int).toNat px.aCc
 have:=arT px.aCc (aX ((px.aCc.length:Int)-1):Int).toNat
 have:=K9 px.aCc (aX ((px.aCc.length:Int)-1):Int).toNat
 have:=oY px.aCc ((aX ((px.aCc.length:Int)-1):Int).toNat+1)
 refine vS (iP (List.drop (1:Int).toNat (List.take (aX ((px.aCc.length:Int)-1):Int).toNat px.aCc)) bO) fun x4 x5 h3=>?_
 dsimp only at h3
 have:=aZ (px.aCc)
 refine oG fun z4=>oG fun z5=>?_
 have:=cQ px.aCc ((aX ((px.aCc.length:Int)-1)).toNat) z5.2
 refine Ok.lt fun y8 h6=>?_
 have:=congrArg wt h6
 refine SQ (p8 y8 bO bO) fun x11 h7 h7B=>?_
 have:=cQ px.aCc 0 z4
 have:wl (List.take 1 px.aCc)=wl (List.take 0 px.aCc)+wt (aR px.aCc 0)+1:=K9 px.aCc 0 z4
 have:=aB.wt_eq (aR px.aCc 0)
 have:=bU.wt_mk ((aR px.aCc 0).aCf) x4 x11
 exact oS2
theorem ajE(n:Nat):bP fun fu=>A1 n (gZ fu)∧xJ n (kV fu)∧DV n (nV fu):=by
 induction n with
 |zero=>exact .all fun fu=>⟨fun _ h=>absurd h (Nat.not_lt_zero _),fun _ h=>absurd h (Nat.not_lt_zero _),fun _ h=>absurd h (Nat.not_lt_zero _)⟩
 |succ n ih=>exact bP.succ ((ih.and (((((((bP.ge 2147483648).and mR).and fF).and fO).and jF).and iB).and iP)).imp fun fu ⟨h,⟨⟨⟨⟨⟨⟨hfu,mR⟩,fF⟩,fO⟩,jF⟩,iB⟩,iP⟩⟩=>⟨fun p0=>by rw [gZ];exact agR hfu mR fF fO jF iB iP h.1 h.2.1 h.2.2 p0,fun p4=>by rw [kV];exact acW hfu mR fF fO jF iB iP h.1 h.2.1 h.2.2 p4,fun px=>by rw [nV];exact ajD hfu mR fF fO jF iB iP h.1 h.2.1 h.2.2 px⟩)
theorem n8:bP ahV:=(ajE 8589934592).imp fun fu h p0 hpre=>h.1 p0 bO hpre
def anF(fu:Nat):Prop:= ∀(p0:aL),wt p0≤2097152→(LA p0)→Ok (m4 fu p0) (fun r=>wt r+8≤32*(wt p0+1))
def NJ(n:Nat)(m:tJ):Prop:= ∀(p0:aL),2*wt p0+1<n→wt p0≤2097152→(LA p0)→Ok (m p0) (fun r=>wt r+8≤32*(wt p0+1))
def FB(n:Nat)(m:nG):Prop:= ∀(pD:List aB) (p4:List aL),2*wl p4<n→wl pD≤33554432∧wl p4≤2097152→(∀a∈p4,LA a)→Ok (m pD p4) (fun r=>wt r≤wl pD+32*wl p4)
theorem amW{n fu:Nat}(hfu:2147483648≤fu)(mQ:FC fu)(bM:I7 fu)(iZ:abI fu)(nB:LQ fu){p9:tJ}(pC:NJ n p9){p7:nG}(p2:FB n p7):NJ (n+1) (WY fu p9 p7):=by
 intro p0 hm hpre hB
 have hN:=hB.num
 have:=aL.wt_eq p0
 refine oD (fun g1=>?_) fun g1=>?_
 ·exact oB (mQ p0.aCR bO) fun x3 h2=>oB (bM x3) fun x5 h3=>oS
 refine oD (fun g4=>?_) fun g4=>?_
 ·have:mA.size=5:=rfl
  have:qX.size=4:=rfl
  have:=kQ mA qX
  have:=bA mA
  have:=bA qX
  refine oG fun z5=>?_
  have:=cQ ([mA,qX]:LB) ((p0.aCR).toNat) z5.2
  have:=bA (aR ([mA,qX]:LB) ((p0.aCR).toNat))
  exact oB (bM (aR ([mA,qX]:LB) ((p0.aCR).toNat))) fun x9 h6=>oS
 refine oD (fun g7=>?_) fun g7=>?_
 ·exact oB (bM p0.aB9) fun x12 h8=>oS
 refine oD (fun g9=>?_) fun g9=>?_
 ·have:RQ.size=4:=rfl
  refine oB (bM RQ) fun x15 h10=>oB (bM p0.aB9) fun x17 h11=>?_
  have:=kQ x15 x17
  refine oB (p2 ([x15,x17]:List aB) p0.aCa bO bO (by exact hB.arg)) fun x19 h12=>?_
  have:=aB.wt_eq x19
  have:=aB.wt_mk x19.aCf x19.aCc
  exact oS
 refine oD (fun g13=>?_) fun g13=>?_
 ·have:pX.size=6:=rfl
  refine oB (bM pX) fun x22 h14=>oB (bM p0.aCg) fun x24 h15=>oB (bM p0.aB9) fun x26 h16=>?_
  have:=EP x22 x24 x26
  refine oB (p2 ([x22,x24,x26]:List aB) p0.aCa bO bO (by exact hB.arg)) fun x28 h17=>?_
  have:=aB.wt_eq x28
  have:=aB.wt_mk x28.aCf x28.aCc
  exact oS
 refine oD (fun g18=>?_) fun g18=>?_
 ·have:GY.size=3:=rfl
  refine oB (bM GY) fun x31 h19=>oB (bM p0.aB9) fun x33 h20=>?_
  have:=kQ x31 x33
  refine oB (p2 ([x31,x33]:List aB) p0.aCa bO bO (by exact hB.arg)) fun x35 h21=>?_
  have:=aB.wt_eq x35
  have:=aB.wt_mk x35.aCf x35.aCc
  exact oS
 refine oD (fun g22=>?_) fun g22=>?_
 ·have:GX.size=3:=rfl
  refine oB (bM GX) fun x38 h23=>oB (bM p0.aB9) fun x40 h24=>?_
  have:=kQ x38 x40
  refine oB (p2 ([x38,x40]:List aB) p0.aCa bO bO (by exact hB.arg)) fun x42 h25=>?_
  have:=aB.wt_eq x42
  have:=aB.wt_mk x42.aCf x42.aCc
  exact oS
 refine oD (fun g26=>?_) fun g26=>?_
 ·have:F4.size=2:=rfl
  refine oB (bM F4) fun x45 h27=>?_
  have:=b9 x45
  refine oB (p2 ([x45]:List aB) p0.aCa bO bO (by exact hB.arg)) fun x47 h28=>?_
  have:=aB.wt_eq x47
  have:=aB.wt_mk x47.aCf x47.aCc
  exact oS
 refine oD (fun g29=>?_) fun g29=>?_
 ·refine oB (bM p0.aB9) fun x50 h30=>?_
  have:=b9 x50
  refine oB (p2 ([x50]:List aB) p0.aCa bO bO (by exact hB.arg)) fun x52 h31=>?_
  have:=aB.wt_eq x52
  have:=aB.wt_mk x52.aCf x52.aCc
  exact oS
 refine oD (fun g32=>?_) fun g32=>?_
 ·have:zD.size=4:=rfl
  refine oB (bM zD) fun x55 h33=>oB (bM p0.aCg) fun x57 h34=>?_
  have:=kQ x55 x57
  refine oB (p2 ([x55,x57]:List aB) p0.aCa bO bO (by exact hB.arg)) fun x59 h35=>?_
  have:=aB.wt_eq x59
  have:=aB.wt_mk x59.aCf x59.aCc
  exact oS
 refine oD (fun g36=>?_) fun g36=>?_
 ·have:aaR.size=3:=rfl
  refine oB (bM aaR) fun x62 h37=>oB (iZ p0.aCd bO) fun x64 h38=>?_
  have:=kQ x62 x64
  refine oB (p2 ([x62,x64]:List aB) p0.aCa bO bO (by exact hB.arg)) fun x66 h39=>?_
  have:=aB.wt_eq x66
  have:=aB.wt_mk x66.aCf x66.aCc
  exact oS
 have:zC.size=4:=rfl
 refine oB (bM zC) fun x68 h40=>?_
 have:=b9 x68
 refine oB (p2 ([x68]:List aB) p0.aCa bO bO (by exact hB.arg)) fun x70 h41=>?_
 have:=aB.wt_eq x70
 refine QX p0.aCu 32 (fun i71 v73 hl43 hI44 _ _=>?_) ?_
 ·have:=aZ p0.aCu
  have:=cQ p0.aCu i71 hl43
  refine Ok.lt fun y76 h45=>?_
  have:=congrArg wt h45
  have:=bU.wt_eq y76
  refine oB (bM y76.aCy) fun x79 h46=>oB (nB y76.aCm bO) fun x81 h47=>?_
  have:=b9 x79
  have:=aZ (x81)
  refine oG fun z48=>oB (pC y76.aCj bO bO (by rw [show y76=aR p0.aCu i71 by assumption];exact abL hB.arm (by assumption))) fun x84 h49=>?_
  have:=b0 ([x79]:List aB) x81
  have:=b9 x84
  refine oG fun z50=>?_
  have:=aZ (v73)
  have:s_.size=0:=rfl
  have:=b0 (([x79]:List aB)++x81) ([x84]:List aB)
  have:=aB.wt_mk s_ ((([x79]:List aB)++x81)++([x84]:List aB))
  have:=b9 (aB.mk s_ ((([x79]:List aB)++x81)++([x84]:List aB)))
  refine oG fun z51=>?_
  have:=b0 v73 ([(aB.mk s_ ((([x79]:List aB)++x81)++([x84]:List aB)))]:List aB)
  exact nY
 intro v73 h42
 have:=aB.wt_mk x70.aCf v73
 exact oS
theorem agP{n fu:Nat}(hfu:2147483648≤fu)(mQ:FC fu)(bM:I7 fu)(iZ:abI fu)(nB:LQ fu){p9:tJ}(pC:NJ n p9){p7:nG}(p2:FB n p7):FB (n+1) (MX fu p9 p7):=by
 intro pD p4 hm hpre hB
 refine QX p4 32 (fun i1 v3 hl2 hI3 _ _=>?_) ?_
 ·have:=aZ p4
  have:=cQ p4 i1 hl2
  refine Ok.lt fun y6 h4=>?_
  have:=congrArg wt h4
  refine oB (pC y6 bO bO (by rw [show y6=aR p4 i1 by assumption];exact abL hB (by assumption))) fun x9 h5=>?_
  have:=aZ (v3)
  have:=b9 x9
  refine oG fun z6=>?_
  have:=b0 v3 ([x9]:List aB)
  exact nY
 intro v3 h1
 have:s_.size=0:=rfl
 have:=aB.wt_mk s_ v3
 exact oS
theorem aoO(n:Nat):bP fun fu=>NJ n (m4 fu)∧FB n (oP fu):=by
 induction n with
 |zero=>exact .all fun fu=>⟨fun _ h=>absurd h (Nat.not_lt_zero _),fun _ _ h=>absurd h (Nat.not_lt_zero _)⟩
 |succ n ih=>exact bP.succ ((ih.and (((((bP.ge 2147483648).and mQ).and bM).and iZ).and nB)).imp fun fu ⟨h,⟨⟨⟨⟨hfu,mQ⟩,bM⟩,iZ⟩,nB⟩⟩=>⟨fun p0=>by rw [m4];exact amW hfu mQ bM iZ nB h.1 h.2 p0,fun pD p4=>by rw [oP];exact agP hfu mQ bM iZ nB h.1 h.2 pD p4⟩)
theorem vA:bP anF:=(aoO 8589934592).imp fun fu h p0 hpre hB=>h.1 p0 bO hpre hB
end Go.Proofs.YtfcoaagbccmahaaGreat.W

namespace Go.Proofs.YtfcoaagbccmahaaGreat.W
set_option maxRecDepth 20000
set_option maxHeartbeats 4000000
open Go.RowKit Go.WalkArith Go.IntWalk
attribute [local irreducible] wt wl
def ahU(fu:Nat):Prop:= ∀(pe:aL) (p7:Int),wt pe≤1073741824→Ok (nF fu pe p7) (fun _=>True)
def LF(n:Nat)(m:t9):Prop:= ∀(pe:aL) (p7:Int),wt pe<n→wt pe≤1073741824→Ok (m pe p7) (fun _=>True)
theorem agL{n fu:Nat}(hfu:2147483648≤fu){p8:t9}(p9:LF n p8):LF (n+1) (MV fu p8):=by
 intro pe p7 hm hpre
 refine oEN (fun i1 v2 hl2=>?_) ?_
 ·have:=aL.wt_eq pe
  have:=aZ pe.aCa
  refine oD (fun g4=>?_) fun g4=>?_
  ·have:=cQ pe.aCa i1 hl2
   refine Ok.lt fun y6 h5=>?_
   have:=congrArg wt h5
   exact oB (p9 y6 v2 bO bO) fun x9 _=>nY
  exact oK
 intro v2 _
 refine oEN (fun i10 v11 hl8=>?_) ?_
 ·have:=aL.wt_eq pe
  have:=aZ pe.aCu
  refine oD (fun g10=>?_) fun g10=>?_
  ·have:=cQ pe.aCu i10 hl8
   refine Ok.lt fun y15 h11=>?_
   have:=congrArg wt h11
   have:=bU.wt_eq y15
   exact oB (p9 y15.aCj v11 bO bO) fun x18 _=>nY
  exact oK
 intro v11 _
 exact oS
theorem ajC(n:Nat):bP fun fu=>LF n (nF fu):=by
 induction n with
 |zero=>exact .all fun fu=>fun _ _ h=>absurd h (Nat.not_lt_zero _)
 |succ n ih=>exact bP.succ ((ih.and (bP.ge 2147483648)).imp fun fu ⟨h,hfu⟩=>fun pe p7=>by rw [nF];exact agL hfu h pe p7)
theorem L9:bP ahU:=(ajC 8589934592).imp fun fu h pe p7 hpre=>h pe p7 bO hpre
def ZP(fu:Nat):Prop:= ∀(pk:Int),Ok (RT fu pk) (fun _=>True)
theorem EO:bP ZP:=(bP.ge 2147483648).imp fun fu hfu pk=>by
 refine G0 ?_ ?_
 ·exact oD (fun _=>oI) fun g2=>oI
 intro v1 _
 refine oC (fun _=>oS) fun g3=>oD (fun _=>oS) fun g4=>?_;refine G0 ?_ ?_
 ·exact oD (fun _=>oI) fun g6=>oI
 intro v5 _
 refine oC (fun _=>oS) fun g7=>oD (fun _=>oS) fun g8=>oD (fun _=>oS) fun g9=>?_;refine G0 ?_ ?_
 ·exact oD (fun _=>oI) fun g11=>oI
 intro v10 _
 exact oC (fun _=>oS) fun g12=>oD (fun _=>oS) fun g13=>oD (fun _=>oS) fun g14=>oS
def UR(fu:Nat):Prop:= ∀(ps:ByteArray),Ok (MW fu ps) (fun _=>True)
theorem BG:bP UR:=((bP.ge 2147483648).and dV).imp fun fu ⟨hfu,dV⟩ ps=>by
 have:CA.size=1:=rfl
 have:G7.size=1:=rfl
 have:PI.size=1:=rfl
 have:PJ.size=1:=rfl
 have:PK.size=1:=rfl
 have:=arD CA G7 PI PJ PK
 have:=bA CA
 have:=bA G7
 have:=bA PI
 have:=bA PJ
 have:=bA PK
 exact oB (dV ([CA,G7,PI,PJ,PK]:LB) ps) fun x2 _=>oS
def US(fu:Nat):Prop:= ∀(pt:aA),Ok (oO fu pt) (fun _=>True)
theorem lY:bP US:=(bP.ge 2147483648).imp fun fu hfu pt=>by
 refine oD (fun g1=>?_) fun g1=>?_
 ·exact oD (fun _=>oS) fun g2=>oS
 exact oS
def ahS(fu:Nat):Prop:= ∀(p0:aL),wt p0≤1073741824→Ok (nD fu p0) (fun _=>True)
def LD(n:Nat)(m:l5):Prop:= ∀(p0:aL),wt p0<n→wt p0≤1073741824→Ok (m p0) (fun _=>True)
theorem agC{n fu:Nat}(hfu:2147483648≤fu)(EO:ZP fu)(sJ:akK fu)(bL:A2 fu)(BG:UR fu)(eJ:HF fu)(lY:US fu)(rQ:UV fu)(eI:G8 fu){pA:l5}(pC:LD n pA):LD (n+1) (MT fu pA):=by
 intro p0 hm hpre
 have:=aL.wt_eq p0
 refine oB6 (EO p0.aCb) fun x2 x3 x4 x5 x6 x7 _=>?_;refine G0 ?_ ?_
 ·refine oB (sJ p0.aCb 1 12) fun x9 _=>oW (fun _=>oL) fun g4=>oB (bL p0.aCg) fun x12 _=>oN (fun _=>oL) fun g6=>?_;refine oW (fun g7=>?_) fun g7=>?_
  ·refine oN (fun _=>oL) fun g8=>?_;refine oW (fun g9=>?_) fun g9=>?_
   ·exact oN (fun _=>oL) fun g10=>oN (fun _=>oL) fun g11=>oI
   exact oN (fun _=>oL) fun g12=>oI
  refine oW (fun g13=>?_) fun g13=>?_
  ·exact oN (fun _=>oL) fun g14=>oN (fun _=>oL) fun g15=>oI
  exact oN (fun _=>oL) fun g16=>oI
 rintro⟨⟩-
 refine G0 ?_ ?_
 ·refine oD (fun g18=>?_) fun g18=>?_
  ·refine oB (BG p0.aB9) fun x26 _=>oW (fun _=>oL) fun g20=>?_;refine oN (fun g21=>?_) fun g21=>?_
   ·refine oB (bL p0.aB9) fun x30 _=>oN (fun _=>oL) fun g23=>?_;refine oW (fun g24=>?_) fun g24=>?_
    ·exact oN (fun _=>oL) fun g25=>oI
    exact oI
   exact oI
  refine oN (fun g26=>?_) fun g26=>?_
  ·refine oB (bL p0.aB9) fun x36 _=>oN (fun _=>oL) fun g28=>?_;refine oW (fun g29=>?_) fun g29=>?_
   ·exact oN (fun _=>oL) fun g30=>oI
   exact oI
  exact oI
 rintro⟨⟩-
 refine G0 ?_ ?_
 ·refine oD (fun g32=>?_) fun g32=>?_
  ·have:=aZ p0.aCa
   refine oN (fun _=>oL) fun g33=>?_;refine oD (fun g34=>?_) fun g34=>?_
   ·refine oD (fun _=>oL) fun g35=>?_;refine oC (fun g36=>?_) fun g36=>?_
    ·exact oB (eJ p0.aCd bO) fun x46 _=>oW (fun _=>oL) fun g38=>oI
    exact oB (lY p0.aCd) fun x49 _=>oW (fun _=>oL) fun g40=>oI
   refine oC (fun g41=>?_) fun g41=>?_
   ·exact oB (eJ p0.aCd bO) fun x53 _=>oW (fun _=>oL) fun g43=>oI
   exact oB (lY p0.aCd) fun x56 _=>oW (fun _=>oL) fun g45=>oI
  refine oD (fun g46=>?_) fun g46=>?_
  ·have:=aZ p0.aCa
   refine oD (fun _=>oL) fun g47=>?_;refine oC (fun g48=>?_) fun g48=>?_
   ·exact oB (eJ p0.aCd bO) fun x62 _=>oW (fun _=>oL) fun g50=>oI
   exact oB (lY p0.aCd) fun x65 _=>oW (fun _=>oL) fun g52=>oI
  refine oC (fun g53=>?_) fun g53=>?_
  ·exact oB (eJ p0.aCd bO) fun x69 _=>oW (fun _=>oL) fun g55=>oI
  exact oB (lY p0.aCd) fun x72 _=>oW (fun _=>oL) fun g57=>oI
 rintro⟨⟩-
 refine G0 ?_ ?_
 ·refine oD (fun g59=>?_) fun g59=>?_
  ·exact oB (sJ p0.aCR (-999999) 999999) fun x76 _=>oW (fun _=>oL) fun g61=>oI
  refine oD (fun g62=>?_) fun g62=>?_
  ·exact oB (sJ p0.aCR 0 1) fun x80 _=>oW (fun _=>oL) fun g64=>oI
  exact oI
 rintro⟨⟩-
 refine G0 ?_ ?_
 ·refine Ok.loop1 ?_;rintro i82 ⟨⟩ hl66
  have:=aZ p0.aCa
  have:=cQ p0.aCa i82 hl66
  refine Ok.lt fun y85 h68=>?_
  have:=congrArg wt h68
  exact oB (pC y85 bO bO) fun x88 _=>oW (fun _=>oR) fun g70=>nY
 rintro⟨⟩-
 refine G0 ?_ ?_
 ·refine Ok.loop1 ?_;rintro i90 ⟨⟩ hl72
  have:=aZ p0.aCu
  have:=cQ p0.aCu i90 hl72
  refine Ok.lt fun y93 h74=>?_
  have:=congrArg wt h74
  have:=bU.wt_eq y93
  exact oB (bL y93.aCy) fun x96 _=>oW (fun _=>oR) fun g76=>oB (rQ y93.aCm) fun x99 _=>oW (fun _=>oR) fun g78=>oB (eI y93.aCm) fun x102 _=>oW (fun _=>oR) fun g80=>oB (pC y93.aCj bO bO) fun x105 _=>oW (fun _=>oR) fun g82=>nY
 rintro⟨⟩-
 exact oS
theorem ai6(n:Nat):bP fun fu=>LD n (nD fu):=by
 induction n with
 |zero=>exact .all fun fu=>fun _ h=>absurd h (Nat.not_lt_zero _)
 |succ n ih=>exact bP.succ ((ih.and (((((((((bP.ge 2147483648).and EO).and sJ).and bL).and BG).and eJ).and lY).and rQ).and eI)).imp fun fu ⟨h,⟨⟨⟨⟨⟨⟨⟨⟨hfu,EO⟩,sJ⟩,bL⟩,BG⟩,eJ⟩,lY⟩,rQ⟩,eI⟩⟩=>fun p0=>by rw [nD];exact agC hfu EO sJ bL BG eJ lY rQ eI h p0)
theorem L7:bP ahS:=(ai6 8589934592).imp fun fu h p0 hpre=>h p0 bO hpre
def UQ(fu:Nat):Prop:= ∀(pe:aL),wt pe≤1073741824→Ok (BL fu pe) (fun _=>True)
theorem BF:bP UQ:=(((bP.ge 2147483648).and L9).and L7).imp fun fu ⟨⟨hfu,L9⟩,L7⟩ pe hpre=>by
 refine oB (L9 pe 300 bO) fun x2 _=>?_;refine oD (fun g2=>?_) fun g2=>?_
 ·exact oB (L7 pe bO) fun x5 _=>oS
 exact oS
def SE(fu:Nat):Prop:= ∀(pa pb:LB),Ok (IM fu pa pb) (fun _=>True)
theorem xR:bP SE:=(bP.ge 2147483648).imp fun fu hfu pa pb=>by
 have:=aZ pa
 have:=aZ pb
 refine oN (fun _=>oS) fun g1=>?_;refine G0 ?_ ?_
 ·refine Ok.loop1 ?_;rintro i2 ⟨⟩ hl3
  have:=aZ (pb)
  exact oG fun z5=>oN (fun _=>oR) fun g6=>nY
 rintro⟨⟩-
 exact oS
def abE(fu:Nat):Prop:= ∀(p0 p4:aL),wt p0≤536870912→Ok (kI fu p0 p4) (fun _=>True)
def E9(n:Nat)(m:oH):Prop:= ∀(p0 p4:aL),wt p0<n→wt p0≤536870912→Ok (m p0 p4) (fun _=>True)
theorem YR{n fu:Nat}(hfu:2147483648≤fu)(u6:NK fu)(xR:SE fu){p5:oH}(p6:E9 n p5):E9 (n+1) (F0 fu p5):=by
 intro p0 p4 hm hpre
 have:=aL.wt_eq p0
 have:=aL.wt_eq p4
 refine oN (fun _=>oS) fun g1=>oN (fun _=>oS) fun g2=>oN (fun _=>oS) fun g3=>oN (fun _=>oS) fun g4=>oB (u6 p0.aCd p4.aCd bO) fun x6 _=>oW (fun _=>oS) fun g6=>?_
 have:=aZ p0.aCa
 have:=aZ p4.aCa
 refine oN (fun _=>oS) fun g7=>?_
 have:=aZ p0.aCu
 have:=aZ p4.aCu
 refine oN (fun _=>oS) fun g8=>?_;refine G0 ?_ ?_
 ·refine Ok.loop1 ?_;rintro i10 ⟨⟩ hl10
  have:=cQ p0.aCa i10 hl10
  refine Ok.lt fun y13 h12=>?_
  have:=congrArg wt h12
  have:=aZ (p4.aCa)
  refine oG fun z13=>?_
  have:=cQ p4.aCa i10 z13
  refine Ok.lt fun y16 h14=>?_
  have:=congrArg wt h14
  exact oB (p6 y13 y16 bO bO) fun x19 _=>oW (fun _=>oR) fun g16=>nY
 rintro⟨⟩-
 refine G0 ?_ ?_
 ·refine Ok.loop1 ?_;rintro i21 ⟨⟩ hl18
  have:=cQ p0.aCu i21 hl18
  refine Ok.lt fun y24 h20=>?_
  have:=congrArg wt h20
  have:=aZ (p4.aCu)
  refine oG fun z21=>?_
  have:=cQ p4.aCu i21 z21
  refine Ok.lt fun y27 h22=>?_
  have:=congrArg wt h22
  have:=bU.wt_eq y24
  have:=bU.wt_eq y27
  exact oN (fun _=>oR) fun g23=>oB (xR y24.aCm y27.aCm) fun x31 _=>oW (fun _=>oR) fun g25=>oB (p6 y24.aCj y27.aCj bO bO) fun x34 _=>oW (fun _=>oR) fun g27=>nY
 rintro⟨⟩-
 exact oS
theorem acG(n:Nat):bP fun fu=>E9 n (kI fu):=by
 induction n with
 |zero=>exact .all fun fu=>fun _ _ h=>absurd h (Nat.not_lt_zero _)
 |succ n ih=>exact bP.succ ((ih.and (((bP.ge 2147483648).and u6).and xR)).imp fun fu ⟨h,⟨⟨hfu,u6⟩,xR⟩⟩=>fun p0 p4=>by rw [kI];exact YR hfu u6 xR h p0 p4)
theorem FN:bP abE:=(acG 8589934592).imp fun fu h p0 p4 hpre=>h p0 p4 bO hpre
def ahT(fu:Nat):Prop:= ∀(p0:aL) (p4 pE:LB),wl p4+wl pE+2*wt p0≤134217728→Ok (nE fu p0 p4 pE) (fun r=>wl r≤wl pE+wt p0+1)
def LE(n:Nat)(m:rY):Prop:= ∀(p0:aL) (p4 pE:LB),wt p0<n→wl p4+wl pE+2*wt p0≤134217728→Ok (m p0 p4 pE) (fun r=>wl r≤wl pE+wt p0+1)
theorem agH{n fu:Nat}(hfu:2147483648≤fu)(dV:UT fu){pD:rY}(p3:LE n pD):LE (n+1) (MU fu pD):=by
 intro p0 p4 pE hm hpre
 have:=aL.wt_eq p0
 refine Ok.sok (E:=fun v2=>wl v2+wl p0.aCa+wl p0.aCu≤wl pE+wt p0+1) ?_ ?_
 ·refine oD (fun g2=>?_) fun g2=>?_
  ·refine oB (dV p4 p0.aB9) fun x5 _=>?_;refine oW (fun g4=>?_) fun g4=>?_
   ·refine oB (dV pE p0.aB9) fun x8 _=>?_;refine oW (fun g6=>?_) fun g6=>?_
    ·have:=aZ (pE)
     have:=b9 p0.aB9
     have:=bA p0.aB9
     refine oG fun z7=>?_
     have:=b0 pE ([p0.aB9]:LB)
     exact oI
    exact oI
   exact oI
  exact oI
 intro v2 h1
 refine QX p0.aCa 1 (fun i11 v13 hl9 hI10 _ _=>?_) ?_
 ·have:=aZ p0.aCa
  refine oD (fun g11=>?_) fun g11=>?_
  ·refine oD (fun g12=>?_) fun g12=>?_
   ·have:=(aW:wl ([]:LB)=0∧_)
    have:=aZ (p4)
    refine oG fun z13=>?_
    have:=b0 ([]:LB) p4
    have:=b9 p0.aB9
    have:=bA p0.aB9
    refine oG fun z14=>?_
    have:=cQ p0.aCa i11 hl9
    refine Ok.lt fun y20 h15=>?_
    have:=congrArg wt h15
    have:=b0 (([])++p4) ([p0.aB9]:LB)
    exact oB (p3 y20 ((([])++p4)++([p0.aB9]:LB)) v13 bO bO) fun x23 h16=>nY
   have:=cQ p0.aCa i11 hl9
   refine Ok.lt fun y24 h17=>?_
   have:=congrArg wt h17
   exact oB (p3 y24 p4 v13 bO bO) fun x27 h18=>nY
  have:=cQ p0.aCa i11 hl9
  refine Ok.lt fun y28 h19=>?_
  have:=congrArg wt h19
  exact oB (p3 y28 p4 v13 bO bO) fun x31 h20=>nY
 intro v13 h8
 refine QX p0.aCu 1 (fun i32 v34 hl22 hI23 _ _=>?_) ?_
 ·have:=aZ p0.aCu
  have:=cQ p0.aCu i32 hl22
  refine Ok.lt fun y37 h24=>?_
  have:=congrArg wt h24
  have:=(aW:wl ([]:LB)=0∧_)
  have:=aZ (p4)
  refine oG fun z25=>?_
  have:=b0 ([]:LB) p4
  have:=bU.wt_eq y37
  have:=aZ (y37.aCm)
  refine oG fun z26=>?_
  have:=b0 (([])++p4) y37.aCm
  exact oB (p3 y37.aCj ((([])++p4)++y37.aCm) v34 bO bO) fun x42 h27=>nY
 intro v34 h21
 exact oS
theorem ai7(n:Nat):bP fun fu=>LE n (nE fu):=by
 induction n with
 |zero=>exact .all fun fu=>fun _ _ _ h=>absurd h (Nat.not_lt_zero _)
 |succ n ih=>exact bP.succ ((ih.and ((bP.ge 2147483648).and dV)).imp fun fu ⟨h,⟨hfu,dV⟩⟩=>fun p0 p4 pE=>by rw [nE];exact agH hfu dV h p0 p4 pE)
theorem L8:bP ahT:=(ai7 8589934592).imp fun fu h p0 p4 pE hpre=>h p0 p4 pE bO hpre
def PT(fu:Nat):Prop:= ∀(pe:aL),wt pe≤67108864→Ok (wQ fu pe) (fun r=>wl r≤wt pe+1)
theorem wF:bP PT:=((bP.ge 2147483648).and L8).imp fun fu ⟨hfu,L8⟩ pe hpre=>by
 have:=(aW:wl ([]:LB)=0∧_)
 exact oB (L8 pe ([]:LB) ([]:LB) bO) fun x2 h1=>oS
def ah0(fu:Nat):Prop:= ∀(pt:aA) (p2:LB),wt pt+wl p2≤67108864→Ok (l6 fu pt p2) (fun _=>True)
theorem gC:bP ah0:=((((bP.ge 2147483648).and wG).and dV).and eJ).imp fun fu ⟨⟨⟨hfu,wG⟩,dV⟩,eJ⟩ pt p2 hpre=>by
 refine oB (wG pt bO) fun x2 h1=>?_;refine G0 ?_ ?_
 ·refine Ok.loop1 ?_;rintro i3 ⟨⟩ hl3
  have:=aZ x2
  have:=cQ x2 i3 hl3
  have:=bA (aR x2 i3)
  exact oB (dV p2 (aR x2 i3)) fun x7 _=>oW (fun _=>oR) fun g6=>nY
 rintro⟨⟩-
 exact oB (eJ pt bO) fun x10 _=>oS
def alE(fu:Nat):Prop:= ∀(p1:List aA) (p2:LB),wl p1+wl p2≤67108864→Ok (AR fu p1 p2) (fun _=>True)
theorem AN:bP alE:=((bP.ge 2147483648).and gC).imp fun fu ⟨hfu,gC⟩ p1 p2 hpre=>by
 refine G0 ?_ ?_
 ·refine Ok.loop1 ?_;rintro i1 ⟨⟩ hl2
  have:=aZ p1
  have:=cQ p1 i1 hl2
  exact oB (gC (aR p1 i1) p2 bO) fun x5 _=>oW (fun _=>oR) fun g5=>nY
 rintro⟨⟩-
 exact oS
def ahZ(fu:Nat):Prop:= ∀(pe:aL),wt pe≤67108864→Ok (MZ fu pe) (fun _=>True)
theorem MC:bP ahZ:=((bP.ge 2147483648).and FN).imp fun fu ⟨hfu,FN⟩ pe hpre=>by
 have:s_.size=0:=rfl
 have:=(aW:wl ([]:List aA)=0∧_)
 have:=aA.wt_mk 0 s_ []
 have:=(aW:wl ([]:List aL)=0∧_)
 have:=(aW:wl ([]:List bU)=0∧_)
 have:=aL.wt_mk 0 s_ s_ 0 (aA.mk 0 s_ []) [] []
 exact oB (FN pe (aL.mk 0 s_ s_ 0 (aA.mk 0 s_ []) [] []) bO) fun x2 _=>oS
def aeD(fu:Nat):Prop:= ∀(p1:LB) (pF:Int),Ok (gJ fu p1 pF) (fun _=>True)
theorem c4:bP aeD:=(((bP.ge 2147483648).and rQ).and eI).imp fun fu ⟨⟨hfu,rQ⟩,eI⟩ p1 pF=>by
 refine oD (fun g1=>?_) fun g1=>?_
 ·refine oB (rQ p1) fun x3 _=>?_;refine oC (fun g3=>?_) fun g3=>?_
  ·exact oB (eI p1) fun x6 _=>oS
  exact oS
 exact oS
def ahW(fu:Nat):Prop:= ∀(pe:aL) (p2:LB),wt pe+wl p2≤67108864→Ok (BU fu pe p2) (fun _=>True)
theorem n9:bP ahW:=((((bP.ge 2147483648).and wF).and dV).and BF).imp fun fu ⟨⟨⟨hfu,wF⟩,dV⟩,BF⟩ pe p2 hpre=>by
 refine oB (wF pe bO) fun x2 h1=>?_;refine G0 ?_ ?_
 ·refine Ok.loop1 ?_;rintro i3 ⟨⟩ hl3
  have:=aZ x2
  have:=cQ x2 i3 hl3
  have:=bA (aR x2 i3)
  exact oB (dV p2 (aR x2 i3)) fun x7 _=>oW (fun _=>oR) fun g6=>nY
 rintro⟨⟩-
 exact oB (BF pe bO) fun x10 _=>oS
def alF(fu:Nat):Prop:= ∀(ps:aE),wt ps≤33554432→Ok (RY fu ps) (fun _=>True)
theorem QM:bP alF:=(((((((bP.ge 2147483648).and bL).and AN).and gC).and MC).and c4).and n9).imp fun fu ⟨⟨⟨⟨⟨⟨hfu,bL⟩,AN⟩,gC⟩,MC⟩,c4⟩,n9⟩ ps hpre=>by
 have:=aE.wt_eq ps
 refine oB (bL ps.aB9) fun x2 _=>oW (fun _=>oS) fun g2=>?_
 have:=aZ ps.aCt
 refine oD (fun _=>oS) fun g3=>?_
 have:kA.size=4:=rfl
 have:=b9 kA
 have:=bA kA
 refine oB (AN ps.aCt ([kA]:LB) bO) fun x6 _=>oW (fun _=>oS) fun g5=>oB (gC ps.aCr ([kA]:LB) bO) fun x9 _=>oW (fun _=>oS) fun g7=>?_;refine oW (fun g8=>?_) fun g8=>?_
 ·have:=aZ ps.aCm
  refine oD (fun g9=>?_) fun g9=>?_
  ·exact oB (MC ps.aCj bO) fun x14 _=>oS
  exact oS
 refine oB (c4 ps.aCm 5) fun x16 _=>?_;refine oC (fun g12=>?_) fun g12=>?_
 ·have:=aZ ps.aCm
  have:=eL ((ps.aCt.length:Int)+1)
  refine oD (fun g13=>?_) fun g13=>?_
  ·exact oB (n9 ps.aCj ps.aCm bO) fun x20 _=>oS
  exact oS
 exact oS
def S7(fu:Nat):Prop:= ∀(pt:aU),wt pt≤16777216→Ok (tR fu pt) (fun _=>True)
theorem mG:bP S7:=((((bP.ge 2147483648).and QM).and bL).and c4).imp fun fu ⟨⟨⟨hfu,QM⟩,bL⟩,c4⟩ pt hpre=>by
 have:=(aW:wl ([]:LB)=0∧_)
 have:=aU.wt_eq pt
 refine QX pt.aCv 1 (fun i1 v3 hl2 hI3 _ _=>?_) ?_
 ·have:=aZ pt.aCv
  have:=cQ pt.aCv i1 hl2
  refine Ok.lt fun y6 h4=>?_
  have:=congrArg wt h4
  refine oB (QM y6 bO) fun x9 _=>oW (fun _=>oR) fun g6=>?_
  have:=aZ (v3)
  have:=aE.wt_eq y6
  have:=b9 y6.aB9
  have:=bA y6.aB9
  refine oG fun z7=>?_
  have:=b0 v3 ([y6.aB9]:LB)
  exact nY
 intro v3 h1
 refine oC (fun g8=>?_) fun g8=>?_
 ·refine oC (fun _=>oS) fun g9=>oD (fun _=>oS) fun g10=>oD (fun _=>oS) fun g11=>oB (bL pt.aB9) fun x17 _=>?_;refine oC (fun g13=>?_) fun g13=>?_
  ·refine oB (c4 pt.aCi 4) fun x20 _=>?_;refine oC (fun g15=>?_) fun g15=>?_
   ·exact oB (c4 v3 6) fun x23 _=>oS
   exact oS
  exact oS
 refine oB (bL pt.aB9) fun x25 _=>?_;refine oC (fun g18=>?_) fun g18=>?_
 ·refine oB (c4 pt.aCi 4) fun x28 _=>?_;refine oC (fun g20=>?_) fun g20=>?_
  ·exact oB (c4 v3 6) fun x31 _=>oS
  exact oS
 exact oS
def LJ(fu:Nat):Prop:= ∀(pd:aN),wt pd≤16777216→Ok (j8 fu pd) (fun _=>True)
theorem jY:bP LJ:=((((bP.ge 2147483648).and AN).and bL).and c4).imp fun fu ⟨⟨⟨hfu,AN⟩,bL⟩,c4⟩ pd hpre=>by
 have:=(aW:wl ([]:LB)=0∧_)
 have:=aN.wt_eq pd
 refine QX pd.aCe 1 (fun i1 v3 hl2 hI3 _ _=>?_) ?_
 ·have:=aZ pd.aCe
  have:=cQ pd.aCe i1 hl2
  have:=aD.wt_eq (aR pd.aCe i1)
  have:=aZ ((aR pd.aCe i1).aCs)
  refine oD (fun _=>oR) fun g4=>oB (AN ((aR pd.aCe i1).aCs) pd.aCm bO) fun x8 _=>oW (fun _=>oR) fun g6=>?_
  have:=aZ (v3)
  have:=b9 ((aR pd.aCe i1).aB9)
  have:=bA ((aR pd.aCe i1).aB9)
  refine oG fun z7=>?_
  have:=b0 v3 ([((aR pd.aCe i1).aB9)]:LB)
  exact nY
 intro v3 h1
 refine oB (bL pd.aB9) fun x12 _=>?_;refine oC (fun g9=>?_) fun g9=>?_
 ·refine oB (c4 pd.aCm 3) fun x15 _=>?_;refine oC (fun g11=>?_) fun g11=>?_
  ·refine oD (fun g12=>?_) fun g12=>?_
   ·exact oB (c4 v3 5) fun x19 _=>oS
   exact oS
  exact oS
 exact oS
def S5(fu:Nat):Prop:= ∀(pb:aG),wt pb≤33554432→Ok (y2 fu pb) (fun _=>True)
theorem yS:bP S5:=(((bP.ge 2147483648).and bL).and eJ).imp fun fu ⟨⟨hfu,bL⟩,eJ⟩ pb hpre=>by
 have:=aG.wt_eq pb
 refine oB (bL pb.aCg) fun x2 _=>?_;refine oC (fun g2=>?_) fun g2=>?_
 ·exact oB (eJ pb.aCd bO) fun x5 _=>oS
 exact oS
def aeC(fu:Nat):Prop:= ∀(p1:List aG) (p2:LB),wl p1+wl p2≤33554432→Ok (uL fu p1 p2) (fun _=>True)
theorem uF:bP aeC:=((((bP.ge 2147483648).and yS).and gC).and lP).imp fun fu ⟨⟨⟨hfu,yS⟩,gC⟩,lP⟩ p1 p2 hpre=>by
 refine G0 ?_ ?_
 ·refine Ok.loop1 ?_;rintro i1 ⟨⟩ hl2
  have:=aZ p1
  have:=cQ p1 i1 hl2
  refine oB (yS (aR p1 i1) bO) fun x5 _=>oW (fun _=>oR) fun g5=>?_
  have:=aG.wt_eq (aR p1 i1)
  exact oB (gC ((aR p1 i1).aCd) p2 bO) fun x8 _=>oW (fun _=>oR) fun g7=>oB (lP ((aR p1 i1).aCd) bO) fun x11 _=>oC (fun _=>oR) fun g9=>nY
 rintro⟨⟩-
 exact oS
def LM(fu:Nat):Prop:= ∀(p0:aI),wt p0≤16777216→Ok (j9 fu p0) (fun _=>True)
theorem j0:bP LM:=(((((((((bP.ge 2147483648).and bL).and c4).and gC).and lP).and uF).and H7).and lY).and n9).imp fun fu ⟨⟨⟨⟨⟨⟨⟨⟨hfu,bL⟩,c4⟩,gC⟩,lP⟩,uF⟩,H7⟩,lY⟩,n9⟩ p0 hpre=>by
 have:=aI.wt_eq p0
 refine oB (bL p0.aCg) fun x2 _=>oW (fun _=>oS) fun g2=>oB (c4 p0.aCm 3) fun x5 _=>oW (fun _=>oS) fun g4=>oB (gC p0.aCn p0.aCm bO) fun x8 _=>oW (fun _=>oS) fun g6=>oB (lP p0.aCn bO) fun x11 _=>oC (fun _=>oS) fun g8=>?_
 have:=aA.wt_eq p0.aCn
 refine oD (fun _=>oS) fun g9=>oB (uF p0.aCq p0.aCm bO) fun x15 _=>oW (fun _=>oS) fun g11=>?_;refine G0 ?_ ?_
 ·refine Ok.loop1 ?_;rintro i17 ⟨⟩ hl13
  have:=aZ p0.aCm
  have:=cQ p0.aCm i17 hl13
  have:=bA (aR p0.aCm i17)
  exact oB (H7 (aR p0.aCm i17) p0.aCn bO) fun x21 _=>oW (fun _=>oR) fun g16=>nY
 rintro⟨⟩-
 refine G0 ?_ ?_
 ·refine oC (fun g18=>?_) fun g18=>?_
  ·exact oB (gC p0.aCp p0.aCm bO) fun x25 _=>oW (fun _=>oL) fun g20=>oI
  exact oB (lY p0.aCp) fun x28 _=>oW (fun _=>oL) fun g22=>oI
 rintro⟨⟩-
 have:=(aW:wl ([]:LB)=0∧_)
 refine QX p0.aCA 1 (fun i30 v32 hl24 hI25 _ _=>?_) ?_
 ·have:=aZ p0.aCA
  have:=cQ p0.aCA i30 hl24
  refine Ok.lt fun y35 h26=>?_
  have:=congrArg wt h26
  have:=aQ.wt_eq y35
  have:=aZ y35.aCm
  refine oD (fun _=>oR) fun g27=>oB (c4 y35.aCm 5) fun x39 _=>oW (fun _=>oR) fun g29=>oB (n9 y35.aCj y35.aCm bO) fun x42 _=>oW (fun _=>oR) fun g31=>?_
  have:=aZ (v32)
  have:=b9 y35.aB9
  have:=bA y35.aB9
  refine oG fun z32=>?_
  have:=b0 v32 ([y35.aB9]:LB)
  exact nY
 intro v32 h23
 exact oB (c4 v32 6) fun x46 _=>oS
def LL(fu:Nat):Prop:= ∀(pf:aO),wt pf≤16777216→Ok (oM fu pf) (fun _=>True)
theorem jZ:bP LL:=((((((bP.ge 2147483648).and gC).and bL).and c4).and uF).and n9).imp fun fu ⟨⟨⟨⟨⟨hfu,gC⟩,bL⟩,c4⟩,uF⟩,n9⟩ pf hpre=>by
 have:=(aW:wl ([]:LB)=0∧_)
 have:=aO.wt_eq pf
 refine QX pf.aCt 1 (fun i1 v3 hl2 hI3 _ _=>?_) ?_
 ·have:=aZ pf.aCt
  have:=cQ pf.aCt i1 hl2
  have:=aV.wt_eq (aR pf.aCt i1)
  refine oB (gC ((aR pf.aCt i1).aCd) pf.aCm bO) fun x7 _=>oW (fun _=>oR) fun g5=>?_
  have:=aZ (v3)
  have:=b9 ((aR pf.aCt i1).aB9)
  have:=bA ((aR pf.aCt i1).aB9)
  refine oG fun z6=>?_
  have:=b0 v3 ([((aR pf.aCt i1).aB9)]:LB)
  exact nY
 intro v3 h1
 refine oB (bL pf.aB9) fun x11 _=>?_;refine oC (fun g8=>?_) fun g8=>?_
 ·refine oB (c4 pf.aCm 3) fun x14 _=>?_;refine oC (fun g10=>?_) fun g10=>?_
  ·refine oB (uF pf.aCq pf.aCm bO) fun x17 _=>?_;refine oC (fun g12=>?_) fun g12=>?_
   ·refine oB (c4 v3 5) fun x20 _=>?_;refine oC (fun g14=>?_) fun g14=>?_
    ·refine oB (gC pf.aCr pf.aCm bO) fun x23 _=>?_;refine oC (fun g16=>?_) fun g16=>?_
     ·exact oB (n9 pf.aCj v3 bO) fun x26 _=>oS
     exact oS
    exact oS
   exact oS
  exact oS
 exact oS
end Go.Proofs.YtfcoaagbccmahaaGreat.W

namespace Go.Proofs.YtfcoaagbccmahaaGreat.W
set_option maxRecDepth 20000
set_option maxHeartbeats 4000000
open Go.RowKit Go.WalkArith Go.IntWalk
attribute [local irreducible] wt wl
def anH(fu:Nat):Prop:= ∀(px:aB) (pi:Int),0≤pi∧wt px≤1073741824→Ok (dJ fu px pi) (fun r=>wt r≤wt px)
theorem cD:bP anH:=(bP.ge 2147483648).imp fun fu hfu px pi hpre=>by
 have:=aB.wt_eq px
 have:=aZ px.aCc
 refine oD (fun g1=>?_) fun g1=>?_
 ·have:s_.size=0:=rfl
  have:=(aW:wl ([]:List aB)=0∧_)
  have:=aB.wt_mk s_ []
  exact oS
 have:=aZ (px.aCc)
 refine oG fun z2=>?_
 have:=cQ px.aCc ((pi).toNat) z2.2
 exact oS
def aeE(fu:Nat):Prop:= ∀(px:aB),wt px≤1073741824→Ok (m5 fu px) (fun r=>wl r≤wt px)
theorem gD:bP aeE:=((bP.ge 2147483648).and iP).imp fun fu ⟨hfu,iP⟩ px hpre=>by
 have:=aB.wt_eq px
 refine vS (iP px.aCc bO) fun x2 x3 h1=>?_
 dsimp only at h1
 exact oS
def ah1(fu:Nat):Prop:= ∀(px:aB) (pi:Int),0≤pi→Ok (wW fu px pi) (fun r=>wl r≤wl px.aCc)
theorem nA:bP ah1:=((bP.ge 2147483648).and jF).imp fun fu ⟨hfu,jF⟩ px pi hpre=>by
 have:=aB.wt_eq px
 have:=aZ px.aCc
 refine oB (jF pi (px.aCc.length:Int)) fun x2 h1=>oG fun z2=>?_
 have:=UM (x2:Int).toNat (px.aCc.length:Int).toNat px.aCc
 exact oS
def alG(fu:Nat):Prop:= ∀(p0:List aB),wl p0≤67108864→Ok (JS fu p0) (fun r=>wl r≤2*wl p0)
theorem AO:bP alG:=((bP.ge 2147483648).and iB).imp fun fu ⟨hfu,iB⟩ p0 hpre=>by
 have:=(aW:wl ([]:List aA)=0∧_)
 refine QX p0 2 (fun i1 v3 hl2 hI3 _ _=>?_) ?_
 ·have:=aZ p0
  have:=cQ p0 i1 hl2
  refine oB (iB (aR p0 i1) bO) fun x7 h4=>?_
  have:=aZ (v3)
  have:=b9 x7
  refine oG fun z5=>?_
  have:=b0 v3 ([x7]:List aA)
  exact nY
 intro v3 h1
 exact oS
def aeH(fu:Nat):Prop:= ∀(p0:LB),wl p0≤1073741824→Ok (lL fu p0) (fun r=>wt r≤wl p0)
theorem fT:bP aeH:=((bP.ge 2147483648).and nB).imp fun fu ⟨hfu,nB⟩ p0 hpre=>by
 refine oB (nB p0 bO) fun x2 h1=>?_
 have:s_.size=0:=rfl
 have:=aB.wt_mk s_ x2
 exact oS
def aeF(fu:Nat):Prop:= ∀(p0:List aA),wl p0≤33554432→Ok (C0 fu p0) (fun r=>wl r≤8*wl p0)
theorem uG:bP aeF:=((bP.ge 2147483648).and iZ).imp fun fu ⟨hfu,iZ⟩ p0 hpre=>by
 have:=(aW:wl ([]:List aB)=0∧_)
 refine QX p0 8 (fun i1 v3 hl2 hI3 _ _=>?_) ?_
 ·have:=aZ p0
  have:=cQ p0 i1 hl2
  refine oB (iZ (aR p0 i1) bO) fun x7 h4=>?_
  have:=aZ (v3)
  have:=b9 x7
  refine oG fun z5=>?_
  have:=b0 v3 ([x7]:List aB)
  exact nY
 intro v3 h1
 exact oS
def anI(fu:Nat):Prop:= ∀(p3:Bool) (px:aB),wt px≤1073741824→Ok (EY fu p3 px) (fun r=>wt r≤wt px)
theorem pT:bP anI:=((bP.ge 2147483648).and cM).imp fun fu ⟨hfu,cM⟩ p3 px hpre=>by
 refine oW (fun g1=>?_) fun g1=>?_
 ·have:s_.size=0:=rfl
  have:=(aW:wl ([]:List aB)=0∧_)
  have:=aB.wt_mk s_ []
  exact oS
 refine oB (cM px bO) fun x3 _=>?_;refine oW (fun g3=>?_) fun g3=>?_
 ·have:s_.size=0:=rfl
  have:=(aW:wl ([]:List aB)=0∧_)
  have:=aB.wt_mk s_ []
  exact oS
 exact oS
def TB(fu:Nat):Prop:= ∀(p1:aU),wt p1≤1048576→(∀a∈p1.aCv,LA a.aCj)→Ok (zB fu p1) (fun r=>wt r≤64*wt p1+64)
theorem yX:bP TB:=(((((((((bP.ge 2147483648).and mG).and bM).and fT).and eO).and uG).and iZ).and vA).and pT).imp fun fu ⟨⟨⟨⟨⟨⟨⟨⟨hfu,mG⟩,bM⟩,fT⟩,eO⟩,uG⟩,iZ⟩,vA⟩,pT⟩ p1 hpre hB=>by
 refine oB (mG p1 bO) fun x2 _=>?_;refine oW (fun g2=>?_) fun g2=>?_
 ·have:s_.size=0:=rfl
  have:=(aW:wl ([]:List aB)=0∧_)
  have:=aB.wt_mk s_ []
  exact oS
 refine Ok.sok (E:=fun v5=>wl v5≤5) ?_ ?_
 ·have:=aU.wt_eq p1
  refine oC (fun g4=>?_) fun g4=>?_
  ·have:=(aW:wl ([]:LB)=0∧_)
   have:BS.size=4:=rfl
   have:=b9 BS
   have:=bA BS
   refine oG fun z5=>?_
   have:=b0 ([]:LB) ([BS]:LB)
   exact oI
  have:=(aW:wl ([]:LB)=0∧_)
  exact oI
 intro v5 h3
 refine Ok.sok (E:=fun v9=>wl v9≤11) ?_ ?_
 ·have:=aU.wt_eq p1
  refine oC (fun g7=>?_) fun g7=>?_
  ·have:=aZ (v5)
   have:fM.size=5:=rfl
   have:=b9 fM
   have:=bA fM
   refine oG fun z8=>?_
   have:=b0 v5 ([fM]:LB)
   exact oI
  exact oI
 intro v9 h6
 have:JP.size=5:=rfl
 refine oB (bM JP) fun x13 h9=>?_
 have:=aU.wt_eq p1
 refine oB (bM p1.aB9) fun x15 h10=>oB (fT p1.aCi bO) fun x17 h11=>oB (fT v9 bO) fun x19 h12=>?_
 have:=av8 x13 x15 x17 x19
 refine oB (eO ([x13,x15,x17,x19]:List aB) bO) fun x21 h13=>?_
 have:=aB.wt_eq x21
 refine QX p1.aCv 64 (fun i22 v24 hl15 hI16 _ _=>?_) ?_
 ·have:=aZ p1.aCv
  have:=cQ p1.aCv i22 hl15
  refine Ok.lt fun y27 h17=>?_
  have:=congrArg wt h17
  have:=aE.wt_eq y27
  refine oB (bM y27.aB9) fun x30 h18=>oB (uG y27.aCt bO) fun x32 h19=>oB (iZ y27.aCr bO) fun x34 h20=>?_
  have:s_.size=0:=rfl
  have:=aB.wt_mk s_ x32
  have:=EP x30 (aB.mk s_ x32) x34
  refine oB (eO ([x30,(aB.mk s_ x32),x34]:List aB) bO) fun x36 h21=>?_;refine oC (fun g22=>?_) fun g22=>?_
  ·refine oB (fT y27.aCm bO) fun x39 h23=>oB (vA y27.aCj bO (by rw [show y27=aR p1.aCv i22 by assumption];exact abL hB (by assumption))) fun x41 h24=>?_
   have:=aB.wt_eq x36
   have:=aZ (x36.aCc)
   have:=kQ x39 x41
   refine oG fun z25=>?_
   have:=aZ (v24)
   have:=b0 x36.aCc ([x39,x41]:List aB)
   have:=aB.wt_mk x36.aCf (x36.aCc++([x39,x41]:List aB))
   have:=b9 (aB.mk x36.aCf (x36.aCc++([x39,x41]:List aB)))
   refine oG fun z26=>?_
   have:=b0 v24 ([(aB.mk x36.aCf (x36.aCc++([x39,x41]:List aB)))]:List aB)
   exact nY
  have:=aZ (v24)
  have:=aB.wt_eq x36
  have:=aB.wt_mk x36.aCf x36.aCc
  have:=b9 (aB.mk x36.aCf x36.aCc)
  refine oG fun z27=>?_
  have:=b0 v24 ([(aB.mk x36.aCf x36.aCc)]:List aB)
  exact nY
 intro v24 h14
 have:=aB.wt_mk x21.aCf v24
 exact oB (pT true (aB.mk x21.aCf v24) bO) fun x46 h28=>oS
def TA(fu:Nat):Prop:= ∀(p1:aB),wt p1≤65536→Ok (zA fu p1) (fun r=>wt r.1≤16*wt p1)
theorem yW:bP TA:=(((((((((((bP.ge 2147483648).and cD).and gD).and dV).and nA).and AO).and iB).and n8).and cM).and yX).and gL).imp fun fu ⟨⟨⟨⟨⟨⟨⟨⟨⟨⟨hfu,cD⟩,gD⟩,dV⟩,nA⟩,AO⟩,iB⟩,n8⟩,cM⟩,yX⟩,gL⟩ p1 hpre=>by
 refine oB (cD p1 3 bO) fun x2 h1=>oB (gD x2 bO) fun x4 h2=>oB (cD p1 1 bO) fun x6 h3=>oB (cD p1 2 bO) fun x8 h4=>oB (gD x8 bO) fun x10 h5=>?_
 have:BS.size=4:=rfl
 refine oB (dV x4 BS) fun x12 _=>?_
 have:fM.size=5:=rfl
 refine oB (dV x4 fM) fun x14 _=>?_
 have:=aB.wt_eq p1
 refine oB (nA p1 4 bO) fun x16 h8=>?_
 have:=(aW:wl ([]:List aE)=0∧_)
 refine apS (PA:=fun a=>LA a.aCj) x16 8 (fun i17 v19 hl10 hI11 hI11B _ _=>?_) ?_
 ·have:=aZ x16
  have:=cQ x16 i17 hl10
  refine oB (cD (aR x16 i17) 0 bO) fun x23 h12=>oB (cD (aR x16 i17) 1 bO) fun x25 h13=>?_
  have:=aB.wt_eq x25
  refine oB (AO x25.aCc bO) fun x27 h14=>oB (cD (aR x16 i17) 2 bO) fun x29 h15=>oB (iB x29 bO) fun x31 h16=>?_
  have:=aB.wt_eq (aR x16 i17)
  have:=aZ ((aR x16 i17).aCc)
  refine oD (fun g17=>?_) fun g17=>?_
  ·refine oB (cD (aR x16 i17) 3 bO) fun x34 h18=>oB (gD x34 bO) fun x36 h19=>oB (cD (aR x16 i17) 4 bO) fun x38 h20=>SQ (n8 x38 bO) fun x40 h21 h21B=>?_
   have:=aZ (v19)
   have:=aB.wt_eq x23
   have:=aE.wt_mk x23.aCf x27 x31 true x36 x40
   have:=b9 (aE.mk x23.aCf x27 x31 true x36 x40)
   refine oG fun z22=>?_
   have:=b0 v19 ([(aE.mk x23.aCf x27 x31 true x36 x40)]:List aE)
   exact oX hI11B
  have:=aZ (v19)
  have:=aB.wt_eq x23
  have:s_.size=0:=rfl
  have:=(aW:wl ([]:List aA)=0∧_)
  have:=aA.wt_mk 0 s_ []
  have:=(aW:wl ([]:List aL)=0∧_)
  have:=(aW:wl ([]:List bU)=0∧_)
  have:=aL.wt_mk 0 s_ s_ 0 (aA.mk 0 s_ []) [] []
  have:=(aW:wl ([]:LB)=0∧_)
  have:=aE.wt_mk x23.aCf x27 x31 false [] (aL.mk 0 s_ s_ 0 (aA.mk 0 s_ []) [] [])
  have:=b9 (aE.mk x23.aCf x27 x31 false [] (aL.mk 0 s_ s_ 0 (aA.mk 0 s_ []) [] []))
  refine oG fun z23=>?_
  have:=b0 v19 ([(aE.mk x23.aCf x27 x31 false [] (aL.mk 0 s_ s_ 0 (aA.mk 0 s_ []) [] []))]:List aE)
  exact oX hI11B
 rintro v19 ⟨h9,h9B⟩
 refine oB (cM p1 bO) fun x44 _=>?_;refine oW (fun g25=>?_) fun g25=>?_
 ·have:s_.size=0:=rfl
  have:=(aW:wl ([]:LB)=0∧_)
  have:=aU.wt_mk s_ [] false false []
  exact oS
 have:=aZ p1.aCc
 refine oD (fun g26=>?_) fun g26=>?_
 ·have:s_.size=0:=rfl
  have:=(aW:wl ([]:LB)=0∧_)
  have:=aU.wt_mk s_ [] false false []
  exact oS
 have:=aB.wt_eq x6
 have:=aU.wt_mk x6.aCf x10 x12 x14 v19
 refine oB (yX (aU.mk x6.aCf x10 x12 x14 v19) bO (by first|assumption|trivial)) fun x48 h27=>oB (gL x48 p1 bO) fun x50 _=>?_;refine oW (fun g29=>?_) fun g29=>?_
 ·have:s_.size=0:=rfl
  have:=(aW:wl ([]:LB)=0∧_)
  have:=aU.wt_mk s_ [] false false []
  exact oS
 exact oS
def LG(fu:Nat):Prop:= ∀(pd:aN),wt pd≤1048576→Ok (t0 fu pd) (fun r=>wt r≤64*wt pd+64)
theorem tU:bP LG:=(((((((bP.ge 2147483648).and bM).and fT).and eO).and uG).and jY).and pT).imp fun fu ⟨⟨⟨⟨⟨⟨hfu,bM⟩,fT⟩,eO⟩,uG⟩,jY⟩,pT⟩ pd hpre=>by
 have:RR.size=4:=rfl
 refine oB (bM RR) fun x2 h1=>?_
 have:=aN.wt_eq pd
 refine oB (bM pd.aB9) fun x4 h2=>oB (fT pd.aCm bO) fun x6 h3=>?_
 have:=EP x2 x4 x6
 refine oB (eO ([x2,x4,x6]:List aB) bO) fun x8 h4=>?_
 have:=aB.wt_eq x8
 refine QX pd.aCe 64 (fun i9 v11 hl6 hI7 _ _=>?_) ?_
 ·have:=aZ pd.aCe
  have:=cQ pd.aCe i9 hl6
  have:=aD.wt_eq (aR pd.aCe i9)
  refine oB (bM ((aR pd.aCe i9).aB9)) fun x15 h8=>oB (uG ((aR pd.aCe i9).aCs) bO) fun x17 h9=>?_
  have:=b9 x15
  have:=aZ (x17)
  refine oG fun z10=>?_
  have:=aZ (v11)
  have:s_.size=0:=rfl
  have:=b0 ([x15]:List aB) x17
  have:=aB.wt_mk s_ (([x15]:List aB)++x17)
  have:=b9 (aB.mk s_ (([x15]:List aB)++x17))
  refine oG fun z11=>?_
  have:=b0 v11 ([(aB.mk s_ (([x15]:List aB)++x17))]:List aB)
  exact nY
 intro v11 h5
 refine oB (jY pd bO) fun x21 _=>?_
 have:=aB.wt_mk x8.aCf v11
 exact oB (pT x21 (aB.mk x8.aCf v11) bO) fun x23 h13=>oS
def LN(fu:Nat):Prop:= ∀(px:aB),wt px≤65536→Ok (t4 fu px) (fun r=>wt r.1≤16*wt px)
theorem tX:bP LN:=((((((((bP.ge 2147483648).and cD).and gD).and nA).and AO).and cM).and tU).and gL).imp fun fu ⟨⟨⟨⟨⟨⟨⟨hfu,cD⟩,gD⟩,nA⟩,AO⟩,cM⟩,tU⟩,gL⟩ px hpre=>by
 refine oB (cD px 1 bO) fun x2 h1=>oB (cD px 2 bO) fun x4 h2=>oB (gD x4 bO) fun x6 h3=>?_
 have:=aB.wt_eq px
 refine oB (nA px 3 bO) fun x8 h4=>?_
 have:=(aW:wl ([]:List aD)=0∧_)
 refine QX x8 4 (fun i9 v11 hl6 hI7 _ _=>?_) ?_
 ·have:=aZ x8
  have:=cQ x8 i9 hl6
  refine oB (cD (aR x8 i9) 0 bO) fun x15 h8=>?_
  have:=aB.wt_eq (aR x8 i9)
  refine oB (nA (aR x8 i9) 1 bO) fun x17 h9=>oB (AO x17 bO) fun x19 h10=>?_
  have:=aZ (v11)
  have:=aB.wt_eq x15
  have:=aD.wt_mk x15.aCf x19
  have:=b9 (aD.mk x15.aCf x19)
  refine oG fun z11=>?_
  have:=b0 v11 ([(aD.mk x15.aCf x19)]:List aD)
  exact nY
 intro v11 h5
 refine oB (cM px bO) fun x22 _=>?_;refine oW (fun g13=>?_) fun g13=>?_
 ·have:s_.size=0:=rfl
  have:=(aW:wl ([]:LB)=0∧_)
  have:=aN.wt_mk s_ [] []
  exact oS
 have:=aZ px.aCc
 refine oD (fun g14=>?_) fun g14=>?_
 ·have:s_.size=0:=rfl
  have:=(aW:wl ([]:LB)=0∧_)
  have:=aN.wt_mk s_ [] []
  exact oS
 have:=aB.wt_eq x2
 have:=aN.wt_mk x2.aCf x6 v11
 refine oB (tU (aN.mk x2.aCf x6 v11) bO) fun x26 h15=>oB (gL x26 px bO) fun x28 _=>?_;refine oW (fun g17=>?_) fun g17=>?_
 ·have:s_.size=0:=rfl
  have:=(aW:wl ([]:LB)=0∧_)
  have:=aN.wt_mk s_ [] []
  exact oS
 exact oS
def abH(fu:Nat):Prop:= ∀(px:aB),wt px≤33554432→Ok (AB fu px) (fun r=>wl r≤4*wt px)
theorem sI:bP abH:=(((bP.ge 2147483648).and cD).and iB).imp fun fu ⟨⟨hfu,cD⟩,iB⟩ px hpre=>by
 have:=(aW:wl ([]:List aG)=0∧_)
 have:=aB.wt_eq px
 refine QX px.aCc 4 (fun i1 v3 hl2 hI3 _ _=>?_) ?_
 ·have:=aZ px.aCc
  have:=cQ px.aCc i1 hl2
  refine oB (cD (aR px.aCc i1) 0 bO) fun x7 h4=>oB (cD (aR px.aCc i1) 1 bO) fun x9 h5=>oB (iB x9 bO) fun x11 h6=>?_
  have:=aZ (v3)
  have:=aB.wt_eq x7
  have:=aG.wt_mk x7.aCf x11
  have:=b9 (aG.mk x7.aCf x11)
  refine oG fun z7=>?_
  have:=b0 v3 ([(aG.mk x7.aCf x11)]:List aG)
  exact nY
 intro v3 h1
 exact oS
def aeG(fu:Nat):Prop:= ∀(p0:List aG),wl p0≤16777216→Ok (C1 fu p0) (fun r=>wt r≤16*wl p0)
theorem uH:bP aeG:=((((bP.ge 2147483648).and bM).and iZ).and eO).imp fun fu ⟨⟨⟨hfu,bM⟩,iZ⟩,eO⟩ p0 hpre=>by
 have:=(aW:wl ([]:List aB)=0∧_)
 refine QX p0 16 (fun i1 v3 hl2 hI3 _ _=>?_) ?_
 ·have:=aZ p0
  have:=cQ p0 i1 hl2
  have:=aG.wt_eq (aR p0 i1)
  refine oB (bM ((aR p0 i1).aCg)) fun x7 h4=>oB (iZ ((aR p0 i1).aCd) bO) fun x9 h5=>?_
  have:=kQ x7 x9
  refine oB (eO ([x7,x9]:List aB) bO) fun x11 h6=>?_
  have:=aZ (v3)
  have:=b9 x11
  refine oG fun z7=>?_
  have:=b0 v3 ([x11]:List aB)
  exact nY
 intro v3 h1
 have:s_.size=0:=rfl
 have:=aB.wt_mk s_ v3
 exact oS
def LI(fu:Nat):Prop:= ∀(p1:aI),wt p1≤1048576→(∀a∈p1.aCA,LA a.aCj)→Ok (t3 fu p1) (fun r=>wt r≤64*wt p1+128)
theorem tW:bP LI:=(((((((((bP.ge 2147483648).and j0).and iZ).and eO).and bM).and fT).and uH).and vA).and pT).imp fun fu ⟨⟨⟨⟨⟨⟨⟨⟨hfu,j0⟩,iZ⟩,eO⟩,bM⟩,fT⟩,uH⟩,vA⟩,pT⟩ p1 hpre hB=>by
 refine oB (j0 p1 bO) fun x2 _=>?_;refine oW (fun g2=>?_) fun g2=>?_
 ·have:s_.size=0:=rfl
  have:=(aW:wl ([]:List aB)=0∧_)
  have:=aB.wt_mk s_ []
  exact oS
 refine Ok.sok (E:=fun v5=>wl v5≤8) ?_ ?_
 ·have:=aI.wt_eq p1
  refine oC (fun g4=>?_) fun g4=>?_
  ·have:=(aW:wl ([]:LB)=0∧_)
   have:wR.size=7:=rfl
   have:=b9 wR
   have:=bA wR
   refine oG fun z5=>?_
   have:=b0 ([]:LB) ([wR]:LB)
   exact oI
  have:=(aW:wl ([]:LB)=0∧_)
  exact oI
 intro v5 h3
 have:=aI.wt_eq p1
 refine Ok.sok (E:=fun(v8,v9)=>v8.size+wl v9≤8*wt p1.aCp+16) ?_ ?_
 ·refine oC (fun g7=>?_) fun g7=>?_
  ·refine oB (iZ p1.aCp bO) fun x12 h8=>?_
   have:=b9 x12
   refine oB (eO ([x12]:List aB) bO) fun x14 h9=>?_
   have:=aB.wt_eq x14
   exact oI
  have:s_.size=0:=rfl
  have:=(aW:wl ([]:List aB)=0∧_)
  exact oI
 rintro⟨v8,v9⟩ h6
 dsimp only at h6
 have:RS.size=4:=rfl
 refine oB (bM RS) fun x16 h10=>oB (bM p1.aCg) fun x18 h11=>oB (fT p1.aCm bO) fun x20 h12=>oB (iZ p1.aCn bO) fun x22 h13=>oB (uH p1.aCq bO) fun x24 h14=>oB (fT v5 bO) fun x26 h15=>?_
 have:=aB.wt_mk v8 v9
 have:=asX x16 x18 x20 x22 x24 x26 (aB.mk v8 v9)
 refine oB (eO ([x16,x18,x20,x22,x24,x26,(aB.mk v8 v9)]:List aB) bO) fun x28 h16=>?_
 have:=aB.wt_eq x28
 refine QX p1.aCA 64 (fun i29 v31 hl18 hI19 _ _=>?_) ?_
 ·have:=aZ p1.aCA
  have:=cQ p1.aCA i29 hl18
  refine Ok.lt fun y34 h20=>?_
  have:=congrArg wt h20
  have:=aQ.wt_eq y34
  refine oB (bM y34.aB9) fun x37 h21=>oB (fT y34.aCm bO) fun x39 h22=>oB (vA y34.aCj bO (by rw [show y34=aR p1.aCA i29 by assumption];exact abL hB (by assumption))) fun x41 h23=>?_
  have:=EP x37 x39 x41
  refine oB (eO ([x37,x39,x41]:List aB) bO) fun x43 h24=>?_
  have:=aZ (v31)
  have:=aB.wt_eq x43
  have:=aB.wt_mk x43.aCf x43.aCc
  have:=b9 (aB.mk x43.aCf x43.aCc)
  refine oG fun z25=>?_
  have:=b0 v31 ([(aB.mk x43.aCf x43.aCc)]:List aB)
  exact nY
 intro v31 h17
 have:=aB.wt_mk x28.aCf v31
 exact oB (pT true (aB.mk x28.aCf v31) bO) fun x46 h26=>oS
def LP(fu:Nat):Prop:= ∀(p1:aB),wt p1≤65536→Ok (t6 fu p1) (fun r=>wt r.1≤16*wt p1)
theorem tZ:bP LP:=((((((((((bP.ge 2147483648).and cD).and gD).and iB).and sI).and nA).and n8).and cM).and tW).and gL).imp fun fu ⟨⟨⟨⟨⟨⟨⟨⟨⟨hfu,cD⟩,gD⟩,iB⟩,sI⟩,nA⟩,n8⟩,cM⟩,tW⟩,gL⟩ p1 hpre=>by
 refine oB (cD p1 1 bO) fun x2 h1=>oB (cD p1 2 bO) fun x4 h2=>oB (gD x4 bO) fun x6 h3=>oB (cD p1 3 bO) fun x8 h4=>oB (iB x8 bO) fun x10 h5=>oB (cD p1 4 bO) fun x12 h6=>oB (sI x12 bO) fun x14 h7=>oB (cD p1 5 bO) fun x16 h8=>oB (cD p1 6 bO) fun x18 h9=>?_;refine Ok.sok (E:=fun(v22,v19,v20,v21)=>wl v22+v21.size≤2*wt x18) ?_ ?_
 ·have:=aB.wt_eq x18
  have:=aZ x18.aCc
  refine oD (fun g11=>?_) fun g11=>?_
  ·have:=aZ (x18.aCc)
   refine oG fun z12=>?_
   have:=cQ x18.aCc 0 z12
   have:wl (List.take 1 x18.aCc)=wl (List.take 0 x18.aCc)+wt (aR x18.aCc 0)+1:=K9 x18.aCc 0 z12
   refine oB (iB (aR x18.aCc 0) bO) fun x26 h13=>?_
   have:=aA.wt_eq x26
   exact oI
  have:s_.size=0:=rfl
  have:=(aW:wl ([]:List aA)=0∧_)
  exact oI
 rintro⟨v22,v19,v20,v21⟩ h10
 dsimp only at h10
 have:=aB.wt_eq p1
 refine oB (nA p1 7 bO) fun x28 h14=>?_
 have:=(aW:wl ([]:List aQ)=0∧_)
 refine apS (PA:=fun a=>LA a.aCj) x28 4 (fun i29 v31 hl16 hI17 hI17B _ _=>?_) ?_
 ·have:=aZ x28
  have:=cQ x28 i29 hl16
  refine oB (cD (aR x28 i29) 0 bO) fun x35 h18=>oB (cD (aR x28 i29) 1 bO) fun x37 h19=>oB (gD x37 bO) fun x39 h20=>oB (cD (aR x28 i29) 2 bO) fun x41 h21=>SQ (n8 x41 bO) fun x43 h22 h22B=>?_
  have:=aZ (v31)
  have:=aB.wt_eq x35
  have:=aQ.wt_mk x35.aCf x39 x43
  have:=b9 (aQ.mk x35.aCf x39 x43)
  refine oG fun z23=>?_
  have:=b0 v31 ([(aQ.mk x35.aCf x39 x43)]:List aQ)
  exact oX hI17B
 rintro v31 ⟨h15,h15B⟩
 refine oB (cM p1 bO) fun x46 _=>?_;refine oW (fun g25=>?_) fun g25=>?_
 ·have:s_.size=0:=rfl
  have:=(aW:wl ([]:List aA)=0∧_)
  have:=aA.wt_mk 0 s_ []
  have:=(aW:wl ([]:LB)=0∧_)
  have:=(aW:wl ([]:List aG)=0∧_)
  have:=aI.wt_mk s_ [] (aA.mk 0 s_ []) [] false false (aA.mk 0 s_ []) []
  exact oS
 have:=aZ p1.aCc
 refine oD (fun g26=>?_) fun g26=>?_
 ·have:s_.size=0:=rfl
  have:=(aW:wl ([]:List aA)=0∧_)
  have:=aA.wt_mk 0 s_ []
  have:=(aW:wl ([]:LB)=0∧_)
  have:=(aW:wl ([]:List aG)=0∧_)
  have:=aI.wt_mk s_ [] (aA.mk 0 s_ []) [] false false (aA.mk 0 s_ []) []
  exact oS
 have:=aB.wt_eq x2
 have:=aB.wt_eq x16
 have:=aZ x16.aCc
 have:=aA.wt_mk v20 v21 v22
 have:=aI.wt_mk x2.aCf x6 x10 x14 (decide ((x16.aCc.length:Int)>0)) v19 (aA.mk v20 v21 v22) v31
 refine oB (tW (aI.mk x2.aCf x6 x10 x14 (decide ((x16.aCc.length:Int)>0)) v19 (aA.mk v20 v21 v22) v31) bO (by first|assumption|trivial)) fun x50 h27=>oB (gL x50 p1 bO) fun x52 _=>?_;refine oW (fun g29=>?_) fun g29=>?_
 ·have:s_.size=0:=rfl
  have:=(aW:wl ([]:List aA)=0∧_)
  have:=aA.wt_mk 0 s_ []
  have:=(aW:wl ([]:LB)=0∧_)
  have:=(aW:wl ([]:List aG)=0∧_)
  have:=aI.wt_mk s_ [] (aA.mk 0 s_ []) [] false false (aA.mk 0 s_ []) []
  exact oS
 exact oS
def LH(fu:Nat):Prop:= ∀(pf:aO),wt pf≤1048576→(LA pf.aCj)→Ok (t2 fu pf) (fun r=>wt r≤64*wt pf+128)
theorem tV:bP LH:=(((((((((bP.ge 2147483648).and jZ).and bM).and iZ).and eO).and fT).and uH).and vA).and pT).imp fun fu ⟨⟨⟨⟨⟨⟨⟨⟨hfu,jZ⟩,bM⟩,iZ⟩,eO⟩,fT⟩,uH⟩,vA⟩,pT⟩ pf hpre hB=>by
 refine oB (jZ pf bO) fun x2 _=>?_;refine oW (fun g2=>?_) fun g2=>?_
 ·have:s_.size=0:=rfl
  have:=(aW:wl ([]:List aB)=0∧_)
  have:=aB.wt_mk s_ []
  exact oS
 have:=(aW:wl ([]:List aB)=0∧_)
 have:=aO.wt_eq pf
 refine QX pf.aCt 16 (fun i4 v6 hl4 hI5 _ _=>?_) ?_
 ·have:=aZ pf.aCt
  have:=cQ pf.aCt i4 hl4
  have:=aV.wt_eq (aR pf.aCt i4)
  refine oB (bM ((aR pf.aCt i4).aB9)) fun x10 h6=>oB (iZ ((aR pf.aCt i4).aCd) bO) fun x12 h7=>?_
  have:=kQ x10 x12
  refine oB (eO ([x10,x12]:List aB) bO) fun x14 h8=>?_
  have:=aZ (v6)
  have:=b9 x14
  refine oG fun z9=>?_
  have:=b0 v6 ([x14]:List aB)
  exact nY
 intro v6 h3
 have:amT.size=2:=rfl
 refine oB (bM amT) fun x17 h10=>oB (bM pf.aB9) fun x19 h11=>oB (fT pf.aCm bO) fun x21 h12=>oB (uH pf.aCq bO) fun x23 h13=>oB (iZ pf.aCr bO) fun x25 h14=>oB (vA pf.aCj bO (by first|assumption|trivial)) fun x27 h15=>?_
 have:s_.size=0:=rfl
 have:=aB.wt_mk s_ v6
 have:=asX x17 x19 x21 x23 (aB.mk s_ v6) x25 x27
 exact oB (eO ([x17,x19,x21,x23,(aB.mk s_ v6),x25,x27]:List aB) bO) fun x29 h16=>oB (pT true x29 bO) fun x31 h17=>oS
def LO(fu:Nat):Prop:= ∀(p1:aB),wt p1≤65536→Ok (t5 fu p1) (fun r=>wt r.1≤16*wt p1)
theorem tY:bP LO:=(((((((((bP.ge 2147483648).and cD).and gD).and sI).and iB).and n8).and cM).and tV).and gL).imp fun fu ⟨⟨⟨⟨⟨⟨⟨⟨hfu,cD⟩,gD⟩,sI⟩,iB⟩,n8⟩,cM⟩,tV⟩,gL⟩ p1 hpre=>by
 refine oB (cD p1 1 bO) fun x2 h1=>oB (cD p1 2 bO) fun x4 h2=>oB (gD x4 bO) fun x6 h3=>oB (cD p1 3 bO) fun x8 h4=>oB (sI x8 bO) fun x10 h5=>oB (cD p1 5 bO) fun x12 h6=>oB (iB x12 bO) fun x14 h7=>oB (cD p1 6 bO) fun x16 h8=>SQ (n8 x16 bO) fun x18 h9 h9B=>oB (cD p1 4 bO) fun x20 h10=>?_
 have:=(aW:wl ([]:List aV)=0∧_)
 have:=aB.wt_eq x20
 refine QX x20.aCc 4 (fun i21 v23 hl12 hI13 _ _=>?_) ?_
 ·have:=aZ x20.aCc
  have:=cQ x20.aCc i21 hl12
  refine oB (cD (aR x20.aCc i21) 0 bO) fun x27 h14=>oB (cD (aR x20.aCc i21) 1 bO) fun x29 h15=>oB (iB x29 bO) fun x31 h16=>?_
  have:=aZ (v23)
  have:=aB.wt_eq x27
  have:=aV.wt_mk x27.aCf x31
  have:=b9 (aV.mk x27.aCf x31)
  refine oG fun z17=>?_
  have:=b0 v23 ([(aV.mk x27.aCf x31)]:List aV)
  exact nY
 intro v23 h11
 refine oB (cM p1 bO) fun x34 _=>?_;refine oW (fun g19=>?_) fun g19=>?_
 ·have:s_.size=0:=rfl
  have:=(aW:wl ([]:List aA)=0∧_)
  have:=aA.wt_mk 0 s_ []
  have:=(aW:wl ([]:List aL)=0∧_)
  have:=(aW:wl ([]:List bU)=0∧_)
  have:=aL.wt_mk 0 s_ s_ 0 (aA.mk 0 s_ []) [] []
  have:=(aW:wl ([]:LB)=0∧_)
  have:=(aW:wl ([]:List aG)=0∧_)
  have:=aO.wt_mk s_ [] [] [] (aA.mk 0 s_ []) (aL.mk 0 s_ s_ 0 (aA.mk 0 s_ []) [] [])
  exact oS
 have:=aB.wt_eq p1
 have:=aZ p1.aCc
 refine oD (fun g20=>?_) fun g20=>?_
 ·have:s_.size=0:=rfl
  have:=(aW:wl ([]:List aA)=0∧_)
  have:=aA.wt_mk 0 s_ []
  have:=(aW:wl ([]:List aL)=0∧_)
  have:=(aW:wl ([]:List bU)=0∧_)
  have:=aL.wt_mk 0 s_ s_ 0 (aA.mk 0 s_ []) [] []
  have:=(aW:wl ([]:LB)=0∧_)
  have:=(aW:wl ([]:List aG)=0∧_)
  have:=aO.wt_mk s_ [] [] [] (aA.mk 0 s_ []) (aL.mk 0 s_ s_ 0 (aA.mk 0 s_ []) [] [])
  exact oS
 have:=aB.wt_eq x2
 have:=aO.wt_mk x2.aCf x6 x10 v23 x14 x18
 refine oB (tV (aO.mk x2.aCf x6 x10 v23 x14 x18) bO (by first|assumption|trivial)) fun x38 h21=>oB (gL x38 p1 bO) fun x40 _=>?_;refine oW (fun g23=>?_) fun g23=>?_
 ·have:s_.size=0:=rfl
  have:=(aW:wl ([]:List aA)=0∧_)
  have:=aA.wt_mk 0 s_ []
  have:=(aW:wl ([]:List aL)=0∧_)
  have:=(aW:wl ([]:List bU)=0∧_)
  have:=aL.wt_mk 0 s_ s_ 0 (aA.mk 0 s_ []) [] []
  have:=(aW:wl ([]:LB)=0∧_)
  have:=(aW:wl ([]:List aG)=0∧_)
  have:=aO.wt_mk s_ [] [] [] (aA.mk 0 s_ []) (aL.mk 0 s_ s_ 0 (aA.mk 0 s_ []) [] [])
  exact oS
 exact oS
end Go.Proofs.YtfcoaagbccmahaaGreat.W

namespace Go.Proofs.YtfcoaagbccmahaaGreat.W
set_option maxRecDepth 20000
set_option maxHeartbeats 4000000
open Go.RowKit Go.WalkArith Go.IntWalk
def abF(fu:Nat):Prop:= ∀(ps:ByteArray) (p4:UInt8),ps.size≤1073741824→Ok (F1 fu ps p4) (fun r=>wl r≤ps.size+1)
theorem FP:bP abF:=(bP.ge 2147483648).imp fun fu hfu ps p4 hpre=>by
 have:=(aW:wl ([]:LB)=0∧_)
 refine Ok.sok (E:=fun(v4,v2,v3)=>wl v4≤ps.size+1) ?_ ?_
 ·refine Ok.loopW (fun(v4,v2,v3)=>0≤v2∧v2≤v3∧v3≤(ps.size:Int)+1∧(wl v4:Int)≤v2) (fun(v4,v2,v3)=>((ps.size:Int)+2-v3).toNat) ?_ _ _ bO bO
  rintro⟨v4,v2,v3⟩ hI3
  try dsimp only at hI3
  refine oD (fun g4=>?_) fun g4=>?_
  ·refine oD (fun g5=>?_) fun g5=>?_
   ·refine oG fun z6=>?_
    have:=aZ (v4)
    have:=FG ps (v2:Int).toNat (v3:Int).toNat
    have:=b9 (ps.extract (v2:Int).toNat (v3:Int).toNat)
    have:=bA (ps.extract (v2:Int).toNat (v3:Int).toNat)
    refine oG fun z7=>?_
    have:=b0 v4 ([(ps.extract (v2:Int).toNat (v3:Int).toNat)]:LB)
    have:=eL (v3+1)
    exact nY
   refine oG fun z8=>?_;refine oD (fun g9=>?_) fun g9=>?_
   ·refine oG fun z10=>?_
    have:=aZ (v4)
    have:=FG ps (v2:Int).toNat (v3:Int).toNat
    have:=b9 (ps.extract (v2:Int).toNat (v3:Int).toNat)
    have:=bA (ps.extract (v2:Int).toNat (v3:Int).toNat)
    refine oG fun z11=>?_
    have:=b0 v4 ([(ps.extract (v2:Int).toNat (v3:Int).toNat)]:LB)
    have:=eL (v3+1)
    exact nY
   have:=eL (v3+1)
   exact nY
  exact oK
 rintro⟨v4,v2,v3⟩ h1
 dsimp only at h1
 exact oS
def aeI(fu:Nat):Prop:= ∀(ps:ByteArray),ps.size≤1073741824→Ok (IT fu ps) (fun _=>True)
theorem H9:bP aeI:=(bP.ge 2147483648).imp fun fu hfu ps hpre=>by
 refine G0 ?_ ?_
 ·refine Ok.loop1 ?_;rintro i1 ⟨⟩ hl2
  exact oG fun z4=>oN (fun _=>oR) fun g5=>nY
 rintro⟨⟩-
 exact oS
def ah3(fu:Nat):Prop:= ∀(p1:ByteArray×(LB)×(List aU)×(List aN)×(List aI)×(List aO)) (p2:aB),wt p2≤65536∧wl p1.2.2.1+wl p1.2.2.2.1+wl p1.2.2.2.2.1+wl p1.2.2.2.2.2≤1073741824→Ok (M1 fu p1 p2) (fun r=>r.2.1.size+wl r.2.2.1+wl r.2.2.2.1+wl r.2.2.2.2.1+wl r.2.2.2.2.2.1+wl r.2.2.2.2.2.2≤p1.1.size+wl p1.2.1+wl p1.2.2.1+wl p1.2.2.2.1+wl p1.2.2.2.2.1+wl p1.2.2.2.2.2+16*wt p2+1)
theorem ME:bP ah3:=((((((bP.ge 2147483648).and cD).and yW).and tX).and tZ).and tY).imp fun fu ⟨⟨⟨⟨⟨hfu,cD⟩,yW⟩,tX⟩,tZ⟩,tY⟩ p1 p2 hpre=>by
 have:=aZ p1.2.2.1
 have:=aZ p1.2.2.2.1
 have:=aZ p1.2.2.2.2.1
 have:=aZ p1.2.2.2.2.2
 refine oB (cD p2 0 bO) fun x2 h1=>?_
 have:=aB.wt_eq x2
 have:JP.size=5:=rfl
 refine oD (fun g2=>?_) fun g2=>?_
 ·have:=congrArg ByteArray.size g2
  refine vS (yW p2 bO) fun x5 x6 h3=>?_
  dsimp only at h3
  have:=aZ (p1.2.2.1)
  have:=b9 x5
  refine oG fun z4=>?_
  have:=b0 p1.2.2.1 ([x5]:List aU)
  exact oS
 have:RR.size=4:=rfl
 refine oD (fun g5=>?_) fun g5=>?_
 ·have:=congrArg ByteArray.size g5
  refine vS (tX p2 bO) fun x10 x11 h6=>?_
  dsimp only at h6
  have:=aZ (p1.2.2.2.1)
  have:=b9 x10
  refine oG fun z7=>?_
  have:=b0 p1.2.2.2.1 ([x10]:List aN)
  exact oS
 have:RS.size=4:=rfl
 refine oD (fun g8=>?_) fun g8=>?_
 ·have:=congrArg ByteArray.size g8
  refine vS (tZ p2 bO) fun x15 x16 h9=>?_
  dsimp only at h9
  have:=aZ (p1.2.2.2.2.1)
  have:=b9 x15
  refine oG fun z10=>?_
  have:=b0 p1.2.2.2.2.1 ([x15]:List aI)
  exact oS
 have:amT.size=2:=rfl
 refine oD (fun g11=>?_) fun g11=>?_
 ·have:=congrArg ByteArray.size g11
  refine vS (tY p2 bO) fun x20 x21 h12=>?_
  dsimp only at h12
  have:=b9 x20
  refine oG fun z13=>?_
  have:=b0 p1.2.2.2.2.2 ([x20]:List aO)
  exact oS
 exact oS
def aeJ(fu:Nat):Prop:= ∀(p0:aM),wt p0≤4194304→Ok (IU fu p0) (fun _=>True)
theorem IA:bP aeJ:=(bP.ge 2147483648).imp fun fu hfu p0 hpre=>by
 have:=(aW:wl ([]:LB)=0∧_)
 have:=aM.wt_eq p0
 refine QX p0.aCo 1 (fun i1 v3 hl2 hI3 _ _=>?_) ?_
 ·have:=aZ p0.aCo
  have:=aZ (v3)
  have:=cQ p0.aCo i1 hl2
  have:=aU.wt_eq (aR p0.aCo i1)
  have:=b9 ((aR p0.aCo i1).aB9)
  have:=bA ((aR p0.aCo i1).aB9)
  refine oG fun z4=>?_
  have:=b0 v3 ([((aR p0.aCo i1).aB9)]:LB)
  exact nY
 intro v3 h1
 refine Ok.sok (E:=fun(v10,v11)=>wl v10+1*wl (List.take 0 p0.aCh)≤wl ([]:LB)+1*wl p0.aCh∧wl v11+1*wl (List.take 0 p0.aCh)≤wl ([]:LB)+1*wl p0.aCh) ?_ ?_
 ·refine Ok.loop0 (fun i7 (v10,v11)=>wl v10+1*wl (List.take 0 p0.aCh)≤wl ([]:LB)+1*wl (List.take i7 p0.aCh)∧wl v11+1*wl (List.take 0 p0.aCh)≤wl ([]:LB)+1*wl (List.take i7 p0.aCh)) (by exact bO) (by rintro i7 ⟨v10,v11⟩-hI;have:=oY p0.aCh i7;(try dsimp only at hI ⊢);omega) ?_;rintro i7 ⟨v10,v11⟩ hl6 hI7
  dsimp only at hI7
  have:=aZ p0.aCh
  have:=oZ p0.aCh i7 hl6
  have:=oY p0.aCh (i7+1)
  have:=aZ (v10)
  have:=cQ p0.aCh i7 hl6
  have:=aN.wt_eq (aR p0.aCh i7)
  have:=b9 ((aR p0.aCh i7).aB9)
  have:=bA ((aR p0.aCh i7).aB9)
  refine oG fun z8=>?_;refine QX ((aR p0.aCh i7).aCe) 1 (fun i15 v17 hl10 hI11 _ _=>?_) ?_
  ·have:=aZ ((aR p0.aCh i7).aCe)
   have:=aZ (v17)
   have:=cQ ((aR p0.aCh i7).aCe) i15 hl10
   have:=aD.wt_eq (aR ((aR p0.aCh i7).aCe) i15)
   have:=b9 ((aR ((aR p0.aCh i7).aCe) i15).aB9)
   have:=bA ((aR ((aR p0.aCh i7).aCe) i15).aB9)
   refine oG fun z12=>?_
   have:=b0 v17 ([((aR ((aR p0.aCh i7).aCe) i15).aB9)]:LB)
   exact nY
  intro v17 h9
  have:=b0 v10 ([((aR p0.aCh i7).aB9)]:LB)
  exact nY
 rintro⟨v10,v11⟩ h5
 dsimp only at h5
 refine QX p0.aCx 1 (fun i21 v23 hl14 hI15 _ _=>?_) ?_
 ·have:=aZ p0.aCx
  have:=cQ p0.aCx i21 hl14
  refine Ok.lt fun y26 h16=>?_
  have:=congrArg wt h16
  have:=aZ (v23)
  have:=aO.wt_eq y26
  have:=b9 y26.aB9
  have:=bA y26.aB9
  refine oG fun z17=>?_
  have:=b0 v23 ([y26.aB9]:LB)
  exact nY
 intro v23 h13
 exact oS
def aeK(fu:Nat):Prop:= ∀(pp:aM),wt pp≤4194304→Ok (yB fu pp) (fun _=>True)
theorem IB:bP aeK:=(((((bP.ge 2147483648).and mG).and jY).and j0).and jZ).imp fun fu ⟨⟨⟨⟨hfu,mG⟩,jY⟩,j0⟩,jZ⟩ pp hpre=>by
 refine G0 ?_ ?_
 ·refine Ok.loop1 ?_;rintro i1 ⟨⟩ hl2
  have:=aM.wt_eq pp
  have:=aZ pp.aCo
  have:=cQ pp.aCo i1 hl2
  exact oB (mG (aR pp.aCo i1) bO) fun x5 _=>oW (fun _=>oR) fun g5=>nY
 rintro⟨⟩-
 refine G0 ?_ ?_
 ·refine Ok.loop1 ?_;rintro i7 ⟨⟩ hl7
  have:=aM.wt_eq pp
  have:=aZ pp.aCh
  have:=cQ pp.aCh i7 hl7
  exact oB (jY (aR pp.aCh i7) bO) fun x11 _=>oW (fun _=>oR) fun g10=>nY
 rintro⟨⟩-
 refine G0 ?_ ?_
 ·refine Ok.loop1 ?_;rintro i13 ⟨⟩ hl12
  have:=aM.wt_eq pp
  have:=aZ pp.aCk
  have:=cQ pp.aCk i13 hl12
  refine Ok.lt fun y16 h14=>?_
  have:=congrArg wt h14
  exact oB (j0 y16 bO) fun x19 _=>oW (fun _=>oR) fun g16=>nY
 rintro⟨⟩-
 refine G0 ?_ ?_
 ·refine Ok.loop1 ?_;rintro i21 ⟨⟩ hl18
  have:=aM.wt_eq pp
  have:=aZ pp.aCx
  have:=cQ pp.aCx i21 hl18
  refine Ok.lt fun y24 h20=>?_
  have:=congrArg wt h20
  exact oB (jZ y24 bO) fun x27 _=>oW (fun _=>oR) fun g22=>nY
 rintro⟨⟩-
 exact oS
def NL(fu:Nat):Prop:= ∀(p0:aM),wt p0≤4194304→Ok (mY fu p0) (fun _=>True)
theorem u7:bP NL:=(((((((bP.ge 2147483648).and IA).and bL).and c4).and dV).and eI).and IB).imp fun fu ⟨⟨⟨⟨⟨⟨hfu,IA⟩,bL⟩,c4⟩,dV⟩,eI⟩,IB⟩ p0 hpre=>by
 refine oB4 (IA p0 bO) fun x2 x3 x4 x5 _=>?_
 have:=aM.wt_eq p0
 refine oB (bL p0.aB9) fun x7 _=>oW (fun _=>oS) fun g3=>oB (c4 p0.aCK 5) fun x10 _=>oW (fun _=>oS) fun g5=>oB (dV p0.aCK p0.aB9) fun x13 _=>oC (fun _=>oS) fun g7=>?_
 have:=aZ p0.aCo
 have:=aZ p0.aCh
 have:=eL ((p0.aCo.length:Int)+(p0.aCh.length:Int))
 have:=aZ p0.aCk
 have:=eL ((aX ((p0.aCo.length:Int)+(p0.aCh.length:Int)))+(p0.aCk.length:Int))
 have:=aZ p0.aCx
 have:=eL ((aX ((aX ((p0.aCo.length:Int)+(p0.aCh.length:Int)))+(p0.aCk.length:Int)))+(p0.aCx.length:Int))
 refine oD (fun _=>oS) fun g8=>oB (eI x2) fun x17 _=>?_;refine oC (fun g10=>?_) fun g10=>?_
 ·refine oB (eI x3) fun x20 _=>?_;refine oC (fun g12=>?_) fun g12=>?_
  ·refine oB (eI x4) fun x23 _=>?_;refine oC (fun g14=>?_) fun g14=>?_
   ·refine oB (eI x5) fun x26 _=>?_;refine oC (fun g16=>?_) fun g16=>?_
    ·exact oB (IB p0 bO) fun x29 _=>oS
    exact oS
   exact oS
  exact oS
 exact oS
def NM(fu:Nat):Prop:= ∀(p0:aB),wt p0≤65536→Ok (mZ fu p0) (fun r=>wt r.1≤20*wt p0)
theorem u9:bP NM:=((((((bP.ge 2147483648).and cD).and iP).and cM).and ME).and u7).imp fun fu ⟨⟨⟨⟨⟨hfu,cD⟩,iP⟩,cM⟩,ME⟩,u7⟩ p0 hpre=>by
 refine oB (cD p0 2 bO) fun x2 h1=>?_
 have:=aB.wt_eq x2
 refine vS (iP x2.aCc bO) fun x4 x5 h2=>?_
 dsimp only at h2
 refine oB (cD p0 1 bO) fun x7 h3=>oB (cM p0 bO) fun x9 _=>?_;refine oW (fun g5=>?_) fun g5=>?_
 ·have:s_.size=0:=rfl
  have:=(aW:wl ([]:LB)=0∧_)
  have:=(aW:wl ([]:List aU)=0∧_)
  have:=(aW:wl ([]:List aN)=0∧_)
  have:=(aW:wl ([]:List aI)=0∧_)
  have:=(aW:wl ([]:List aO)=0∧_)
  have:=aM.wt_mk s_ [] [] [] [] []
  exact oS
 have:=aB.wt_eq p0
 have:=aZ p0.aCc
 refine oD (fun g6=>?_) fun g6=>?_
 ·have:s_.size=0:=rfl
  have:=(aW:wl ([]:LB)=0∧_)
  have:=(aW:wl ([]:List aU)=0∧_)
  have:=(aW:wl ([]:List aN)=0∧_)
  have:=(aW:wl ([]:List aI)=0∧_)
  have:=(aW:wl ([]:List aO)=0∧_)
  have:=aM.wt_mk s_ [] [] [] [] []
  exact oS
 have:=aZ (p0.aCc)
 refine oG fun z7=>?_
 have:=cQ p0.aCc 0 z7
 have:wl (List.take 1 p0.aCc)=wl (List.take 0 p0.aCc)+wt (aR p0.aCc 0)+1:=K9 p0.aCc 0 z7
 have:=aB.wt_eq (aR p0.aCc 0)
 have:aaQ.size=7:=rfl
 refine oN (fun g8=>?_) fun g8=>?_
 ·have:s_.size=0:=rfl
  have:=(aW:wl ([]:LB)=0∧_)
  have:=(aW:wl ([]:List aU)=0∧_)
  have:=(aW:wl ([]:List aN)=0∧_)
  have:=(aW:wl ([]:List aI)=0∧_)
  have:=(aW:wl ([]:List aO)=0∧_)
  have:=aM.wt_mk s_ [] [] [] [] []
  exact oS
 have:=congrArg ByteArray.size g8
 refine oG fun z9=>?_
 have:=cQ p0.aCc 2 z9
 have:wl (List.take 3 p0.aCc)=wl (List.take 2 p0.aCc)+wt (aR p0.aCc 2)+1:=K9 p0.aCc 2 z9
 have:=aB.wt_eq (aR p0.aCc 2)
 have:s_.size=0:=rfl
 refine oN (fun g10=>?_) fun g10=>?_
 ·have:=HQ g10
  have:=(aW:wl ([]:LB)=0∧_)
  have:=(aW:wl ([]:List aU)=0∧_)
  have:=(aW:wl ([]:List aN)=0∧_)
  have:=(aW:wl ([]:List aI)=0∧_)
  have:=(aW:wl ([]:List aO)=0∧_)
  have:=aM.wt_mk s_ [] [] [] [] []
  exact oS
 refine oW (fun g11=>?_) fun g11=>?_
 ·have:=(aW:wl ([]:LB)=0∧_)
  have:=(aW:wl ([]:List aU)=0∧_)
  have:=(aW:wl ([]:List aN)=0∧_)
  have:=(aW:wl ([]:List aI)=0∧_)
  have:=(aW:wl ([]:List aO)=0∧_)
  have:=aM.wt_mk s_ [] [] [] [] []
  exact oS
 have:=(aW:wl ([]:List aU)=0∧_)
 have:=(aW:wl ([]:List aN)=0∧_)
 have:=(aW:wl ([]:List aI)=0∧_)
 have:=(aW:wl ([]:List aO)=0∧_)
 have:=aB.wt_eq x7
 refine Ok.sok (E:=fun(v18,v19,v24,v25,v26,v27)=>v18.size+wl v19+wl v24+wl v25+wl v26+wl v27≤x7.aCf.size+wl x4+16*wl p0.aCc) ?_ ?_
 ·refine Ok.loop0 (fun i17 (v18,v19,v24,v25,v26,v27)=>v18.size+wl v19+wl v24+wl v25+wl v26+wl v27≤x7.aCf.size+wl x4+16*wl (List.take i17 p0.aCc)) (by exact bO) (by rintro i17 ⟨v18,v19,v24,v25,v26,v27⟩-hI;have:=oY p0.aCc i17;(try dsimp only at hI ⊢);omega) ?_;rintro i17 ⟨v18,v19,v24,v25,v26,v27⟩ hl13 hI14
  dsimp only at hI14
  have:=oZ p0.aCc i17 hl13
  have:=oY p0.aCc (i17+1)
  have:=cQ p0.aCc i17 hl13
  refine vS (ME (v18,v19,v24,v25,v26,v27) (aR p0.aCc i17) bO) fun x31 x32 h15=>?_
  dsimp only at h15
  refine oW (fun g16=>?_) fun g16=>?_
  ·have:=(aW:wl ([]:LB)=0∧_)
   have:=(aW:wl ([]:List aU)=0∧_)
   have:=(aW:wl ([]:List aN)=0∧_)
   have:=(aW:wl ([]:List aI)=0∧_)
   have:=(aW:wl ([]:List aO)=0∧_)
   have:=aM.wt_mk s_ [] [] [] [] []
   exact oR
  exact nY
 rintro⟨v18,v19,v24,v25,v26,v27⟩ h12
 dsimp only at h12
 have:=aM.wt_mk v18 v19 v24 v25 v26 v27
 refine oB (u7 (aM.mk v18 v19 v24 v25 v26 v27) bO) fun x35 _=>?_;refine oW (fun g18=>?_) fun g18=>?_
 ·have:=(aW:wl ([]:LB)=0∧_)
  have:=(aW:wl ([]:List aU)=0∧_)
  have:=(aW:wl ([]:List aN)=0∧_)
  have:=(aW:wl ([]:List aI)=0∧_)
  have:=(aW:wl ([]:List aO)=0∧_)
  have:=aM.wt_mk s_ [] [] [] [] []
  exact oS
 exact oS
def S8(fu:Nat):Prop:= ∀(ps:ByteArray),ps.size≤16384→Ok (tS fu ps) (fun r=>wt r.1≤40*ps.size)
theorem yU:bP S8:=(((bP.ge 2147483648).and DG).and u9).imp fun fu ⟨⟨hfu,DG⟩,u9⟩ ps hpre=>by
 refine vS (DG ps bO) fun x2 x3 h1=>?_
 dsimp only at h1
 refine oW (fun g2=>?_) fun g2=>?_
 ·have:s_.size=0:=rfl
  have:=(aW:wl ([]:LB)=0∧_)
  have:=(aW:wl ([]:List aU)=0∧_)
  have:=(aW:wl ([]:List aN)=0∧_)
  have:=(aW:wl ([]:List aI)=0∧_)
  have:=(aW:wl ([]:List aO)=0∧_)
  have:=aM.wt_mk s_ [] [] [] [] []
  exact oS
 refine vS (u9 x2 bO) fun x6 x7 h3=>?_
 dsimp only at h3
 exact oS
def S9(fu:Nat):Prop:= ∀(ps:ByteArray),ps.size≤8192→Ok (pV fu ps) (fun r=>wt r.1≤40*(ps.size+1))
theorem yV:bP S9:=((((bP.ge 2147483648).and FP).and H9).and yU).imp fun fu ⟨⟨⟨hfu,FP⟩,H9⟩,yU⟩ ps hpre=>by
 refine oB (FP ps (10:UInt8) bO) fun x2 h1=>?_
 have:=(aW:wl ([]:List aM)=0∧_)
 refine QX x2 40 (fun i3 v5 hl3 hI4 _ _=>?_) ?_
 ·have:=aZ x2
  have:=cQ x2 i3 hl3
  have:=bA (aR x2 i3)
  refine oB (H9 (aR x2 i3) bO) fun x9 _=>oC (fun _=>nY) fun g6=>vS (yU (aR x2 i3) bO) fun x12 x13 h7=>?_
  dsimp only at h7
  refine oW (fun g8=>?_) fun g8=>?_
  ·have:=aF.wt_mk []
   have:=aZ v5
   exact oR
  have:=aZ v5
  refine oD (fun g9=>?_) fun g9=>?_
  ·have:=aF.wt_mk []
   exact oR
  have:=aZ (v5)
  have:=b9 x12
  refine oG fun z10=>?_
  have:=b0 v5 ([x12]:List aM)
  exact nY
 intro v5 h2
 have:=aF.wt_mk v5
 exact oS
def ah2(fu:Nat):Prop:= ∀(pc:DS),Ok (M0 fu pc) (fun r=>r.1.size≤4000)
theorem MD:bP ah2:=(bP.ge 2147483648).imp fun fu hfu pc=>by
 have:cN.size=110:=rfl
 have:cO.size=156:=rfl
 refine oG fun z1=>?_
 have:=eX cN cO
 have:cU.size=119:=rfl
 refine oG fun z2=>?_
 have:=eX (cN++cO) cU
 have:cZ.size=86:=rfl
 refine oG fun z3=>Ok.lt fun d4 h4=>?_;refine oC (fun g5=>?_) fun g5=>?_
 ·have:=eX ((cN++cO)++cU) cZ
  have:jQ.size=120:=rfl
  refine oG fun z6=>?_
  have:=eX (((cN++cO)++cU)++cZ) jQ
  have:eA.size=127:=rfl
  refine oG fun z7=>?_
  have:=eX ((((cN++cO)++cU)++cZ)++jQ) eA
  have:eS.size=95:=rfl
  refine oG fun z8=>?_
  have:=eX (((((cN++cO)++cU)++cZ)++jQ)++eA) eS
  have:fY.size=107:=rfl
  refine oG fun z9=>?_
  have:=eX ((((((cN++cO)++cU)++cZ)++jQ)++eA)++eS) fY
  have:iR.size=51:=rfl
  refine oG fun z10=>?_
  have:=eX (((((((cN++cO)++cU)++cZ)++jQ)++eA)++eS)++fY) iR
  have:lC.size=140:=rfl
  refine oG fun z11=>?_
  have:=eX ((((((((cN++cO)++cU)++cZ)++jQ)++eA)++eS)++fY)++iR) lC
  have:o7.size=90:=rfl
  refine oG fun z12=>?_
  have:=eX (((((((((cN++cO)++cU)++cZ)++jQ)++eA)++eS)++fY)++iR)++lC) o7
  have:B9.size=1:=rfl
  refine oG fun z13=>?_
  have:=eX ((((((((((cN++cO)++cU)++cZ)++jQ)++eA)++eS)++fY)++iR)++lC)++o7) B9
  exact oS
 have:=eX ((cN++cO)++cU) cZ
 have:jR.size=147:=rfl
 refine oG fun z14=>?_
 have:=eX (((cN++cO)++cU)++cZ) jR
 have:eA.size=127:=rfl
 refine oG fun z15=>?_
 have:=eX ((((cN++cO)++cU)++cZ)++jR) eA
 have:eS.size=95:=rfl
 refine oG fun z16=>?_
 have:=eX (((((cN++cO)++cU)++cZ)++jR)++eA) eS
 have:fY.size=107:=rfl
 refine oG fun z17=>?_
 have:=eX ((((((cN++cO)++cU)++cZ)++jR)++eA)++eS) fY
 have:iR.size=51:=rfl
 refine oG fun z18=>?_
 have:=eX (((((((cN++cO)++cU)++cZ)++jR)++eA)++eS)++fY) iR
 have:lC.size=140:=rfl
 refine oG fun z19=>?_
 have:=eX ((((((((cN++cO)++cU)++cZ)++jR)++eA)++eS)++fY)++iR) lC
 have:o7.size=90:=rfl
 refine oG fun z20=>?_
 have:=eX (((((((((cN++cO)++cU)++cZ)++jR)++eA)++eS)++fY)++iR)++lC) o7
 have:B9.size=1:=rfl
 refine oG fun z21=>?_
 have:=eX ((((((((((cN++cO)++cU)++cZ)++jR)++eA)++eS)++fY)++iR)++lC)++o7) B9
 exact oS
def alH(fu:Nat):Prop:= ∀(pc:DS),Ok (RZ fu pc) (fun r=>r.1.size≤3000)
theorem QN:bP alH:=(bP.ge 2147483648).imp fun fu hfu pc=>by
 refine Ok.sok (E:=fun(v1,v2)=>v1.size≤1000) ?_ ?_
 ·refine Ok.lt fun d3 h2=>?_;refine oC (fun g3=>?_) fun g3=>?_
  ·have:eR.size=50:=rfl
   have:N2.size=38:=rfl
   refine oG fun z4=>?_
   have:=eX eR N2
   exact oI
  refine oC (fun g5=>?_) fun g5=>?_
  ·have:eR.size=50:=rfl
   have:N0.size=64:=rfl
   refine oG fun z6=>?_
   have:=eX eR N0
   exact oI
  refine oC (fun g7=>?_) fun g7=>?_
  ·have:eR.size=50:=rfl
   have:NU.size=83:=rfl
   refine oG fun z8=>?_
   have:=eX eR NU
   exact oI
  refine oC (fun g9=>?_) fun g9=>?_
  ·have:eR.size=50:=rfl
   have:NW.size=45:=rfl
   refine oG fun z10=>?_
   have:=eX eR NW
   exact oI
  refine oC (fun g11=>?_) fun g11=>?_
  ·have:eR.size=50:=rfl
   have:NV.size=90:=rfl
   refine oG fun z12=>?_
   have:=eX eR NV
   exact oI
  refine oC (fun g13=>?_) fun g13=>?_
  ·have:eR.size=50:=rfl
   have:NZ.size=45:=rfl
   refine oG fun z14=>?_
   have:=eX eR NZ
   exact oI
  have:eR.size=50:=rfl
  have:NX.size=64:=rfl
  refine oG fun z15=>?_
  have:=eX eR NX
  exact oI
 rintro⟨v1,v2⟩ h1
 dsimp only at h1
 have:o6.size=23:=rfl
 refine oG fun z16=>?_
 have:EA.size=13:=rfl
 have:D9.size=68:=rfl
 have:D7.size=29:=rfl
 have:EB.size=43:=rfl
 have:D6.size=68:=rfl
 have:EE.size=25:=rfl
 have:EF.size=29:=rfl
 have:EC.size=45:=rfl
 have:ED.size=65:=rfl
 have:D5.size=43:=rfl
 have:wl ([EA,D9,D7,EB,D6,EE,EF,EC,ED,D5]:LB)=438:=rfl
 refine Ok.lt fun d19 h17=>Ok.lt fun y21 h18=>?_
 have:=congrArg wt h18
 simp only [bA] at this
 have:y21.size≤200:=by rw [h18];exact DS.pick_size _ (by decide) (by decide)
 have:=eX v1 o6
 refine oG fun z19=>?_
 have:=eX (v1++o6) y21
 have:B9.size=1:=rfl
 refine oG fun z20=>?_;refine Ok.sok (E:=fun(v25,v26)=>v25.size≤2000) ?_ ?_
 ·refine Ok.lt fun d27 h22=>?_;refine oC (fun g23=>?_) fun g23=>?_
  ·have:=eX ((v1++o6)++y21) B9
   have:NY.size=83:=rfl
   refine oG fun z24=>?_
   have:=eX (((v1++o6)++y21)++B9) NY
   exact oI
  have:=eX ((v1++o6)++y21) B9
  exact oI
 rintro⟨v25,v26⟩ h21
 dsimp only at h21
 refine Ok.sok (E:=fun(v31,v32)=>v31.size≤2500) ?_ ?_
 ·refine Ok.lt fun d33 h26=>?_;refine oC (fun g27=>?_) fun g27=>?_
  ·have:N1.size=77:=rfl
   refine oG fun z28=>?_
   have:=eX v25 N1
   exact oI
  exact oI
 rintro⟨v31,v32⟩ h25
 dsimp only at h25
 refine Ok.lt fun d37 h29=>?_;refine oC (fun g30=>?_) fun g30=>?_
 ·have:D8.size=113:=rfl
  refine oG fun z31=>?_
  have:=eX v31 D8
  refine oG fun z32=>?_
  have:=eX (v31++D8) B9
  exact oS
 refine oG fun z33=>?_
 have:=eX v31 B9
 exact oS
def TD(fu:Nat):Prop:= ∀(pc:DS),Ok (zE fu pc) (fun r=>r.1.size≤7001)
theorem yY:bP TD:=(((bP.ge 2147483648).and MD).and QN).imp fun fu ⟨⟨hfu,MD⟩,QN⟩ pc=>by
 refine vS (MD pc) fun x2 x3 h1=>?_
 dsimp only at h1
 refine Ok.lt fun d4 h2=>oC (fun _=>oS) fun g3=>?_
 have:anC.size=1:=rfl
 refine oG fun z4=>vS (QN d4) fun x9 x10 h5=>?_
 dsimp only at h5
 have:=eX x2 anC
 refine oG fun z6=>?_
 have:=eX (x2++anC) x9
 exact oS
def ah4(fu:Nat):Prop:= ∀(pc:DS),Ok (GA fu pc) (fun r=>wt r.1≤327680)
theorem MF:bP ah4:=(((bP.ge 2147483648).and yY).and yV).imp fun fu ⟨⟨hfu,yY⟩,yV⟩ pc=>by
 refine vS (yY pc) fun x2 x3 h1=>?_
 dsimp only at h1
 refine vS (yV x2 bO) fun x5 x6 h2=>?_
 dsimp only at h2
 have:=aF.wt_eq x5
 have:=aF.wt_mk x5.aB8
 exact oS
end Go.Proofs.YtfcoaagbccmahaaGreat.W

namespace Go.Proofs.YtfcoaagbccmahaaGreat.W
open Go.RowKit Go.WalkArith Go.IntWalk
def bT:Nat→Nat
 |0=>1000
 |n+1=>2*bT n+20
theorem aeR: ∀n:Nat,1000≤bT n
 |0=>Nat.le_refl _
 |n+1=>by unfold bT;have:=aeR n;omega
theorem apC(x:Int):0<x∧x≤4→bT x.toNat=2*bT (aX (x-1)).toNat+20:=fun h=>by
 rw [eL (x-1) (by omega)]
 obtain⟨n,rfl⟩: ∃n:Nat,x=((n+1:Nat):Int):=⟨x.toNat-1,by omega⟩
 have e:(((n+1:Nat):Int)-1).toNat=n:=by omega
 rw [e]
 simp only [Int.toNat_natCast]
 rfl
theorem anR(x:Int):x≤4→bT x.toNat≤20000:=fun h=>by
 have:x.toNat=0∨x.toNat=1∨x.toNat=2∨x.toNat=3∨x.toNat=4:=by omega
 rcases this with h|h|h|h|h<;>rw [h]<;>decide
def bX:Nat→Nat
 |0=>3000
 |n+1=>4*bX n+22000
theorem anS: ∀n:Nat,3000≤bX n
 |0=>Nat.le_refl _
 |n+1=>by unfold bX;have:=anS n;omega
theorem apD(x:Int):0<x∧x≤4→bX x.toNat=4*bX (aX (x-1)).toNat+22000:=fun h=>by
 rw [eL (x-1) (by omega)]
 obtain⟨n,rfl⟩: ∃n:Nat,x=((n+1:Nat):Int):=⟨x.toNat-1,by omega⟩
 have e:(((n+1:Nat):Int)-1).toNat=n:=by omega
 rw [e]
 simp only [Int.toNat_natCast]
 rfl
theorem aqI(x:Int):x≤3→bX x.toNat≤1000000:=fun h=>by
 have:x.toNat=0∨x.toNat=1∨x.toNat=2∨x.toNat=3:=by omega
 rcases this with h|h|h|h<;>rw [h]<;>decide
theorem abO:bT (1:Int).toNat=2020:=rfl
theorem aq3:bX (2:Int).toNat=158000:=rfl
theorem ah7:bT (2:Int).toNat=4060:=rfl
end Go.Proofs.YtfcoaagbccmahaaGreat.W

namespace Go.Proofs.YtfcoaagbccmahaaGreat.W
set_option maxRecDepth 20000
set_option maxHeartbeats 4000000
open Go.RowKit Go.WalkArith Go.IntWalk
attribute [local irreducible] wt wl bT bX lt
def akL(fu:Nat):Prop:= ∀(pc:DS) (p3:LB) (p2:Int),wl p3≤1000∧ -100≤p2∧p2≤4→Ok (mB fu pc p3 p2) (fun r=>wt r.1≤bT p2.toNat)
def abB(n:Nat)(m:J4):Prop:= ∀(pc:DS) (p3:LB) (p2:Int),p2.toNat<n→wl p3≤1000∧ -100≤p2∧p2≤4→Ok (m pc p3 p2) (fun r=>wt r.1≤bT p2.toNat)
theorem aoP{n fu:Nat}(hfu:2147483648≤fu)(dX:UX fu)(cG:UW fu){pH:J4}(p8:abB n pH):abB (n+1) (UJ fu pH):=by
 intro pc p3 p2 hm hpre
 have:=aeR p2.toNat
 have:=aeR (aX (p2-1)).toNat
 have:=apC p2
 have:=anR (aX (p2-1))
 refine Ok.lt fun d1 h1=>?_;refine oC (fun g2=>?_) fun g2=>?_
 ·have:=aZ p3
  refine oD (fun g3=>?_) fun g3=>?_
  ·refine Ok.lt fun d5 h4=>?_
   have:=alY d1 p3.length
   have:=aZ (p3)
   refine oG fun z5=>?_
   have:=cQ p3 (d1.below p3.length) z5
   have:=bA (aR p3 (d1.below p3.length))
   refine oB (dX (aR p3 (d1.below p3.length))) fun x9 h6=>?_
   have:=aA.wt_eq x9
   have:=aA.wt_mk x9.aCb x9.aB9 x9.aCa
   exact oS
  refine oC (fun g7=>?_) fun g7=>?_
  ·have:dR.size=3:=rfl
   have:dP.size=4:=rfl
   have:gI.size=4:=rfl
   have:=EP dR dP gI
   have:=bA dR
   have:=bA dP
   have:=bA gI
   refine Ok.lt fun d11 h8=>Ok.lt fun y13 h9=>?_
   have:=congrArg wt h9
   simp only [bA] at this
   have:y13.size≤4:=by rw [h9];exact DS.pick_size _ (by decide) (by decide)
   have:=(aW:wl ([]:List aA)=0∧_)
   refine oB (cG y13 ([]:List aA) bO) fun x16 h10=>?_
   have:=aA.wt_eq x16
   have:=aA.wt_mk x16.aCb x16.aB9 x16.aCa
   exact oS
  refine oD (fun g11=>?_) fun g11=>?_
  ·have:dR.size=3:=rfl
   have:dP.size=4:=rfl
   have:gI.size=4:=rfl
   have:=EP dR dP gI
   have:=bA dR
   have:=bA dP
   have:=bA gI
   refine Ok.lt fun d18 h12=>Ok.lt fun y20 h13=>?_
   have:=congrArg wt h13
   simp only [bA] at this
   have:y20.size≤4:=by rw [h13];exact DS.pick_size _ (by decide) (by decide)
   have:=(aW:wl ([]:List aA)=0∧_)
   refine oB (cG y20 ([]:List aA) bO) fun x23 h14=>?_
   have:=aA.wt_eq x23
   have:=aA.wt_mk x23.aCb x23.aB9 x23.aCa
   exact oS
  refine oC (fun g15=>?_) fun g15=>?_
  ·have:=eL (p2-1)
   refine vS (p8 d1 p3 (aX (p2-1)) bO bO) fun x26 x27 h16=>?_
   dsimp only at h16
   refine vS (p8 x27 p3 (aX (p2-1)) bO bO) fun x29 x30 h17=>?_
   dsimp only at h17
   have:l3.size=4:=rfl
   have:=aA.wt_eq x26
   have:=aA.wt_mk x26.aCb x26.aB9 x26.aCa
   have:=aA.wt_eq x29
   have:=aA.wt_mk x29.aCb x29.aB9 x29.aCa
   have:=kQ (aA.mk x26.aCb x26.aB9 x26.aCa) (aA.mk x29.aCb x29.aB9 x29.aCa)
   refine oB (cG l3 ([(aA.mk x26.aCb x26.aB9 x26.aCa),(aA.mk x29.aCb x29.aB9 x29.aCa)]:List aA) bO) fun x32 h18=>?_
   have:=aA.wt_eq x32
   have:=aA.wt_mk x32.aCb x32.aB9 x32.aCa
   exact oS
  have:cA.size=4:=rfl
  have:pW.size=3:=rfl
  have:=EP cA cA pW
  have:=bA cA
  have:=bA pW
  refine Ok.lt fun d33 h19=>Ok.lt fun y35 h20=>?_
  have:=congrArg wt h20
  simp only [bA] at this
  have:y35.size≤4:=by rw [h20];exact DS.pick_size _ (by decide) (by decide)
  have:=eL (p2-1)
  refine vS (p8 d33 p3 (aX (p2-1)) bO bO) fun x38 x39 h21=>?_
  dsimp only at h21
  have:=aA.wt_eq x38
  have:=aA.wt_mk x38.aCb x38.aB9 x38.aCa
  have:=b9 (aA.mk x38.aCb x38.aB9 x38.aCa)
  refine oB (cG y35 ([(aA.mk x38.aCb x38.aB9 x38.aCa)]:List aA) bO) fun x41 h22=>?_
  have:=aA.wt_eq x41
  have:=aA.wt_mk x41.aCb x41.aB9 x41.aCa
  exact oS
 refine oC (fun g23=>?_) fun g23=>?_
 ·have:dR.size=3:=rfl
  have:dP.size=4:=rfl
  have:gI.size=4:=rfl
  have:=EP dR dP gI
  have:=bA dR
  have:=bA dP
  have:=bA gI
  refine Ok.lt fun d43 h24=>Ok.lt fun y45 h25=>?_
  have:=congrArg wt h25
  simp only [bA] at this
  have:y45.size≤4:=by rw [h25];exact DS.pick_size _ (by decide) (by decide)
  have:=(aW:wl ([]:List aA)=0∧_)
  refine oB (cG y45 ([]:List aA) bO) fun x48 h26=>?_
  have:=aA.wt_eq x48
  have:=aA.wt_mk x48.aCb x48.aB9 x48.aCa
  exact oS
 refine oD (fun g27=>?_) fun g27=>?_
 ·have:dR.size=3:=rfl
  have:dP.size=4:=rfl
  have:gI.size=4:=rfl
  have:=EP dR dP gI
  have:=bA dR
  have:=bA dP
  have:=bA gI
  refine Ok.lt fun d50 h28=>Ok.lt fun y52 h29=>?_
  have:=congrArg wt h29
  simp only [bA] at this
  have:y52.size≤4:=by rw [h29];exact DS.pick_size _ (by decide) (by decide)
  have:=(aW:wl ([]:List aA)=0∧_)
  refine oB (cG y52 ([]:List aA) bO) fun x55 h30=>?_
  have:=aA.wt_eq x55
  have:=aA.wt_mk x55.aCb x55.aB9 x55.aCa
  exact oS
 refine oC (fun g31=>?_) fun g31=>?_
 ·have:=eL (p2-1)
  refine vS (p8 d1 p3 (aX (p2-1)) bO bO) fun x58 x59 h32=>?_
  dsimp only at h32
  refine vS (p8 x59 p3 (aX (p2-1)) bO bO) fun x61 x62 h33=>?_
  dsimp only at h33
  have:l3.size=4:=rfl
  have:=aA.wt_eq x58
  have:=aA.wt_mk x58.aCb x58.aB9 x58.aCa
  have:=aA.wt_eq x61
  have:=aA.wt_mk x61.aCb x61.aB9 x61.aCa
  have:=kQ (aA.mk x58.aCb x58.aB9 x58.aCa) (aA.mk x61.aCb x61.aB9 x61.aCa)
  refine oB (cG l3 ([(aA.mk x58.aCb x58.aB9 x58.aCa),(aA.mk x61.aCb x61.aB9 x61.aCa)]:List aA) bO) fun x64 h34=>?_
  have:=aA.wt_eq x64
  have:=aA.wt_mk x64.aCb x64.aB9 x64.aCa
  exact oS
 have:cA.size=4:=rfl
 have:pW.size=3:=rfl
 have:=EP cA cA pW
 have:=bA cA
 have:=bA pW
 refine Ok.lt fun d65 h35=>Ok.lt fun y67 h36=>?_
 have:=congrArg wt h36
 simp only [bA] at this
 have:y67.size≤4:=by rw [h36];exact DS.pick_size _ (by decide) (by decide)
 have:=eL (p2-1)
 refine vS (p8 d65 p3 (aX (p2-1)) bO bO) fun x70 x71 h37=>?_
 dsimp only at h37
 have:=aA.wt_eq x70
 have:=aA.wt_mk x70.aCb x70.aB9 x70.aCa
 have:=b9 (aA.mk x70.aCb x70.aB9 x70.aCa)
 refine oB (cG y67 ([(aA.mk x70.aCb x70.aB9 x70.aCa)]:List aA) bO) fun x73 h38=>?_
 have:=aA.wt_eq x73
 have:=aA.wt_mk x73.aCb x73.aB9 x73.aCa
 exact oS
theorem ap9(n:Nat):bP fun fu=>abB n (mB fu):=by
 induction n with
 |zero=>exact .all fun fu=>fun _ _ _ h=>absurd h (Nat.not_lt_zero _)
 |succ n ih=>exact bP.succ ((ih.and (((bP.ge 2147483648).and dX).and cG)).imp fun fu ⟨h,⟨⟨hfu,dX⟩,cG⟩⟩=>fun pc p3 p2=>by rw [mB];exact aoP hfu dX cG h pc p3 p2)
theorem vB:bP akL:=(ap9 100).imp fun fu h pc p3 p2 hpre=>h pc p3 p2 bO hpre
def alN(fu:Nat):Prop:= ∀(pt:aA),wt pt≤268435456→Ok (iF fu pt) (fun r=>wt r≤wt pt)
def I5(n:Nat)(m:sW):Prop:= ∀(pt:aA),2*wt pt+1<n→wt pt≤268435456→Ok (m pt) (fun r=>wt r≤wt pt)
def CC(n:Nat)(m:m7):Prop:= ∀(p7:List aA),2*wl p7<n→wl p7≤268435456→Ok (m p7) (fun r=>wl r≤wl p7)
theorem aj0{n fu:Nat}(hfu:2147483648≤fu){p5:sW}(pE:I5 n p5){p4:m7}(p9:CC n p4):I5 (n+1) (JZ fu p5 p4):=by
 intro pt hm hpre
 have:=aA.wt_eq pt
 refine oB (p9 pt.aCa bO bO) fun x2 h1=>?_
 have:=aA.wt_mk pt.aCb pt.aB9 x2
 exact oS
theorem adO{n fu:Nat}(hfu:2147483648≤fu){p5:sW}(pE:I5 n p5){p4:m7}(p9:CC n p4):CC (n+1) (yG fu p5 p4):=by
 intro p7 hm hpre
 have:=(aW:wl ([]:List aA)=0∧_)
 refine QX p7 1 (fun i1 v3 hl2 hI3 _ _=>?_) ?_
 ·have:=aZ p7
  have:=cQ p7 i1 hl2
  refine oB (pE (aR p7 i1) bO bO) fun x7 h4=>?_
  have:=aZ (v3)
  have:=b9 x7
  refine oG fun z5=>?_
  have:=b0 v3 ([x7]:List aA)
  exact nY
 intro v3 h1
 exact oS
theorem am2(n:Nat):bP fun fu=>I5 n (iF fu)∧CC n (iE fu):=by
 induction n with
 |zero=>exact .all fun fu=>⟨fun _ h=>absurd h (Nat.not_lt_zero _),fun _ h=>absurd h (Nat.not_lt_zero _)⟩
 |succ n ih=>exact bP.succ ((ih.and (bP.ge 2147483648)).imp fun fu ⟨h,hfu⟩=>⟨fun pt=>by rw [iF];exact aj0 hfu h.1 h.2 pt,fun p7=>by rw [iE];exact adO hfu h.1 h.2 p7⟩)
theorem QS:bP alN:=(am2 8589934592).imp fun fu h pt hpre=>h.1 pt bO hpre
def alR(fu:Nat):Prop:= ∀(pA:ByteArray) (pt:aA),pA.size+wt pt≤67108864→Ok (uO fu pA pt) (fun r=>wt r≤pA.size+wt pt+1)
theorem sK:bP alR:=((bP.ge 2147483648).and QS).imp fun fu ⟨hfu,QS⟩ pA pt hpre=>by
 refine oB (QS pt bO) fun x2 h1=>?_
 have:=b9 x2
 have:=aA.wt_mk 3 pA ([x2]:List aA)
 exact oS
def alP(fu:Nat):Prop:= ∀(pc:DS) (p2:Int),-100≤p2∧p2≤4→Ok (qL fu pc p2) (fun r=>wt r.1≤bT p2.toNat+60)
theorem kZ:bP alP:=((((bP.ge 2147483648).and vB).and sK).and cG).imp fun fu ⟨⟨⟨hfu,vB⟩,sK⟩,cG⟩ pc p2 hpre=>by
 have:=aeR p2.toNat
 have:=anR p2
 have:f6.size=1:=rfl
 have:CX.size=1:=rfl
 have:=kQ f6 CX
 have:=bA f6
 have:=bA CX
 refine vS (vB pc ([f6,CX]:LB) p2 bO) fun x2 x3 h1=>?_
 dsimp only at h1
 refine Ok.lt fun d4 h2=>?_;refine oC (fun g3=>?_) fun g3=>?_
 ·have:fE.size=3:=rfl
  have:bJ.size=4:=rfl
  have:=kQ fE bJ
  have:=bA fE
  have:=bA bJ
  refine Ok.lt fun d7 h4=>Ok.lt fun y9 h5=>?_
  have:=congrArg wt h5
  simp only [bA] at this
  have:y9.size≤4:=by rw [h5];exact DS.pick_size _ (by decide) (by decide)
  have:=aA.wt_eq x2
  have:=aA.wt_mk x2.aCb x2.aB9 x2.aCa
  refine oB (sK y9 (aA.mk x2.aCb x2.aB9 x2.aCa) bO) fun x12 h6=>?_
  have:=aA.wt_eq x12
  have:=aA.wt_mk x12.aCb x12.aB9 x12.aCa
  exact oS
 refine oC (fun g7=>?_) fun g7=>?_
 ·have:fE.size=3:=rfl
  have:=aA.wt_eq x2
  have:=aA.wt_mk x2.aCb x2.aB9 x2.aCa
  refine oB (sK fE (aA.mk x2.aCb x2.aB9 x2.aCa) bO) fun x15 h8=>?_
  have:cA.size=4:=rfl
  have:=aA.wt_eq x15
  have:=aA.wt_mk x15.aCb x15.aB9 x15.aCa
  have:=b9 (aA.mk x15.aCb x15.aB9 x15.aCa)
  refine oB (cG cA ([(aA.mk x15.aCb x15.aB9 x15.aCa)]:List aA) bO) fun x17 h9=>?_
  have:=aA.wt_eq x17
  have:=aA.wt_mk x17.aCb x17.aB9 x17.aCa
  exact oS
 refine oC (fun g10=>?_) fun g10=>?_
 ·have:bJ.size=4:=rfl
  have:=(aW:wl ([]:List aA)=0∧_)
  have:=aA.wt_mk 4 bJ []
  exact oS
 have:=aA.wt_eq x2
 have:=aA.wt_mk x2.aCb x2.aB9 x2.aCa
 exact oS
def aeA(fu:Nat):Prop:= ∀(pk:Int) (pG:ByteArray) (pC:List aL),pG.size+wl pC≤67108864→Ok (vH fu pk pG pC) (fun r=>wt r=pG.size+wl pC)
theorem nO:bP aeA:=(bP.ge 2147483648).imp fun fu hfu pk pG pC hpre=>by
 have:=(aW:wl ([]:List aL)=0∧_)
 have:=aZ (pC)
 refine oG fun z1=>?_
 have:s_.size=0:=rfl
 have:=(aW:wl ([]:List aA)=0∧_)
 have:=aA.wt_mk 0 s_ []
 have:=b0 ([]:List aL) pC
 have:=(aW:wl ([]:List bU)=0∧_)
 have:=aL.wt_mk pk s_ pG 0 (aA.mk 0 s_ []) (([])++pC) []
 exact oS
def ahR(fu:Nat):Prop:= ∀(pF:DS) (p6:LB) (p0:Int),wl p6+10*p0.toNat≤900∧ -100≤p0∧p0≤3→Ok (l4 fu pF p6 p0) (fun r=>wt r.1≤bX p0.toNat)
def LC(n:Nat)(m:t8):Prop:= ∀(pF:DS) (p6:LB) (p0:Int),p0.toNat<n→wl p6+10*p0.toNat≤900∧ -100≤p0∧p0≤3→Ok (m pF p6 p0) (fun r=>wt r.1≤bX p0.toNat)
theorem af5{n fu:Nat}(hfu:2147483648≤fu)(fO:DY fu)(fF:DX fu)(nO:aeA fu)(vB:akL fu){pD:t8}(p1:LC n pD):LC (n+1) (MS fu pD):=by
 intro pF p6 p0 hm hpre
 have:=anS p0.toNat
 have:=anS (aX (p0-1)).toNat
 have:=apD p0
 have:=abO
 have:=aqI p0
 have:=eL (p0-1)
 refine Ok.lt fun d1 h1=>?_;refine Ok.sok (E:=fun v3=>p0≤0→v3≤2) ?_ ?_
 ·refine oD (fun g3=>?_) fun g3=>?_
  ·have:=DS.below_lt pF (n:=13) (by decide)
   exact oI
  have:=DS.below_lt pF (n:=13) (by decide)
  exact oI
 intro v3 h2
 refine oD (fun g4=>?_) fun g4=>?_
 ·refine Ok.lt fun d6 h5=>?_
  have:s_.size=0:=rfl
  have:=DS.below_lt d1 (n:=2) (by decide)
  have:=(aW:wl ([]:List aA)=0∧_)
  have:=aA.wt_mk 0 s_ []
  have:=(aW:wl ([]:List aL)=0∧_)
  have:=(aW:wl ([]:List bU)=0∧_)
  have:=aL.wt_mk 2 s_ s_ (d1.below 2:Int) (aA.mk 0 s_ []) [] []
  exact oS
 refine G0 ?_ ?_
 ·exact oD (fun _=>oI) fun g7=>oI
 intro v8 _
 refine oC (fun g8=>?_) fun g8=>?_
 ·have:=aZ p6
  refine oD (fun g9=>?_) fun g9=>?_
  ·have:=aZ (p6)
   refine oG fun z10=>Ok.lt fun d13 h11=>?_
   have:=apZ d1 p6
   refine Ok.lt fun y15 h12=>?_
   have:=congrArg wt h12
   simp only [bA] at this
   exact SQ (fO y15) fun x18 h13 h13B=>oS
  refine Ok.lt fun d19 h14=>?_
  have:=DS.below_lt d1 (n:=20) (by decide)
  have:=eL ((d1.below 20:Int)-5)
  exact SQ (fF (aX ((d1.below 20:Int)-5)) bO) fun x22 h15 h15B=>oS
 refine oD (fun g16=>?_) fun g16=>?_
 ·have:s_f.size=1:=rfl
  have:s_g.size=1:=rfl
  have:=kQ s_f s_g
  have:=bA s_f
  have:=bA s_g
  refine Ok.lt fun d24 h17=>Ok.lt fun y26 h18=>?_
  have:=congrArg wt h18
  simp only [bA] at this
  have:y26.size≤1:=by rw [h18];exact DS.pick_size _ (by decide) (by decide)
  have:=eL (p0-1)
  refine vS (p1 d24 p6 (aX (p0-1)) bO bO) fun x29 x30 h19=>?_
  dsimp only at h19
  have:=b9 x29
  exact oB (nO 4 y26 ([x29]:List aL) bO) fun x32 h20=>oS
 refine oD (fun g21=>?_) fun g21=>?_
 ·have:bJ.size=4:=rfl
  have:fE.size=3:=rfl
  have:=kQ bJ fE
  have:=bA bJ
  have:=bA fE
  refine Ok.lt fun d34 h22=>Ok.lt fun y36 h23=>?_
  have:=congrArg wt h23
  simp only [bA] at this
  have:y36.size≤4:=by rw [h23];exact DS.pick_size _ (by decide) (by decide)
  have:=eL (p0-1)
  refine vS (p1 d34 p6 (aX (p0-1)) bO bO) fun x39 x40 h24=>?_
  dsimp only at h24
  refine vS (p1 x40 p6 (aX (p0-1)) bO bO) fun x42 x43 h25=>?_
  dsimp only at h25
  have:eU.size=1:=rfl
  have:s_.size=0:=rfl
  have:=(aW:wl ([]:List aA)=0∧_)
  have:=aA.wt_mk 0 s_ []
  have:=kQ x39 x42
  have:=(aW:wl ([]:List bU)=0∧_)
  have:=aL.wt_mk 5 y36 eU 0 (aA.mk 0 s_ []) ([x39,x42]:List aL) []
  exact oS
 refine oD (fun g26=>?_) fun g26=>?_
 ·have:=eL (p0-1)
  refine vS (p1 d1 p6 (aX (p0-1)) bO bO) fun x46 x47 h27=>?_
  dsimp only at h27
  refine vS (p1 x47 p6 (aX (p0-1)) bO bO) fun x49 x50 h28=>?_
  dsimp only at h28
  have:cH.size=4:=rfl
  have:=kQ x46 x49
  exact oB (nO 6 cH ([x46,x49]:List aL) bO) fun x52 h29=>oS
 refine oD (fun g30=>?_) fun g30=>?_
 ·have:=(aW:wl ([]:LB)=0∧_)
  have:=aZ (p6)
  refine oG fun z31=>?_
  have:=b0 ([]:LB) p6
  have:s_h.size=1:=rfl
  have:s_t.size=1:=rfl
  have:=kQ s_h s_t
  have:=bA s_h
  have:=bA s_t
  refine oG fun z32=>?_
  have:=eL (p0-1)
  refine vS (p1 d1 p6 (aX (p0-1)) bO bO) fun x57 x58 h33=>?_
  dsimp only at h33
  refine vS (p1 x58 p6 (aX (p0-1)) bO bO) fun x60 x61 h34=>?_
  dsimp only at h34
  have:=b0 (([])++p6) ([s_h,s_t]:LB)
  refine vS (p1 x61 ((([])++p6)++([s_h,s_t]:LB)) (aX (p0-1)) bO bO) fun x63 x64 h35=>?_
  dsimp only at h35
  have:s_.size=0:=rfl
  have:=(aW:wl ([]:List aA)=0∧_)
  have:=aA.wt_mk 0 s_ []
  have:=b9 x57
  have:f8.size=3:=rfl
  have:=bU.wt_mk f8 [] x60
  have:cH.size=4:=rfl
  have:=bU.wt_mk cH ([s_h,s_t]:LB) x63
  have:=kQ (bU.mk f8 [] x60) (bU.mk cH ([s_h,s_t]:LB) x63)
  have:=aL.wt_mk 7 s_ s_ 0 (aA.mk 0 s_ []) ([x57]:List aL) ([(bU.mk f8 [] x60),(bU.mk cH ([s_h,s_t]:LB) x63)]:List bU)
  exact oS
 refine oD (fun g36=>?_) fun g36=>?_
 ·have:=eL (p0-1)
  refine vS (p1 d1 p6 (aX (p0-1)) bO bO) fun x67 x68 h37=>?_
  dsimp only at h37
  have:=(aW:wl ([]:LB)=0∧_)
  have:=aZ (p6)
  refine oG fun z38=>?_
  have:=b0 ([]:LB) p6
  have:sQ.size=1:=rfl
  have:=b9 sQ
  have:=bA sQ
  refine oG fun z39=>?_
  have:=b0 (([])++p6) ([sQ]:LB)
  refine vS (p1 x68 ((([])++p6)++([sQ]:LB)) (aX (p0-1)) bO bO) fun x72 x73 h40=>?_
  dsimp only at h40
  have:=kQ x67 x72
  exact oB (nO 8 sQ ([x67,x72]:List aL) bO) fun x75 h41=>oS
 refine oD (fun g42=>?_) fun g42=>?_
 ·have:=eL (p0-1)
  refine vS (p1 d1 p6 (aX (p0-1)) bO bO) fun x78 x79 h43=>?_
  dsimp only at h43
  refine vS (p1 x79 p6 (aX (p0-1)) bO bO) fun x81 x82 h44=>?_
  dsimp only at h44
  refine vS (p1 x82 p6 (aX (p0-1)) bO bO) fun x84 x85 h45=>?_
  dsimp only at h45
  have:s_.size=0:=rfl
  have:=EP x78 x81 x84
  exact oB (nO 9 s_ ([x78,x81,x84]:List aL) bO) fun x87 h46=>oS
 refine oD (fun g47=>?_) fun g47=>?_
 ·have:CA.size=1:=rfl
  have:G7.size=1:=rfl
  have:PI.size=1:=rfl
  have:PJ.size=1:=rfl
  have:PK.size=1:=rfl
  have:=arD CA G7 PI PJ PK
  have:=bA CA
  have:=bA G7
  have:=bA PI
  have:=bA PJ
  have:=bA PK
  refine Ok.lt fun d89 h48=>Ok.lt fun y91 h49=>?_
  have:=congrArg wt h49
  simp only [bA] at this
  have:y91.size≤1:=by rw [h49];exact DS.pick_size _ (by decide) (by decide)
  have:=eL (p0-1)
  refine vS (p1 d89 p6 (aX (p0-1)) bO bO) fun x94 x95 h50=>?_
  dsimp only at h50
  refine vS (p1 x95 p6 (aX (p0-1)) bO bO) fun x97 x98 h51=>?_
  dsimp only at h51
  have:=kQ x94 x97
  exact oB (nO 10 y91 ([x94,x97]:List aL) bO) fun x100 h52=>oS
 refine oD (fun g53=>?_) fun g53=>?_
 ·have:=eL (p0-1)
  refine vS (p1 d1 p6 (aX (p0-1)) bO bO) fun x103 x104 h54=>?_
  dsimp only at h54
  have:bJ.size=4:=rfl
  have:s_.size=0:=rfl
  have:=(aW:wl ([]:List aA)=0∧_)
  have:=aA.wt_mk 0 s_ []
  have:=b9 x103
  have:=(aW:wl ([]:List bU)=0∧_)
  have:=aL.wt_mk 11 bJ s_ 0 (aA.mk 0 s_ []) ([x103]:List aL) []
  exact oS
 refine oD (fun g55=>?_) fun g55=>?_
 ·have:f6.size=1:=rfl
  have:=b9 f6
  have:=bA f6
  refine vS (vB d1 ([f6]:LB) 1 bO) fun x107 x108 h56=>?_
  dsimp only at h56
  have:=eL (p0-1)
  refine vS (p1 x108 p6 (aX (p0-1)) bO bO) fun x110 x111 h57=>?_
  dsimp only at h57
  have:s_.size=0:=rfl
  have:=b9 x110
  have:=(aW:wl ([]:List bU)=0∧_)
  have:=aL.wt_mk 12 s_ s_ 0 x107 ([x110]:List aL) []
  exact oS
 refine Ok.lt fun d112 h58=>?_
 have:=DS.below_lt d1 (n:=20) (by decide)
 have:=eL ((d1.below 20:Int)-5)
 exact SQ (fF (aX ((d1.below 20:Int)-5)) bO) fun x115 h59 h59B=>oS
theorem ai5(n:Nat):bP fun fu=>LC n (l4 fu):=by
 induction n with
 |zero=>exact .all fun fu=>fun _ _ _ h=>absurd h (Nat.not_lt_zero _)
 |succ n ih=>exact bP.succ ((ih.and (((((bP.ge 2147483648).and fO).and fF).and nO).and vB)).imp fun fu ⟨h,⟨⟨⟨⟨hfu,fO⟩,fF⟩,nO⟩,vB⟩⟩=>fun pF p6 p0=>by rw [l4];exact af5 hfu fO fF nO vB h pF p6 p0)
theorem wH:bP ahR:=(ai5 100).imp fun fu h pF p6 p0 hpre=>h pF p6 p0 bO hpre
def anK(fu:Nat):Prop:=Ok (yH fu) (fun r=>wt r≤3)
theorem nP:bP anK:=((bP.ge 2147483648).and cG).imp fun fu ⟨hfu,cG⟩=>by
 have:dR.size=3:=rfl
 have:=(aW:wl ([]:List aA)=0∧_)
 exact oB (cG dR ([]:List aA) bO) fun x2 h1=>oS
def ahY(fu:Nat):Prop:= ∀(pF:DS),Ok (BW fu pF) (fun r=>wt r.1≤1000000)
theorem MB:bP ahY:=((((((((bP.ge 2147483648).and fF).and nP).and dX).and cG).and vB).and kZ).and wH).imp fun fu ⟨⟨⟨⟨⟨⟨⟨hfu,fF⟩,nP⟩,dX⟩,cG⟩,vB⟩,kZ⟩,wH⟩ pF=>by
 have:=abO
 have:=ah7
 have:=aq3
 have:bJ.size=4:=rfl
 have:xY.size=2:=rfl
 have:fE.size=3:=rfl
 have:=EP bJ xY fE
 have:=bA bJ
 have:=bA xY
 have:=bA fE
 refine Ok.lt fun d1 h1=>Ok.lt fun y3 h2=>?_
 have:=congrArg wt h2
 simp only [bA] at this
 have:y3.size≤4:=by rw [h2];exact DS.pick_size _ (by decide) (by decide)
 refine Ok.lt fun d5 h3=>?_
 have:=DS.below_lt d1 (n:=9) (by decide)
 refine SQ (fF (d1.below 9:Int) bO) fun x8 h4 h4B=>?_;refine Ok.sok (E:=fun(v9,v10,v11,v12,v13,v14)=>wl v9≤10∧v11.size+wl v12≤100∧wl v13≤100) ?_ ?_
 ·refine Ok.lt fun d15 h6=>?_;refine oC (fun g7=>?_) fun g7=>?_
  ·refine oB (nP) fun x19 h8=>?_
   have:=aA.wt_eq x19
   have:=(aW:wl ([]:LB)=0∧_)
   have:=(aW:wl ([]:List aG)=0∧_)
   exact oI
  refine oC (fun g9=>?_) fun g9=>?_
  ·have:f6.size=1:=rfl
   refine oB (dX f6) fun x22 h10=>?_
   have:cA.size=4:=rfl
   have:=b9 x22
   refine oB (cG cA ([x22]:List aA) bO) fun x24 h11=>?_
   have:=b9 f6
   have:=bA f6
   have:=aA.wt_eq x24
   have:=aG.wt_mk y3 x22
   have:=b9 (aG.mk y3 x22)
   exact oI
  refine oC (fun g12=>?_) fun g12=>?_
  ·have:f6.size=1:=rfl
   refine oB (dX f6) fun x27 h13=>?_
   have:CX.size=1:=rfl
   refine oB (dX CX) fun x29 h14=>?_
   have:l3.size=4:=rfl
   have:=kQ x27 x29
   refine oB (cG l3 ([x27,x29]:List aA) bO) fun x31 h15=>?_
   have:=kQ f6 CX
   have:=bA f6
   have:=bA CX
   have:=aA.wt_eq x31
   have:=(aW:wl ([]:List aG)=0∧_)
   exact oI
  have:f6.size=1:=rfl
  refine oB (dX f6) fun x33 h16=>?_
  have:=b9 f6
  have:=bA f6
  have:=aA.wt_eq x33
  have:jN.size=3:=rfl
  have:=aG.wt_mk jN x33
  have:=b9 (aG.mk jN x33)
  exact oI
 rintro⟨v9,v10,v11,v12,v13,v14⟩ h5
 dsimp only at h5
 refine Ok.sok (E:=fun(v38,v35,v36,v37,v34)=>wl v38+v37.size≤5000) ?_ ?_
 ·refine Ok.lt fun d39 h18=>?_;refine oC (fun g19=>?_) fun g19=>?_
  ·refine vS (vB d39 v9 1 bO) fun x43 x44 h20=>?_
   dsimp only at h20
   have:=aA.wt_eq x43
   exact oI
  have:s_.size=0:=rfl
  have:=(aW:wl ([]:List aA)=0∧_)
  exact oI
 rintro⟨v38,v35,v36,v37,v34⟩ h17
 dsimp only at h17
 refine Ok.lt fun d45 h21=>Ok.lt fun d47 h22=>?_;refine oC (fun g23=>?_) fun g23=>?_
 ·refine vS (kZ d47 2 bO) fun x51 x52 h24=>?_
  dsimp only at h24
  have:=DS.below_lt v34 (n:=4) (by decide)
  have:=aA.wt_mk v36 v37 v38
  have:eU.size=1:=rfl
  have:eQ.size=1:=rfl
  have:=b9 eQ
  have:=bA eQ
  have:=aQ.wt_mk eU ([eQ]:LB) x8
  have:=b9 (aQ.mk eU ([eQ]:LB) x8)
  have:=aI.wt_mk y3 v9 x51 v13 (decide (v34.below 4=0)) v35 (aA.mk v36 v37 v38) ([(aQ.mk eU ([eQ]:LB) x8)]:List aQ)
  exact oS
 refine oC (fun g25=>?_) fun g25=>?_
 ·have:f6.size=1:=rfl
  have:s_c.size=1:=rfl
  have:=kQ f6 s_c
  have:=bA f6
  have:=bA s_c
  refine Ok.lt fun d54 h26=>Ok.lt fun y56 h27=>?_
  have:=congrArg wt h27
  simp only [bA] at this
  have:y56.size≤1:=by rw [h27];exact DS.pick_size _ (by decide) (by decide)
  have:=aZ (v9)
  have:=b9 y56
  have:=bA y56
  refine oG fun z28=>?_
  have:=b0 v9 ([y56]:LB)
  have:=aA.wt_mk v10 v11 v12
  have:=DS.below_lt v34 (n:=4) (by decide)
  have:=aA.wt_mk v36 v37 v38
  have:eU.size=1:=rfl
  have:eQ.size=1:=rfl
  have:=b9 eQ
  have:=bA eQ
  have:=aQ.wt_mk eU ([eQ]:LB) x8
  have:=b9 (aQ.mk eU ([eQ]:LB) x8)
  have:=aI.wt_mk y3 (v9++([y56]:LB)) (aA.mk v10 v11 v12) v13 (decide (v34.below 4=0)) v35 (aA.mk v36 v37 v38) ([(aQ.mk eU ([eQ]:LB) x8)]:List aQ)
  exact oS
 refine oC (fun g29=>?_) fun g29=>?_
 ·refine vS (kZ d47 1 bO) fun x61 x62 h30=>?_
  dsimp only at h30
  have:=aZ (v13)
  have:=aG.wt_mk xY x61
  have:=b9 (aG.mk xY x61)
  refine oG fun z31=>?_
  have:=aA.wt_mk v10 v11 v12
  have:=b0 v13 ([(aG.mk xY x61)]:List aG)
  have:=DS.below_lt v34 (n:=4) (by decide)
  have:=aA.wt_mk v36 v37 v38
  have:eU.size=1:=rfl
  have:eQ.size=1:=rfl
  have:=b9 eQ
  have:=bA eQ
  have:=aQ.wt_mk eU ([eQ]:LB) x8
  have:=b9 (aQ.mk eU ([eQ]:LB) x8)
  have:=aI.wt_mk y3 v9 (aA.mk v10 v11 v12) (v13++([(aG.mk xY x61)]:List aG)) (decide (v34.below 4=0)) v35 (aA.mk v36 v37 v38) ([(aQ.mk eU ([eQ]:LB) x8)]:List aQ)
  exact oS
 refine oC (fun g32=>?_) fun g32=>?_
 ·have:eQ.size=1:=rfl
  have:sQ.size=1:=rfl
  have:=kQ eQ sQ
  have:=bA eQ
  have:=bA sQ
  refine vS (wH d47 ([eQ,sQ]:LB) 2 bO) fun x66 x67 h33=>?_
  dsimp only at h33
  have:=aA.wt_mk v10 v11 v12
  have:=DS.below_lt v34 (n:=4) (by decide)
  have:=aA.wt_mk v36 v37 v38
  have:eU.size=1:=rfl
  have:=b9 eQ
  have:=aQ.wt_mk eU ([eQ]:LB) x66
  have:=b9 (aQ.mk eU ([eQ]:LB) x66)
  have:=aI.wt_mk y3 v9 (aA.mk v10 v11 v12) v13 (decide (v34.below 4=0)) v35 (aA.mk v36 v37 v38) ([(aQ.mk eU ([eQ]:LB) x66)]:List aQ)
  exact oS
 refine oC (fun g34=>?_) fun g34=>?_
 ·refine oB (nP) fun x70 h35=>?_
  have:=aA.wt_mk v10 v11 v12
  have:=DS.below_lt v34 (n:=4) (by decide)
  have:eU.size=1:=rfl
  have:eQ.size=1:=rfl
  have:=b9 eQ
  have:=bA eQ
  have:=aQ.wt_mk eU ([eQ]:LB) x8
  have:=b9 (aQ.mk eU ([eQ]:LB) x8)
  have:=aI.wt_mk y3 v9 (aA.mk v10 v11 v12) v13 (decide (v34.below 4=0)) v35 x70 ([(aQ.mk eU ([eQ]:LB) x8)]:List aQ)
  exact oS
 refine oC (fun g36=>?_) fun g36=>?_
 ·have:=aA.wt_mk v10 v11 v12
  have:=DS.below_lt v34 (n:=4) (by decide)
  have:=aA.wt_mk v36 v37 v38
  have:eU.size=1:=rfl
  have:=(aW:wl ([]:LB)=0∧_)
  have:=aQ.wt_mk eU ([]) x8
  have:=b9 (aQ.mk eU ([]) x8)
  have:=aI.wt_mk y3 v9 (aA.mk v10 v11 v12) v13 (decide (v34.below 4=0)) v35 (aA.mk v36 v37 v38) ([(aQ.mk eU ([]) x8)]:List aQ)
  exact oS
 have:=aA.wt_mk v10 v11 v12
 have:=DS.below_lt v34 (n:=4) (by decide)
 have:=aA.wt_mk v36 v37 v38
 have:eU.size=1:=rfl
 have:eQ.size=1:=rfl
 have:=b9 eQ
 have:=bA eQ
 have:=aQ.wt_mk eU ([eQ]:LB) x8
 have:=b9 (aQ.mk eU ([eQ]:LB) x8)
 have:=aI.wt_mk y3 v9 (aA.mk v10 v11 v12) v13 (decide (v34.below 4=0)) v35 (aA.mk v36 v37 v38) ([(aQ.mk eU ([eQ]:LB) x8)]:List aQ)
 exact oS
def anG(fu:Nat):Prop:= ∀(pc:DS),Ok (W1 fu pc) (fun r=>wt r.1≤2000000)
theorem VT:bP anG:=((((((bP.ge 2147483648).and dX).and nP).and fO).and kZ).and wH).imp fun fu ⟨⟨⟨⟨⟨hfu,dX⟩,nP⟩,fO⟩,kZ⟩,wH⟩ pc=>by
 have:=abO
 have:=ah7
 have:=aqI 3 (by decide)
 have:s_f.size=1:=rfl
 have:s_g.size=1:=rfl
 have:=kQ s_f s_g
 have:=bA s_f
 have:=bA s_g
 refine Ok.lt fun d1 h1=>Ok.lt fun y3 h2=>?_
 have:=congrArg wt h2
 simp only [bA] at this
 have:y3.size≤1:=by rw [h2];exact DS.pick_size _ (by decide) (by decide)
 have:f6.size=1:=rfl
 refine oB (dX f6) fun x6 h3=>oB (nP) fun x8 h4=>?_
 have:eQ.size=1:=rfl
 refine SQ (fO eQ) fun x10 h5 h5B=>Ok.lt fun d11 h6=>?_;refine oC (fun g7=>?_) fun g7=>?_
 ·refine vS (kZ d11 2 bO) fun x15 x16 h8=>?_
  dsimp only at h8
  have:=b9 f6
  have:=bA f6
  have:bJ.size=4:=rfl
  have:=aG.wt_mk bJ x6
  have:=b9 (aG.mk bJ x6)
  have:=aV.wt_mk eQ x6
  have:=b9 (aV.mk eQ x6)
  have:eU.size=1:=rfl
  have:s_.size=0:=rfl
  have:=(aW:wl ([]:List aA)=0∧_)
  have:=aA.wt_mk 0 s_ []
  have:=b9 x10
  have:=(aW:wl ([]:List bU)=0∧_)
  have:=aL.wt_mk 5 bJ eU 0 (aA.mk 0 s_ []) ([x10]:List aL) []
  have:=aO.wt_mk y3 ([f6]:LB) ([(aG.mk bJ x6)]:List aG) ([(aV.mk eQ x6)]:List aV) x15 (aL.mk 5 bJ eU 0 (aA.mk 0 s_ []) ([x10]:List aL) [])
  exact oS
 refine oC (fun g9=>?_) fun g9=>?_
 ·have:sQ.size=1:=rfl
  have:=kQ eQ sQ
  have:=bA eQ
  have:=bA sQ
  refine Ok.lt fun d18 h10=>Ok.lt fun y20 h11=>?_
  have:=congrArg wt h11
  simp only [bA] at this
  have:y20.size≤1:=by rw [h11];exact DS.pick_size _ (by decide) (by decide)
  have:=aV.wt_mk eQ x6
  have:=b9 (aV.mk eQ x6)
  have:=aV.wt_mk y20 x8
  have:=b9 (aV.mk y20 x8)
  refine oG fun z12=>?_
  have:=b9 f6
  have:=bA f6
  have:bJ.size=4:=rfl
  have:=aG.wt_mk bJ x6
  have:=b9 (aG.mk bJ x6)
  have:=b0 ([(aV.mk eQ x6)]:List aV) ([(aV.mk y20 x8)]:List aV)
  have:eU.size=1:=rfl
  have:s_.size=0:=rfl
  have:=(aW:wl ([]:List aA)=0∧_)
  have:=aA.wt_mk 0 s_ []
  have:=b9 x10
  have:=(aW:wl ([]:List bU)=0∧_)
  have:=aL.wt_mk 5 bJ eU 0 (aA.mk 0 s_ []) ([x10]:List aL) []
  have:=aO.wt_mk y3 ([f6]:LB) ([(aG.mk bJ x6)]:List aG) (([(aV.mk eQ x6)]:List aV)++([(aV.mk y20 x8)]:List aV)) x8 (aL.mk 5 bJ eU 0 (aA.mk 0 s_ []) ([x10]:List aL) [])
  exact oS
 refine oC (fun g13=>?_) fun g13=>?_
 ·have:sQ.size=1:=rfl
  have:=kQ eQ sQ
  have:=bA eQ
  have:=bA sQ
  refine vS (wH d11 ([eQ,sQ]:LB) 3 bO) fun x25 x26 h14=>?_
  dsimp only at h14
  have:=b9 f6
  have:=bA f6
  have:bJ.size=4:=rfl
  have:=aG.wt_mk bJ x6
  have:=b9 (aG.mk bJ x6)
  have:=aV.wt_mk eQ x6
  have:=b9 (aV.mk eQ x6)
  have:=aO.wt_mk y3 ([f6]:LB) ([(aG.mk bJ x6)]:List aG) ([(aV.mk eQ x6)]:List aV) x8 x25
  exact oS
 refine oC (fun g15=>?_) fun g15=>?_
 ·refine vS (kZ d11 1 bO) fun x29 x30 h16=>?_
  dsimp only at h16
  have:=b9 f6
  have:=bA f6
  have:bJ.size=4:=rfl
  have:=aG.wt_mk bJ x29
  have:=b9 (aG.mk bJ x29)
  have:=aV.wt_mk eQ x6
  have:=b9 (aV.mk eQ x6)
  have:eU.size=1:=rfl
  have:s_.size=0:=rfl
  have:=(aW:wl ([]:List aA)=0∧_)
  have:=aA.wt_mk 0 s_ []
  have:=b9 x10
  have:=(aW:wl ([]:List bU)=0∧_)
  have:=aL.wt_mk 5 bJ eU 0 (aA.mk 0 s_ []) ([x10]:List aL) []
  have:=aO.wt_mk y3 ([f6]:LB) ([(aG.mk bJ x29)]:List aG) ([(aV.mk eQ x6)]:List aV) x8 (aL.mk 5 bJ eU 0 (aA.mk 0 s_ []) ([x10]:List aL) [])
  exact oS
 refine oC (fun g17=>?_) fun g17=>?_
 ·have:s_.size=0:=rfl
  have:F4.size=2:=rfl
  have:=kQ s_ F4
  have:=bA s_
  have:=bA F4
  refine Ok.lt fun d32 h18=>Ok.lt fun y34 h19=>?_
  have:=congrArg wt h19
  simp only [bA] at this
  have:y34.size≤2:=by rw [h19];exact DS.pick_size _ (by decide) (by decide)
  have:=b9 f6
  have:=bA f6
  have:bJ.size=4:=rfl
  have:=aG.wt_mk bJ x6
  have:=b9 (aG.mk bJ x6)
  have:=aV.wt_mk eQ x6
  have:=b9 (aV.mk eQ x6)
  have:eU.size=1:=rfl
  have:=(aW:wl ([]:List aA)=0∧_)
  have:=aA.wt_mk 0 s_ []
  have:=b9 x10
  have:=(aW:wl ([]:List bU)=0∧_)
  have:=aL.wt_mk 5 bJ eU 0 (aA.mk 0 s_ []) ([x10]:List aL) []
  have:=aO.wt_mk y34 ([f6]:LB) ([(aG.mk bJ x6)]:List aG) ([(aV.mk eQ x6)]:List aV) x8 (aL.mk 5 bJ eU 0 (aA.mk 0 s_ []) ([x10]:List aL) [])
  exact oS
 have:=b9 f6
 have:=bA f6
 have:bJ.size=4:=rfl
 have:=aG.wt_mk bJ x6
 have:=b9 (aG.mk bJ x6)
 have:=aV.wt_mk eQ x6
 have:=b9 (aV.mk eQ x6)
 have:eU.size=1:=rfl
 have:s_.size=0:=rfl
 have:=(aW:wl ([]:List aA)=0∧_)
 have:=aA.wt_mk 0 s_ []
 have:=b9 x10
 have:=(aW:wl ([]:List bU)=0∧_)
 have:=aL.wt_mk 5 bJ eU 0 (aA.mk 0 s_ []) ([x10]:List aL) []
 have:=aO.wt_mk y3 ([f6]:LB) ([(aG.mk bJ x6)]:List aG) ([(aV.mk eQ x6)]:List aV) x8 (aL.mk 5 bJ eU 0 (aA.mk 0 s_ []) ([x10]:List aL) [])
 exact oS
def aeB(fu:Nat):Prop:= ∀(pF:DS),Ok (IS fu pF) (fun r=>wt r.1≤10000)
theorem H8:bP aeB:=((((((bP.ge 2147483648).and dX).and nP).and fO).and fF).and nO).imp fun fu ⟨⟨⟨⟨⟨hfu,dX⟩,nP⟩,fO⟩,fF⟩,nO⟩ pF=>by
 have:kA.size=4:=rfl
 refine oB (dX kA) fun x2 h1=>?_
 have:bJ.size=4:=rfl
 have:xY.size=2:=rfl
 have:fE.size=3:=rfl
 have:=EP bJ xY fE
 have:=bA bJ
 have:=bA xY
 have:=bA fE
 refine Ok.lt fun d3 h2=>Ok.lt fun y5 h3=>?_
 have:=congrArg wt h3
 simp only [bA] at this
 have:y5.size≤4:=by rw [h3];exact DS.pick_size _ (by decide) (by decide)
 refine Ok.lt fun d7 h4=>oB (nP) fun x10 h5=>?_;refine oC (fun g6=>?_) fun g6=>?_
 ·refine oC (fun g7=>?_) fun g7=>?_
  ·refine Ok.lt fun d13 h8=>?_
   have:eQ.size=1:=rfl
   refine SQ (fO eQ) fun x17 h9 h9B=>SQ (fF 1 bO) fun x19 h10 h10B=>?_
   have:CA.size=1:=rfl
   have:eU.size=1:=rfl
   have:s_.size=0:=rfl
   have:=(aW:wl ([]:List aA)=0∧_)
   have:=aA.wt_mk 0 s_ []
   have:=b9 x17
   have:=(aW:wl ([]:List bU)=0∧_)
   have:=aL.wt_mk 5 y5 eU 0 (aA.mk 0 s_ []) ([x17]:List aL) []
   have:=kQ (aL.mk 5 y5 eU 0 (aA.mk 0 s_ []) ([x17]:List aL) []) x19
   refine oB (nO 10 CA ([(aL.mk 5 y5 eU 0 (aA.mk 0 s_ []) ([x17]:List aL) []),x19]:List aL) bO) fun x21 h11=>?_
   have:=(aW:wl ([]:List aL)=0∧_)
   have:=aL.wt_mk 0 s_ s_ 0 (aA.mk 0 s_ []) [] []
   have:=(aW:wl ([]:LB)=0∧_)
   have:=aE.wt_mk eU [] x10 false [] (aL.mk 0 s_ s_ 0 (aA.mk 0 s_ []) [] [])
   have:=b9 (aE.mk eU [] x10 false [] (aL.mk 0 s_ s_ 0 (aA.mk 0 s_ []) [] []))
   have:fN.size=5:=rfl
   have:=b9 x2
   have:sQ.size=1:=rfl
   have:=kQ eQ sQ
   have:=bA eQ
   have:=bA sQ
   have:=aE.wt_mk fN ([x2]:List aA) x10 true ([eQ,sQ]:LB) x21
   have:=b9 (aE.mk fN ([x2]:List aA) x10 true ([eQ,sQ]:LB) x21)
   refine oG fun z12=>?_;refine Ok.sok (E:=fun v23=>wl v23≤10) ?_ ?_
   ·refine Ok.lt fun d24 h14=>?_;refine oC (fun g15=>?_) fun g15=>?_
    ·have:jN.size=3:=rfl
     have:=b9 jN
     have:=bA jN
     exact oI
    exact oI
   intro v23 h13
   refine Ok.lt fun d28 h16=>?_;refine oC (fun g17=>?_) fun g17=>?_
   ·have:CX.size=1:=rfl
    have:=kQ kA CX
    have:=bA kA
    have:=bA CX
    refine Ok.lt fun d31 h18=>Ok.lt fun y33 h19=>?_
    have:=congrArg wt h19
    simp only [bA] at this
    have:y33.size≤4:=by rw [h19];exact DS.pick_size _ (by decide) (by decide)
    refine oB (dX y33) fun x36 h20=>?_
    have:=DS.below_lt d3 (n:=3) (by decide)
    have:=aA.wt_mk 0 s_ ([])
    have:=aL.wt_mk 0 s_ s_ 0 (aA.mk 0 s_ ([])) ([]) ([])
    have:=aE.wt_mk eU ([]) x36 false ([]) (aL.mk 0 s_ s_ 0 (aA.mk 0 s_ ([])) ([]) ([]))
    have:=kQ (aE.mk eU ([]) x36 false ([]) (aL.mk 0 s_ s_ 0 (aA.mk 0 s_ ([])) ([]) ([]))) (aE.mk fN ([x2]:List aA) x10 true ([eQ,sQ]:LB) x21)
    have:=aU.wt_mk y5 v23 false (decide (d3.below 3=0)) ([(aE.mk eU ([]) x36 false ([]) (aL.mk 0 s_ s_ 0 (aA.mk 0 s_ ([])) ([]) ([]))),(aE.mk fN ([x2]:List aA) x10 true ([eQ,sQ]:LB) x21)]:List aE)
    exact oS
   have:=DS.below_lt d3 (n:=3) (by decide)
   have:=aA.wt_mk 0 s_ ([])
   have:=aL.wt_mk 0 s_ s_ 0 (aA.mk 0 s_ ([])) ([]) ([])
   have:=aE.wt_mk eU ([]) x10 true ([]) (aL.mk 0 s_ s_ 0 (aA.mk 0 s_ ([])) ([]) ([]))
   have:=kQ (aE.mk eU ([]) x10 true ([]) (aL.mk 0 s_ s_ 0 (aA.mk 0 s_ ([])) ([]) ([]))) (aE.mk fN ([x2]:List aA) x10 true ([eQ,sQ]:LB) x21)
   have:=aU.wt_mk y5 v23 false (decide (d3.below 3=0)) ([(aE.mk eU ([]) x10 true ([]) (aL.mk 0 s_ s_ 0 (aA.mk 0 s_ ([])) ([]) ([]))),(aE.mk fN ([x2]:List aA) x10 true ([eQ,sQ]:LB) x21)]:List aE)
   exact oS
  refine Ok.lt fun d37 h21=>?_;refine Ok.sok (E:=fun v40=>wl v40≤10) ?_ ?_
  ·refine Ok.lt fun d41 h23=>?_;refine oC (fun g24=>?_) fun g24=>?_
   ·have:jN.size=3:=rfl
    have:=b9 jN
    have:=bA jN
    exact oI
   have:=(aW:wl ([]:LB)=0∧_)
   exact oI
  intro v40 h22
  refine Ok.lt fun d45 h25=>?_;refine oC (fun g26=>?_) fun g26=>?_
  ·have:CX.size=1:=rfl
   have:=kQ kA CX
   have:=bA kA
   have:=bA CX
   refine Ok.lt fun d48 h27=>Ok.lt fun y50 h28=>?_
   have:=congrArg wt h28
   simp only [bA] at this
   have:y50.size≤4:=by rw [h28];exact DS.pick_size _ (by decide) (by decide)
   refine oB (dX y50) fun x53 h29=>?_
   have:=DS.below_lt d3 (n:=3) (by decide)
   have:eU.size=1:=rfl
   have:s_.size=0:=rfl
   have:=(aW:wl ([]:List aA)=0∧_)
   have:=aA.wt_mk 0 s_ []
   have:=(aW:wl ([]:List aL)=0∧_)
   have:=(aW:wl ([]:List bU)=0∧_)
   have:=aL.wt_mk 0 s_ s_ 0 (aA.mk 0 s_ []) [] []
   have:=(aW:wl ([]:LB)=0∧_)
   have:=aE.wt_mk eU [] x53 false [] (aL.mk 0 s_ s_ 0 (aA.mk 0 s_ []) [] [])
   have:=b9 (aE.mk eU [] x53 false [] (aL.mk 0 s_ s_ 0 (aA.mk 0 s_ []) [] []))
   have:=aU.wt_mk y5 v40 false (decide (d3.below 3=0)) ([(aE.mk eU [] x53 false [] (aL.mk 0 s_ s_ 0 (aA.mk 0 s_ []) [] []))]:List aE)
   exact oS
  have:=DS.below_lt d3 (n:=3) (by decide)
  have:eU.size=1:=rfl
  have:s_.size=0:=rfl
  have:=(aW:wl ([]:List aA)=0∧_)
  have:=aA.wt_mk 0 s_ []
  have:=(aW:wl ([]:List aL)=0∧_)
  have:=(aW:wl ([]:List bU)=0∧_)
  have:=aL.wt_mk 0 s_ s_ 0 (aA.mk 0 s_ []) [] []
  have:=(aW:wl ([]:LB)=0∧_)
  have:=aE.wt_mk eU [] x10 true [] (aL.mk 0 s_ s_ 0 (aA.mk 0 s_ []) [] [])
  have:=b9 (aE.mk eU [] x10 true [] (aL.mk 0 s_ s_ 0 (aA.mk 0 s_ []) [] []))
  have:=aU.wt_mk y5 v40 false (decide (d3.below 3=0)) ([(aE.mk eU [] x10 true [] (aL.mk 0 s_ s_ 0 (aA.mk 0 s_ []) [] []))]:List aE)
  exact oS
 refine Ok.sok (E:=fun v55=>wl v55≤1000∧0<v55.length) ?_ ?_
 ·refine Ok.lt fun d56 h31=>?_;refine oC (fun g32=>?_) fun g32=>?_
  ·have:eQ.size=1:=rfl
   refine SQ (fO eQ) fun x61 h33 h33B=>SQ (fF 1 bO) fun x63 h34 h34B=>?_
   have:CA.size=1:=rfl
   have:eU.size=1:=rfl
   have:s_.size=0:=rfl
   have:=(aW:wl ([]:List aA)=0∧_)
   have:=aA.wt_mk 0 s_ []
   have:=b9 x61
   have:=(aW:wl ([]:List bU)=0∧_)
   have:=aL.wt_mk 5 y5 eU 0 (aA.mk 0 s_ []) ([x61]:List aL) []
   have:=kQ (aL.mk 5 y5 eU 0 (aA.mk 0 s_ []) ([x61]:List aL) []) x63
   refine oB (nO 10 CA ([(aL.mk 5 y5 eU 0 (aA.mk 0 s_ []) ([x61]:List aL) []),x63]:List aL) bO) fun x65 h35=>?_
   have:=(aW:wl ([]:List aL)=0∧_)
   have:=aL.wt_mk 0 s_ s_ 0 (aA.mk 0 s_ []) [] []
   have:=(aW:wl ([]:LB)=0∧_)
   have:=aE.wt_mk eU [] x10 false [] (aL.mk 0 s_ s_ 0 (aA.mk 0 s_ []) [] [])
   have:=b9 (aE.mk eU [] x10 false [] (aL.mk 0 s_ s_ 0 (aA.mk 0 s_ []) [] []))
   have:fN.size=5:=rfl
   have:=b9 x2
   have:sQ.size=1:=rfl
   have:=kQ eQ sQ
   have:=bA eQ
   have:=bA sQ
   have:=aE.wt_mk fN ([x2]:List aA) x10 true ([eQ,sQ]:LB) x65
   have:=b9 (aE.mk fN ([x2]:List aA) x10 true ([eQ,sQ]:LB) x65)
   refine oG fun z36=>?_
   have:=b0 ([(aE.mk eU [] x10 false [] (aL.mk 0 s_ s_ 0 (aA.mk 0 s_ []) [] []))]:List aE) ([(aE.mk fN ([x2]:List aA) x10 true ([eQ,sQ]:LB) x65)]:List aE)
   exact oI
  have:eU.size=1:=rfl
  have:s_.size=0:=rfl
  have:=(aW:wl ([]:List aA)=0∧_)
  have:=aA.wt_mk 0 s_ []
  have:=(aW:wl ([]:List aL)=0∧_)
  have:=(aW:wl ([]:List bU)=0∧_)
  have:=aL.wt_mk 0 s_ s_ 0 (aA.mk 0 s_ []) [] []
  have:=(aW:wl ([]:LB)=0∧_)
  have:=aE.wt_mk eU [] x10 false [] (aL.mk 0 s_ s_ 0 (aA.mk 0 s_ []) [] [])
  have:=b9 (aE.mk eU [] x10 false [] (aL.mk 0 s_ s_ 0 (aA.mk 0 s_ []) [] []))
  exact oI
 intro v55 h30
 refine Ok.sok (E:=fun v67=>wl v67≤10) ?_ ?_
 ·refine Ok.lt fun d68 h38=>?_;refine oC (fun g39=>?_) fun g39=>?_
  ·have:jN.size=3:=rfl
   have:=b9 jN
   have:=bA jN
   exact oI
  have:=(aW:wl ([]:LB)=0∧_)
  exact oI
 intro v67 h37
 refine Ok.lt fun d72 h40=>?_;refine oC (fun g41=>?_) fun g41=>?_
 ·have:=DS.below_lt d3 (n:=3) (by decide)
  have:=aU.wt_mk y5 v67 true (decide (d3.below 3=0)) v55
  exact oS
 refine oC (fun g42=>?_) fun g42=>?_
 ·have:s_.size=0:=rfl
  have:dR.size=3:=rfl
  have:s_A.size=1:=rfl
  have:=EP s_ dR s_A
  have:=bA s_
  have:=bA dR
  have:=bA s_A
  refine Ok.lt fun d76 h43=>Ok.lt fun y78 h44=>?_
  have:=congrArg wt h44
  simp only [bA] at this
  have:y78.size≤3:=by rw [h44];exact DS.pick_size _ (by decide) (by decide)
  have:=DS.below_lt d3 (n:=3) (by decide)
  have:=aU.wt_mk y78 v67 false (decide (d3.below 3=0)) v55
  exact oS
 refine oC (fun g45=>?_) fun g45=>?_
 ·have:=aZ (v67)
  have:jN.size=3:=rfl
  have:=b9 jN
  have:=bA jN
  refine oG fun z46=>?_
  have:=b0 v67 ([jN]:LB)
  have:=DS.below_lt d3 (n:=3) (by decide)
  have:=aU.wt_mk y5 (v67++([jN]:LB)) false (decide (d3.below 3=0)) v55
  exact oS
 refine oC (fun g47=>?_) fun g47=>?_
 ·have:=aZ (v55)
  refine oG fun z48=>?_
  have:=cQ v55 0 z48
  have:wl (List.take 1 v55)=wl (List.take 0 v55)+wt (aR v55 0)+1:=K9 v55 0 z48
  refine Ok.lt fun y84 h49=>?_
  have:=congrArg wt h49
  have:=b9 y84
  refine oG fun z50=>?_
  have:=DS.below_lt d3 (n:=3) (by decide)
  have:=b0 v55 ([y84]:List aE)
  have:=aU.wt_mk y5 v67 false (decide (d3.below 3=0)) (v55++([y84]:List aE))
  exact oS
 have:=DS.below_lt d3 (n:=3) (by decide)
 have:=aU.wt_mk y5 v67 false (decide (d3.below 3=0)) v55
 exact oS
def ahX(fu:Nat):Prop:= ∀(pc:DS),Ok (BV fu pc) (fun r=>wt r.1≤10000)
theorem MA:bP ahX:=((((bP.ge 2147483648).and dX).and cG).and kZ).imp fun fu ⟨⟨⟨hfu,dX⟩,cG⟩,kZ⟩ pc=>by
 have:=abO
 have:=ah7
 have:f6.size=1:=rfl
 refine oB (dX f6) fun x2 h1=>?_
 have:cA.size=4:=rfl
 have:=b9 x2
 refine oB (cG cA ([x2]:List aA) bO) fun x4 h2=>Ok.lt fun d5 h3=>?_;refine oC (fun g4=>?_) fun g4=>?_
 ·have:CX.size=1:=rfl
  have:=kQ f6 CX
  have:=bA f6
  have:=bA CX
  refine Ok.lt fun d8 h5=>Ok.lt fun y10 h6=>?_
  have:=congrArg wt h6
  simp only [bA] at this
  have:y10.size≤1:=by rw [h6];exact DS.pick_size _ (by decide) (by decide)
  have:=b9 f6
  have:=b9 y10
  have:=bA y10
  refine oG fun z7=>?_
  have:=b0 ([f6]:LB) ([y10]:LB)
  have:f8.size=3:=rfl
  have:=(aW:wl ([]:List aA)=0∧_)
  have:=aD.wt_mk f8 []
  have:cH.size=4:=rfl
  have:=kQ x2 x4
  have:=aD.wt_mk cH ([x2,x4]:List aA)
  have:=kQ (aD.mk f8 []) (aD.mk cH ([x2,x4]:List aA))
  have:=aN.wt_mk cA (([f6]:LB)++([y10]:LB)) ([(aD.mk f8 []),(aD.mk cH ([x2,x4]:List aA))]:List aD)
  exact oS
 refine oC (fun g8=>?_) fun g8=>?_
 ·refine Ok.lt fun d14 h9=>?_
  have:=DS.below_lt d5 (n:=2) (by decide)
  have:f8.size=3:=rfl
  have:=(aW:wl ([]:List aA)=0∧_)
  have:=aD.wt_mk f8 []
  have:cH.size=4:=rfl
  have:=kQ x2 x4
  have:=aD.wt_mk cH ([x2,x4]:List aA)
  have:=kQ (aD.mk f8 []) (aD.mk cH ([x2,x4]:List aA))
  refine oG fun z10=>?_
  have:=b9 f6
  have:=bA f6
  have:=UM (0:Int).toNat (d5.below 2:Int).toNat ([(aD.mk f8 []),(aD.mk cH ([x2,x4]:List aA))]:List aD)
  have:=aN.wt_mk cA ([f6]:LB) (List.drop (0:Int).toNat (List.take (d5.below 2:Int).toNat ([(aD.mk f8 []),(aD.mk cH ([x2,x4]:List aA))]:List aD)))
  exact oS
 refine oC (fun g11=>?_) fun g11=>?_
 ·refine vS (kZ d5 2 bO) fun x19 x20 h12=>?_
  dsimp only at h12
  have:=b9 f6
  have:=bA f6
  have:f8.size=3:=rfl
  have:=b9 x19
  have:=aD.wt_mk f8 ([x19]:List aA)
  have:cH.size=4:=rfl
  have:=kQ x2 x4
  have:=aD.wt_mk cH ([x2,x4]:List aA)
  have:=kQ (aD.mk f8 ([x19]:List aA)) (aD.mk cH ([x2,x4]:List aA))
  have:=aN.wt_mk cA ([f6]:LB) ([(aD.mk f8 ([x19]:List aA)),(aD.mk cH ([x2,x4]:List aA))]:List aD)
  exact oS
 refine oC (fun g13=>?_) fun g13=>?_
 ·have:cH.size=4:=rfl
  have:s_.size=0:=rfl
  have:WW.size=3:=rfl
  have:=EP cH s_ WW
  have:=bA cH
  have:=bA s_
  have:=bA WW
  refine Ok.lt fun d22 h14=>Ok.lt fun y24 h15=>?_
  have:=congrArg wt h15
  simp only [bA] at this
  have:y24.size≤4:=by rw [h15];exact DS.pick_size _ (by decide) (by decide)
  have:=b9 f6
  have:=bA f6
  have:=(aW:wl ([]:List aA)=0∧_)
  have:=aD.wt_mk y24 []
  have:=kQ x2 x4
  have:=aD.wt_mk cH ([x2,x4]:List aA)
  have:=kQ (aD.mk y24 []) (aD.mk cH ([x2,x4]:List aA))
  have:=aN.wt_mk cA ([f6]:LB) ([(aD.mk y24 []),(aD.mk cH ([x2,x4]:List aA))]:List aD)
  exact oS
 have:=b9 f6
 have:=bA f6
 have:f8.size=3:=rfl
 have:=(aW:wl ([]:List aA)=0∧_)
 have:=aD.wt_mk f8 []
 have:cH.size=4:=rfl
 have:=kQ x2 x4
 have:=aD.wt_mk cH ([x2,x4]:List aA)
 have:=kQ (aD.mk f8 []) (aD.mk cH ([x2,x4]:List aA))
 have:=aN.wt_mk cA ([f6]:LB) ([(aD.mk f8 []),(aD.mk cH ([x2,x4]:List aA))]:List aD)
 exact oS
def alI(fu:Nat):Prop:= ∀(pF:DS),Ok (EZ fu pF) (fun r=>wt r.1≤12000000)
theorem QO:bP alI:=(((((bP.ge 2147483648).and H8).and MA).and MB).and VT).imp fun fu ⟨⟨⟨⟨hfu,H8⟩,MA⟩,MB⟩,VT⟩ pF=>by
 refine Ok.lt fun d1 h1=>?_
 have:=DS.below_lt pF (n:=5) (by decide)
 have:=(aW:wl ([]:List aU)=0∧_)
 have:=(aW:wl ([]:List aN)=0∧_)
 have:=(aW:wl ([]:List aI)=0∧_)
 have:=(aW:wl ([]:List aO)=0∧_)
 refine Ok.sok (E:=fun(v9,v10,v11,v12,v4)=>wl v9+wl v10+wl v11+wl v12≤10000005) ?_ ?_
 ·refine Ok.loop0 (fun i3 (v9,v10,v11,v12,v4)=>wl v9+wl v10+wl v11+wl v12≤2000001*i3∧i3≤5) (by exact bO) (by rintro i3 ⟨v9,v10,v11,v12,v4⟩-hI;(try dsimp only at hI ⊢);omega) ?_;rintro i3 ⟨v9,v10,v11,v12,v4⟩ hl3 hI4
  dsimp only at hI4
  refine Ok.lt fun d15 h5=>?_;refine oC (fun g6=>?_) fun g6=>?_
  ·refine vS (H8 d15) fun x19 x20 h7=>?_
   dsimp only at h7
   have:=aZ (v9)
   have:=b9 x19
   refine oG fun z8=>?_
   have:=b0 v9 ([x19]:List aU)
   exact nY
  refine oC (fun g9=>?_) fun g9=>?_
  ·refine vS (MA d15) fun x24 x25 h10=>?_
   dsimp only at h10
   have:=aZ (v10)
   have:=b9 x24
   refine oG fun z11=>?_
   have:=b0 v10 ([x24]:List aN)
   exact nY
  refine oC (fun g12=>?_) fun g12=>?_
  ·refine vS (MB d15) fun x29 x30 h13=>?_
   dsimp only at h13
   have:=aZ (v11)
   have:=b9 x29
   refine oG fun z14=>?_
   have:=b0 v11 ([x29]:List aI)
   exact nY
  refine vS (VT d15) fun x33 x34 h15=>?_
  dsimp only at h15
  have:=aZ (v12)
  have:=b9 x33
  refine oG fun z16=>?_
  have:=b0 v12 ([x33]:List aO)
  exact nY
 rintro⟨v9,v10,v11,v12,v4⟩ h2
 dsimp only at h2
 refine Ok.lt fun d36 h17=>?_;refine oC (fun g18=>?_) fun g18=>?_
 ·have:s_.size=0:=rfl
  have:gH.size=4:=rfl
  have:=kQ s_ gH
  have:=bA s_
  have:=bA gH
  refine Ok.lt fun d39 h19=>Ok.lt fun y41 h20=>?_
  have:=congrArg wt h20
  simp only [bA] at this
  have:y41.size≤4:=by rw [h20];exact DS.pick_size _ (by decide) (by decide)
  have:=b9 gH
  have:=aM.wt_mk y41 ([gH]:LB) v9 v10 v11 v12
  exact oS
 refine oC (fun g21=>?_) fun g21=>?_
 ·have:gH.size=4:=rfl
  have:s_q.size=1:=rfl
  have:s_p.size=1:=rfl
  have:=EP gH s_q s_p
  have:=bA gH
  have:=bA s_q
  have:=bA s_p
  refine Ok.lt fun d44 h22=>Ok.lt fun y46 h23=>?_
  have:=congrArg wt h23
  simp only [bA] at this
  have:y46.size≤4:=by rw [h23];exact DS.pick_size _ (by decide) (by decide)
  have:=b9 gH
  have:=b9 y46
  have:=bA y46
  refine oG fun z24=>?_
  have:=b0 ([gH]:LB) ([y46]:LB)
  have:=aM.wt_mk s_p (([gH]:LB)++([y46]:LB)) v9 v10 v11 v12
  exact oS
 have:s_p.size=1:=rfl
 have:gH.size=4:=rfl
 have:=b9 gH
 have:=bA gH
 have:=aM.wt_mk s_p ([gH]:LB) v9 v10 v11 v12
 exact oS
def aeL(fu:Nat):Prop:= ∀(pc:DS),Ok (yC fu pc) (fun r=>wt r.1≤13000000)
theorem afD:bP aeL:=(((bP.ge 2147483648).and MF).and QO).imp fun fu ⟨⟨hfu,MF⟩,QO⟩ pc=>by
 refine vS (MF pc) fun x2 x3 h1=>?_
 dsimp only at h1
 refine Ok.lt fun d4 h2=>?_;refine oC (fun g3=>?_) fun g3=>?_
 ·refine vS (QO d4) fun x8 x9 h4=>?_
  dsimp only at h4
  have:=aF.wt_eq x2
  have:=aZ (x2.aB8)
  have:=b9 x8
  refine oG fun z5=>?_
  have:=b0 x2.aB8 ([x8]:List aM)
  have:=aF.wt_mk (x2.aB8++([x8]:List aM))
  exact oS
 have:=aF.wt_eq x2
 have:=aF.wt_mk x2.aB8
 exact oS
end Go.Proofs.YtfcoaagbccmahaaGreat.W
