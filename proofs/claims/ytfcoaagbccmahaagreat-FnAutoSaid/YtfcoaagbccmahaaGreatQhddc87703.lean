/- Words, rules and walks of several kinds, laid together. No conditions but those that each theorem states. -/
import Derived.Test.YtfcoaagbccmahaaGreatQhe54d4ad1
set_option linter.unusedSimpArgs false
set_option linter.unusedVariables false
namespace Go.Proofs.YtfcoaagbccmahaaGreat.W
set_option maxRecDepth 20000
set_option maxHeartbeats 4000000
open Go.RowKit Go.WalkArith Go.IntWalk
def QQ(fu:Nat):Prop:= ∀(px:UInt8),Ok (DB fu px) (fun _=>True)
theorem C0:bL QQ:=(bL.ge 2147483648).imp fun fu hfu px=>by
 refine oD (fun g1=>?_) fun g1=>?_
 ·refine oD (fun _=>oS) fun g2=>?_;refine oD (fun g3=>?_) fun g3=>?_
  ·exact oD (fun _=>oS) fun g4=>oD (fun _=>oS) fun g5=>oD (fun _=>oS) fun g6=>oD (fun _=>oS) fun g7=>oD (fun _=>oS) fun g8=>oD (fun _=>oS) fun g9=>oD (fun _=>oS) fun g10=>oS
  exact oD (fun _=>oS) fun g11=>oD (fun _=>oS) fun g12=>oD (fun _=>oS) fun g13=>oD (fun _=>oS) fun g14=>oD (fun _=>oS) fun g15=>oD (fun _=>oS) fun g16=>oS
 refine oD (fun g17=>?_) fun g17=>?_
 ·exact oD (fun _=>oS) fun g18=>oD (fun _=>oS) fun g19=>oD (fun _=>oS) fun g20=>oD (fun _=>oS) fun g21=>oD (fun _=>oS) fun g22=>oD (fun _=>oS) fun g23=>oD (fun _=>oS) fun g24=>oS
 exact oD (fun _=>oS) fun g25=>oD (fun _=>oS) fun g26=>oD (fun _=>oS) fun g27=>oD (fun _=>oS) fun g28=>oD (fun _=>oS) fun g29=>oD (fun _=>oS) fun g30=>oS
def aaG(fu:Nat):Prop:= ∀(px pC pD:Int),Ok (AI fu px pC pD) (fun _=>True)
theorem nK:bL aaG:=(bL.ge 2147483648).imp fun fu hfu px pC pD=>by
 exact oD (fun _=>oS) fun g1=>oS
def A9(fu:Nat):Prop:= ∀(ps:ByteArray),ps.size≤1073741824→Ok (vQ fu ps) (fun _=>True)
theorem m9:bL A9:=(((bL.ge 2147483648).and C0).and nK).imp fun fu ⟨⟨hfu,C0⟩,nK⟩ ps hpre=>by
 refine A0 ?_ ?_
 ·refine Ok.loop1 ?_;rintro i1 ⟨⟩ hl2
  exact oG fun z4=>oB (C0 (zF ps i1)) fun x6 _=>oW (fun _=>oR) fun g6=>mF
 rintro⟨⟩-
 exact oB (nK (ps.size:Int) 1 12) fun x9 _=>oS
def aa9(fu:Nat):Prop:= ∀(px:aB) (p3:Int),wt px≤1073741824→Ok (mK fu px p3) (fun _=>True)
def IV(n:Nat)(m:u6):Prop:= ∀(px:aB) (p3:Int),wt px<n→wt px≤1073741824→Ok (m px p3) (fun _=>True)
theorem ZU{n fu:Nat}(hfu:2147483648≤fu){p6:u6}(p8:IV n p6):IV (n+1) (KL fu p6):=by
 intro px p3 hm hpre
 refine oEN (fun i1 v2 hl2=>?_) ?_
 ·have:=aB.wt_eq px
  have:=aZ px.asF
  refine oD (fun g4=>?_) fun g4=>?_
  ·have:=cD px.asF i1 hl2
   exact oB (p8 (aP px.asF i1) v2 bF bF) fun x7 _=>mF
  exact oK
 intro v2 _
 exact oS
theorem acD(n:Nat):bL fun fu=>IV n (mK fu):=by
 induction n with
 |zero=>exact .all fun fu=>fun _ _ h=>absurd h (Nat.not_lt_zero _)
 |succ n ih=>exact bL.succ ((ih.and (bL.ge 2147483648)).imp fun fu ⟨h,hfu⟩=>fun px p3=>by rw [mK];exact ZU hfu h px p3)
theorem JJ:bL aa9:=(acD 8589934592).imp fun fu h px p3 hpre=>h px p3 bF hpre
def aa8(fu:Nat):Prop:= ∀(px:aB),wt px≤1073741824→Ok (mJ fu px) (fun _=>True)
def IU(n:Nat)(m:u5):Prop:= ∀(px:aB),wt px<n→wt px≤1073741824→Ok (m px) (fun _=>True)
theorem ZQ{n fu:Nat}(hfu:2147483648≤fu)(m9:A9 fu){p7:u5}(p9:IU n p7):IU (n+1) (KK fu p7):=by
 intro px hm hpre
 have:=aB.wt_eq px
 have:s_.size=0:=rfl
 refine oN (fun g1=>?_) fun g1=>?_
 ·have:=BE g1
  exact oB (m9 px.asK bF) fun x3 _=>oC (fun _=>oS) fun g3=>oS
 refine A0 ?_ ?_
 ·refine Ok.loop1 ?_;rintro i5 ⟨⟩ hl5
  have:=aZ px.asF
  have:=cD px.asF i5 hl5
  exact oB (p9 (aP px.asF i5) bF bF) fun x9 _=>oW (fun _=>oR) fun g8=>mF
 rintro⟨⟩-
 exact oS
theorem acC(n:Nat):bL fun fu=>IU n (mJ fu):=by
 induction n with
 |zero=>exact .all fun fu=>fun _ h=>absurd h (Nat.not_lt_zero _)
 |succ n ih=>exact bL.succ ((ih.and ((bL.ge 2147483648).and m9)).imp fun fu ⟨h,⟨hfu,m9⟩⟩=>fun px=>by rw [mJ];exact ZQ hfu m9 h px)
theorem JI:bL aa8:=(acC 8589934592).imp fun fu h px hpre=>h px bF hpre
def MU(fu:Nat):Prop:= ∀(pa pb:Int),Ok (IH fu pa pb) (fun _=>True)
theorem n7:bL MU:=(bL.ge 2147483648).imp fun fu hfu pa pb=>by
 exact oD (fun _=>oS) fun g1=>oS
def PE(fu:Nat):Prop:= ∀(px:aB),wt px≤1073741824→Ok (gD fu px) (fun _=>True)
def xD(n:Nat)(m:mI):Prop:= ∀(px:aB),wt px<n→wt px≤1073741824→Ok (m px) (fun _=>True)
theorem N4{n fu:Nat}(hfu:2147483648≤fu)(n7:MU fu){p1:mI}(p4:xD n p1):xD (n+1) (xN fu p1):=by
 intro px hm hpre
 have:=aB.wt_eq px
 have:s_.size=0:=rfl
 refine oN (fun _=>oS) fun g1=>?_;refine oEN (fun i2 v3 hl3=>?_) ?_
 ·have:=aZ px.asF
  have:=cD px.asF i2 hl3
  exact oB (p4 (aP px.asF i2) bF bF) fun x7 _=>oB (n7 v3 x7) fun x9 _=>mF
 intro v3 _
 exact oS
theorem P5(n:Nat):bL fun fu=>xD n (gD fu):=by
 induction n with
 |zero=>exact .all fun fu=>fun _ h=>absurd h (Nat.not_lt_zero _)
 |succ n ih=>exact bL.succ ((ih.and ((bL.ge 2147483648).and n7)).imp fun fu ⟨h,⟨hfu,n7⟩⟩=>fun px=>by rw [gD];exact N4 hfu n7 h px)
theorem xJ:bL PE:=(P5 8589934592).imp fun fu h px hpre=>h px bF hpre
def LH(fu:Nat):Prop:= ∀(px:aB),wt px≤1073741824→Ok (fU fu px) (fun _=>True)
theorem b7:bL LH:=((((bL.ge 2147483648).and JJ).and JI).and xJ).imp fun fu ⟨⟨⟨hfu,JJ⟩,JI⟩,xJ⟩ px hpre=>by
 refine oB (JJ px 900 bF) fun x2 _=>?_;refine oD (fun g2=>?_) fun g2=>?_
 ·refine oB (JI px bF) fun x5 _=>?_;refine oC (fun g4=>?_) fun g4=>?_
  ·exact oB (xJ px bF) fun x8 _=>oS
  exact oS
 exact oS
def zD(fu:Nat):Prop:= ∀(p0:List aB),wl p0≤1073741824→Ok (wA fu p0) (fun r=>wl r.1≤wl p0)
theorem fX:bL zD:=(bL.ge 2147483648).imp fun fu hfu p0 hpre=>by
 have:=(aT:wl ([]:LB)=0∧_)
 refine JR p0 1 (fun i1 v3 hl2 hI3 _ _=>?_) ?_
 ·have:=aZ p0
  have:=cD p0 i1 hl2
  have:=aB.wt_eq (aP p0 i1)
  have:s_.size=0:=rfl
  refine oD (fun _=>oR) fun g4=>?_
  have:=BE g4
  have:=aZ (v3)
  have:=bU ((aP p0 i1).asK)
  have:=aV ((aP p0 i1).asK)
  refine oG fun z5=>?_
  have:=bN v3 ([((aP p0 i1).asK)]:LB)
  exact mF
 intro v3 h1
 exact oS
def CS(fu:Nat):Prop:= ∀(ps:ByteArray),Ok (bV fu ps) (fun r=>wt r=ps.size)
theorem bE:bL CS:=(bL.ge 2147483648).imp fun fu hfu ps=>by
 have:=(aT:wl ([]:List aB)=0∧_)
 have:=aB.wt_mk ps []
 exact oS
def FC(fu:Nat):Prop:= ∀(p0:LB),wl p0≤1073741824→Ok (AO fu p0) (fun r=>wl r≤wl p0)
theorem kU:bL FC:=((bL.ge 2147483648).and bE).imp fun fu ⟨hfu,bE⟩ p0 hpre=>by
 have:=(aT:wl ([]:List aB)=0∧_)
 refine JR p0 1 (fun i1 v3 hl2 hI3 _ _=>?_) ?_
 ·have:=aZ p0
  have:=cD p0 i1 hl2
  have:=aV (aP p0 i1)
  refine oB (bE (aP p0 i1)) fun x7 h4=>?_
  have:=aZ (v3)
  have:=bU x7
  refine oG fun z5=>?_
  have:=bN v3 ([x7]:List aB)
  exact mF
 intro v3 h1
 exact oS
def QR(fu:Nat):Prop:= ∀(p0:List aB),wl p0≤1073741824→Ok (jZ fu p0) (fun r=>wt r=wl p0)
theorem dP:bL QR:=(bL.ge 2147483648).imp fun fu hfu p0 hpre=>by
 have:=(aT:wl ([]:List aB)=0∧_)
 have:=aZ (p0)
 refine oG fun z1=>?_
 have:s_.size=0:=rfl
 have:=bN ([]:List aB) p0
 have:=aB.wt_mk s_ (([])++p0)
 exact oS
def PB(fu:Nat):Prop:= ∀(pa pb:aB),wt pa≤1073741824→Ok (eM fu pa pb) (fun _=>True)
def xC(n:Nat)(m:mH):Prop:= ∀(pa pb:aB),wt pa<n→wt pa≤1073741824→Ok (m pa pb) (fun _=>True)
theorem NY{n fu:Nat}(hfu:2147483648≤fu){p2:mH}(p5:xC n p2):xC (n+1) (xL fu p2):=by
 intro pa pb hm hpre
 have:=aB.wt_eq pa
 have:=aB.wt_eq pb
 refine oN (fun _=>oS) fun g1=>?_
 have:=aZ pa.asF
 have:=aZ pb.asF
 refine oN (fun _=>oS) fun g2=>?_;refine A0 ?_ ?_
 ·refine Ok.loop1 ?_;rintro i3 ⟨⟩ hl4
  have:=aZ (pb.asF)
  refine oG fun z6=>?_
  have:=cD pa.asF i3 hl4
  have:=cD pb.asF i3 z6
  exact oB (p5 (aP pa.asF i3) (aP pb.asF i3) bF bF) fun x8 _=>oW (fun _=>oR) fun g8=>mF
 rintro⟨⟩-
 exact oS
theorem P0(n:Nat):bL fun fu=>xC n (eM fu):=by
 induction n with
 |zero=>exact .all fun fu=>fun _ _ h=>absurd h (Nat.not_lt_zero _)
 |succ n ih=>exact bL.succ ((ih.and (bL.ge 2147483648)).imp fun fu ⟨h,hfu⟩=>fun pa pb=>by rw [eM];exact NY hfu h pa pb)
theorem fC:bL PB:=(P0 8589934592).imp fun fu h pa pb hpre=>h pa pb bF hpre
end Go.Proofs.YtfcoaagbccmahaaGreat.W

namespace Go.Proofs.YtfcoaagbccmahaaGreat.W
set_option maxRecDepth 20000
set_option maxHeartbeats 4000000
open Go.RowKit Go.WalkArith Go.IntWalk
def MT(fu:Nat):Prop:= ∀(p0:LB) (ps:ByteArray),Ok (iW fu p0 ps) (fun _=>True)
theorem cZ:bL MT:=(bL.ge 2147483648).imp fun fu hfu p0 ps=>by
 refine A0 ?_ ?_
 ·refine Ok.loop1 ?_;rintro i1 ⟨⟩ hl2
  have:=aZ p0
  exact oD (fun _=>oR) fun g4=>mF
 rintro⟨⟩-
 exact oS
def PC(fu:Nat):Prop:= ∀(ps:ByteArray),Ok (sW fu ps) (fun _=>True)
theorem xH:bL PC:=((bL.ge 2147483648).and cZ).imp fun fu ⟨hfu,cZ⟩ ps=>by
 have:dK.size=3:=rfl
 have:c9.size=4:=rfl
 have:gI.size=5:=rfl
 have:uF.size=3:=rfl
 have:z0.size=2:=rfl
 have:AY.size=3:=rfl
 have:t3.size=4:=rfl
 have:AZ.size=3:=rfl
 have:mC.size=6:=rfl
 have:t4.size=4:=rfl
 have:mQ.size=4:=rfl
 have:jO.size=5:=rfl
 have:wl ([dK,c9,gI,uF,z0,AY,t3,AZ,mC,t4,mQ,jO]:LB)=58:=rfl
 exact oB (cZ ([dK,c9,gI,uF,z0,AY,t3,AZ,mC,t4,mQ,jO]:LB) ps) fun x2 _=>oS
def vE(fu:Nat):Prop:= ∀(ps:ByteArray),Ok (cO fu ps) (fun _=>True)
theorem bB:bL vE:=(((bL.ge 2147483648).and nK).and xH).imp fun fu ⟨⟨hfu,nK⟩,xH⟩ ps=>by
 refine oB (nK (ps.size:Int) 1 8) fun x2 _=>oW (fun _=>oS) fun g2=>oB (xH ps) fun x5 _=>oC (fun _=>oS) fun g4=>?_;refine A0 ?_ ?_
 ·refine Ok.loop1 ?_;rintro i7 ⟨⟩ hl6
  refine oG fun z8=>?_;refine oD (fun g9=>?_) fun g9=>?_
  ·refine oW (fun g10=>?_) fun g10=>?_
   ·exact oD (fun _=>oR) fun g11=>oD (fun _=>oR) fun g12=>oD (fun _=>oR) fun g13=>mF
   exact mF
  exact oD (fun _=>oR) fun g14=>oD (fun _=>oR) fun g15=>oD (fun _=>oR) fun g16=>mF
 rintro⟨⟩-
 exact oS
def MW(fu:Nat):Prop:= ∀(p0:LB),Ok (AP fu p0) (fun _=>True)
theorem nA:bL MW:=((bL.ge 2147483648).and bB).imp fun fu ⟨hfu,bB⟩ p0=>by
 refine A0 ?_ ?_
 ·refine Ok.loop1 ?_;rintro i1 ⟨⟩ hl2
  have:=aZ p0
  have:=cD p0 i1 hl2
  have:=aV (aP p0 i1)
  exact oB (bB (aP p0 i1)) fun x5 _=>oW (fun _=>oR) fun g5=>mF
 rintro⟨⟩-
 exact oS
def A7(fu:Nat):Prop:= ∀(p0:LB),Ok (iH fu p0) (fun _=>True)
theorem dL:bL A7:=((bL.ge 2147483648).and cZ).imp fun fu ⟨hfu,cZ⟩ p0=>by
 refine A0 ?_ ?_
 ·refine Ok.loop1 ?_;rintro i1 ⟨⟩ hl2
  have:=aZ p0
  refine oG fun z4=>?_
  have:=MN (0:Int).toNat (i1:Int).toNat p0
  have:=cD p0 i1 hl2
  have:=aV (aP p0 i1)
  exact oB (cZ (List.drop (0:Int).toNat (List.take (i1:Int).toNat p0)) (aP p0 i1)) fun x6 _=>oC (fun _=>oR) fun g6=>mF
 rintro⟨⟩-
 exact oS
def MY(fu:Nat):Prop:= ∀(ps:ByteArray),Ok (kO fu ps) (fun r=>wt r=ps.size)
theorem dJ:bL MY:=(bL.ge 2147483648).imp fun fu hfu ps=>by
 have:=(aT:wl ([]:List aA)=0∧_)
 have:=aA.wt_mk 1 ps []
 exact oS
def MX(fu:Nat):Prop:= ∀(ps:ByteArray) (pD:List aA),ps.size+wl pD≤1073741824→Ok (eJ fu ps pD) (fun r=>wt r=ps.size+wl pD)
theorem cU:bL MX:=(bL.ge 2147483648).imp fun fu hfu ps pD hpre=>by
 have:=(aT:wl ([]:List aA)=0∧_)
 have:=aZ (pD)
 refine oG fun z1=>?_
 have:=bN ([]:List aA) pD
 have:=aA.wt_mk 2 ps (([])++pD)
 exact oS
def R5(fu:Nat):Prop:= ∀(p3:aA),wt p3≤67108864→Ok (kQ fu p3) (fun r=>wt r+1≤8*(wt p3+1))
def RZ(n:Nat)(m:w8):Prop:= ∀(p3:aA),wt p3<n→wt p3≤67108864→Ok (m p3) (fun r=>wt r+1≤8*(wt p3+1))
theorem aeA{n fu:Nat}(hfu:2147483648≤fu)(bE:CS fu)(dP:QR fu){pK:w8}(pP:RZ n pK):RZ (n+1) (UE fu pK):=by
 intro p3 hm hpre
 refine A0 ?_ ?_
 ·have:=aA.wt_eq p3
  refine oD (fun g2=>?_) fun g2=>?_
  ·have:acS.size=1:=rfl
   refine oG fun z3=>?_
   have:=eB acS p3.asD
   exact oB (bE (acS++p3.asD)) fun x4 h4=>oL
  refine oD (fun g5=>?_) fun g5=>?_
  ·have:uF.size=3:=rfl
   refine oB (bE uF) fun x7 h6=>oB (bE p3.asD) fun x9 h7=>?_
   have:=iJ x7 x9
   exact oB (dP ([x7,x9]:List aB) bF) fun x11 h8=>oL
  refine oD (fun g9=>?_) fun g9=>?_
  ·have:=aZ p3.asG
   refine oD (fun g10=>?_) fun g10=>?_
   ·exact oB (bE p3.asD) fun x15 h11=>oL
   exact oI
  exact oI
 rintro⟨⟩-
 refine Ok.sok (E:=fun v17=>wl v17≤6) ?_ ?_
 ·have:=aA.wt_eq p3
  refine oD (fun g13=>?_) fun g13=>?_
  ·have:gI.size=5:=rfl
   refine oB (bE gI) fun x20 h14=>?_
   have:=(aT:wl ([]:List aB)=0∧_)
   have:=bU x20
   refine oG fun z15=>?_
   have:=bN ([]:List aB) ([x20]:List aB)
   exact oI
  have:=(aT:wl ([]:List aB)=0∧_)
  exact oI
 intro v17 h12
 have:=aA.wt_eq p3
 refine oB (bE p3.asD) fun x23 h16=>?_
 have:=aZ (v17)
 have:=bU x23
 refine oG fun z17=>?_
 have:=bN v17 ([x23]:List aB)
 refine JR p3.asG 8 (fun i25 v27 hl19 hI20 _ _=>?_) ?_
 ·have:=aZ p3.asG
  have:=cD p3.asG i25 hl19
  refine oB (pP (aP p3.asG i25) bF bF) fun x31 h21=>?_
  have:=aZ (v27)
  have:=bU x31
  refine oG fun z22=>?_
  have:=bN v27 ([x31]:List aB)
  exact mF
 intro v27 h18
 have:s_.size=0:=rfl
 have:=aB.wt_mk s_ v27
 exact oS
theorem afC(n:Nat):bL fun fu=>RZ n (kQ fu):=by
 induction n with
 |zero=>exact .all fun fu=>fun _ h=>absurd h (Nat.not_lt_zero _)
 |succ n ih=>exact bL.succ ((ih.and (((bL.ge 2147483648).and bE).and dP)).imp fun fu ⟨h,⟨⟨hfu,bE⟩,dP⟩⟩=>fun p3=>by rw [kQ];exact aeA hfu bE dP h p3)
theorem f9:bL R5:=(afC 8589934592).imp fun fu h p3 hpre=>h p3 bF hpre
def abD(fu:Nat):Prop:= ∀(pt:aA) (pC:Int),wt pt≤1073741824→Ok (mM fu pt pC) (fun _=>True)
def IX(n:Nat)(m:vB):Prop:= ∀(pt:aA) (pC:Int),wt pt<n→wt pt≤1073741824→Ok (m pt pC) (fun _=>True)
theorem Z2{n fu:Nat}(hfu:2147483648≤fu){pE:vB}(pL:IX n pE):IX (n+1) (KM fu pE):=by
 intro pt pC hm hpre
 refine oEN (fun i1 v2 hl2=>?_) ?_
 ·have:=aA.wt_eq pt
  have:=aZ pt.asG
  refine oD (fun g4=>?_) fun g4=>?_
  ·have:=cD pt.asG i1 hl2
   exact oB (pL (aP pt.asG i1) v2 bF bF) fun x7 _=>mF
  exact oK
 intro v2 _
 exact oS
theorem acH(n:Nat):bL fun fu=>IX n (mM fu):=by
 induction n with
 |zero=>exact .all fun fu=>fun _ _ h=>absurd h (Nat.not_lt_zero _)
 |succ n ih=>exact bL.succ ((ih.and (bL.ge 2147483648)).imp fun fu ⟨h,hfu⟩=>fun pt pC=>by rw [mM];exact Z2 hfu h pt pC)
theorem JM:bL abD:=(acH 8589934592).imp fun fu h pt pC hpre=>h pt pC bF hpre
def R3(fu:Nat):Prop:= ∀(pt:aA),wt pt≤1073741824→Ok (iB fu pt) (fun _=>True)
def zA(n:Nat)(m:nO):Prop:= ∀(pt:aA),wt pt<n→wt pt≤1073741824→Ok (m pt) (fun _=>True)
theorem QA{n fu:Nat}(hfu:2147483648≤fu)(n7:MU fu){p8:nO}(pJ:zA n p8):zA (n+1) (zZ fu p8):=by
 intro pt hm hpre
 refine oEN (fun i1 v2 hl2=>?_) ?_
 ·have:=aA.wt_eq pt
  have:=aZ pt.asG
  have:=cD pt.asG i1 hl2
  refine oB (pJ (aP pt.asG i1) bF bF) fun x6 _=>?_
  have:=dU (1+x6)
  exact oB (n7 v2 (aY (1+x6))) fun x8 _=>mF
 intro v2 _
 exact oS
theorem S4(n:Nat):bL fun fu=>zA n (iB fu):=by
 induction n with
 |zero=>exact .all fun fu=>fun _ h=>absurd h (Nat.not_lt_zero _)
 |succ n ih=>exact bL.succ ((ih.and ((bL.ge 2147483648).and n7)).imp fun fu ⟨h,⟨hfu,n7⟩⟩=>fun pt=>by rw [iB];exact QA hfu n7 h pt)
theorem zP:bL R3:=(S4 8589934592).imp fun fu h pt hpre=>h pt bF hpre
def QT(fu:Nat):Prop:= ∀(ps:ByteArray),Ok (vA fu ps) (fun _=>True)
theorem uY:bL QT:=(bL.ge 2147483648).imp fun fu hfu ps=>by
 exact oD (fun _=>oS) fun g1=>oS
def abB(fu:Nat):Prop:= ∀(p3:aA),wt p3≤1073741824→Ok (jG fu p3) (fun _=>True)
def IW(n:Nat)(m:qT):Prop:= ∀(p3:aA),wt p3<n→wt p3≤1073741824→Ok (m p3) (fun _=>True)
theorem ZZ{n fu:Nat}(hfu:2147483648≤fu)(bB:vE fu)(uY:QT fu){pF:qT}(pM:IW n pF):IW (n+1) (DI fu pF):=by
 intro p3 hm hpre
 have:=aA.wt_eq p3
 refine oB (bB p3.asD) fun x2 _=>?_;refine A0 ?_ ?_
 ·refine A0 ?_ ?_
  ·exact oD (fun _=>oI) fun g4=>oI
  intro v4 _
  refine oC (fun g5=>?_) fun g5=>?_
  ·exact oC (fun _=>oI) fun g6=>oI
  refine oD (fun g7=>?_) fun g7=>?_
  ·exact oC (fun _=>oI) fun g8=>oI
  refine oD (fun g9=>?_) fun g9=>?_
  ·refine oC (fun g10=>?_) fun g10=>?_
   ·exact oD (fun _=>oI) fun g11=>oB (uY p3.asD) fun x14 _=>oC (fun _=>oI) fun g13=>oI
   exact oB (uY p3.asD) fun x17 _=>oC (fun _=>oI) fun g15=>oI
  exact oL
 intro v3 _
 refine oEN (fun i19 v20 hl17=>?_) ?_
 ·have:=aZ p3.asG
  refine oC (fun g19=>?_) fun g19=>?_
  ·have:=cD p3.asG i19 hl17
   exact oB (pM (aP p3.asG i19) bF bF) fun x25 _=>mF
  exact mF
 intro v20 _
 exact oS
theorem acG(n:Nat):bL fun fu=>IW n (jG fu):=by
 induction n with
 |zero=>exact .all fun fu=>fun _ h=>absurd h (Nat.not_lt_zero _)
 |succ n ih=>exact bL.succ ((ih.and (((bL.ge 2147483648).and bB).and uY)).imp fun fu ⟨h,⟨⟨hfu,bB⟩,uY⟩⟩=>fun p3=>by rw [jG];exact ZZ hfu bB uY h p3)
theorem JL:bL abB:=(acG 8589934592).imp fun fu h p3 hpre=>h p3 bF hpre
def BA(fu:Nat):Prop:= ∀(pt:aA),wt pt≤1073741824→Ok (fS fu pt) (fun _=>True)
theorem dM:bL BA:=((((bL.ge 2147483648).and JM).and zP).and JL).imp fun fu ⟨⟨⟨hfu,JM⟩,zP⟩,JL⟩ pt hpre=>by
 refine oB (JM pt 60 bF) fun x2 _=>?_;refine oD (fun g2=>?_) fun g2=>?_
 ·refine oB (zP pt bF) fun x5 _=>?_;refine oD (fun g4=>?_) fun g4=>?_
  ·exact oB (JL pt bF) fun x8 _=>oS
  exact oS
 exact oS
def GU(fu:Nat):Prop:= ∀(pa pb:aA),wt pa≤1073741824→Ok (eH fu pa pb) (fun _=>True)
def uH(n:Nat)(m:iA):Prop:= ∀(pa pb:aA),2*wt pa+1<n→wt pa≤1073741824→Ok (m pa pb) (fun _=>True)
def CR(n:Nat)(m:mN):Prop:= ∀(pa pb:List aA),2*wl pa<n→wl pa≤1073741824→Ok (m pa pb) (fun _=>True)
theorem P4{n fu:Nat}(hfu:2147483648≤fu){p1:iA}(p9:uH n p1){p4:mN}(pG:CR n p4):uH (n+1) (uP fu p1 p4):=by
 intro pa pb hm hpre
 have:=aA.wt_eq pa
 have:=aA.wt_eq pb
 refine oD (fun g1=>?_) fun g1=>?_
 ·refine oD (fun g2=>?_) fun g2=>?_
  ·exact oB (pG pa.asG pb.asG bF bF) fun x4 _=>oS
  exact oS
 exact oS
theorem Z5{n fu:Nat}(hfu:2147483648≤fu){p1:iA}(p9:uH n p1){p4:mN}(pG:CR n p4):CR (n+1) (y1 fu p1 p4):=by
 intro pa pb hm hpre
 have:=aZ pa
 have:=aZ pb
 refine oN (fun _=>oS) fun g1=>?_;refine A0 ?_ ?_
 ·refine Ok.loop1 ?_;rintro i2 ⟨⟩ hl3
  have:=aZ (pb)
  refine oG fun z5=>?_
  have:=cD pa i2 hl3
  have:=cD pb i2 z5
  exact oB (p9 (aP pa i2) (aP pb i2) bF bF) fun x7 _=>oW (fun _=>oR) fun g7=>mF
 rintro⟨⟩-
 exact oS
theorem S1(n:Nat):bL fun fu=>uH n (eH fu)∧CR n (iN fu):=by
 induction n with
 |zero=>exact .all fun fu=>⟨fun _ _ h=>absurd h (Nat.not_lt_zero _),fun _ _ h=>absurd h (Nat.not_lt_zero _)⟩
 |succ n ih=>exact bL.succ ((ih.and (bL.ge 2147483648)).imp fun fu ⟨h,hfu⟩=>⟨fun pa pb=>by rw [eH];exact P4 hfu h.1 h.2 pa pb,fun pa pb=>by rw [iN];exact Z5 hfu h.1 h.2 pa pb⟩)
theorem rE:bL GU:=(S1 8589934592).imp fun fu h pa pb hpre=>h.1 pa pb bF hpre
def abF(fu:Nat):Prop:= ∀(pt:aA) (p7:LB),wt pt+wl p7≤268435456→Ok (mO fu pt p7) (fun r=>wl r≤wl p7+wt pt+1)
def IY(n:Nat)(m:sS):Prop:= ∀(pt:aA) (p7:LB),wt pt<n→wt pt+wl p7≤268435456→Ok (m pt p7) (fun r=>wl r≤wl p7+wt pt+1)
theorem Z9{n fu:Nat}(hfu:2147483648≤fu)(cZ:MT fu){pH:sS}(pO:IY n pH):IY (n+1) (KN fu pH):=by
 intro pt p7 hm hpre
 have:=aA.wt_eq pt
 refine Ok.sok (E:=fun v2=>wl v2+wl pt.asG≤wl p7+wt pt+1) ?_ ?_
 ·refine oD (fun g2=>?_) fun g2=>?_
  ·refine oB (cZ p7 pt.asD) fun x5 _=>?_;refine oW (fun g4=>?_) fun g4=>?_
   ·have:=aZ (p7)
    have:=bU pt.asD
    have:=aV pt.asD
    refine oG fun z5=>?_
    have:=bN p7 ([pt.asD]:LB)
    exact oI
   exact oI
  exact oI
 intro v2 h1
 refine JR pt.asG 1 (fun i8 v10 hl7 hI8 _ _=>?_) ?_
 ·have:=aZ pt.asG
  have:=cD pt.asG i8 hl7
  exact oB (pO (aP pt.asG i8) v10 bF bF) fun x14 h9=>mF
 intro v10 h6
 exact oS
theorem acK(n:Nat):bL fun fu=>IY n (mO fu):=by
 induction n with
 |zero=>exact .all fun fu=>fun _ _ h=>absurd h (Nat.not_lt_zero _)
 |succ n ih=>exact bL.succ ((ih.and ((bL.ge 2147483648).and cZ)).imp fun fu ⟨h,⟨hfu,cZ⟩⟩=>fun pt p7=>by rw [mO];exact Z9 hfu cZ h pt p7)
theorem JN:bL abF:=(acK 8589934592).imp fun fu h pt p7 hpre=>h pt p7 bF hpre
def I1(fu:Nat):Prop:= ∀(pt:aA),wt pt≤268435456→Ok (sI fu pt) (fun r=>wl r≤wt pt+1)
theorem r9:bL I1:=((bL.ge 2147483648).and JN).imp fun fu ⟨hfu,JN⟩ pt hpre=>by
 have:=(aT:wl ([]:LB)=0∧_)
 exact oB (JN pt ([]:LB) bF) fun x2 h1=>oS
def I0(fu:Nat):Prop:= ∀(pt:aA),wt pt≤1073741824→Ok (eC fu pt) (fun _=>True)
def rY(n:Nat)(m:jE):Prop:= ∀(pt:aA),wt pt<n→wt pt≤1073741824→Ok (m pt) (fun _=>True)
theorem H1{n fu:Nat}(hfu:2147483648≤fu){p5:jE}(pA:rY n p5):rY (n+1) (sH fu p5):=by
 intro pt hm hpre
 refine A0 ?_ ?_
 ·refine Ok.loop1 ?_;rintro i1 ⟨⟩ hl2
  have:=aA.wt_eq pt
  have:=aZ pt.asG
  have:=cD pt.asG i1 hl2
  exact oB (pA (aP pt.asG i1) bF bF) fun x5 _=>oC (fun _=>oR) fun g5=>mF
 rintro⟨⟩-
 exact oS
theorem JX(n:Nat):bL fun fu=>rY n (eC fu):=by
 induction n with
 |zero=>exact .all fun fu=>fun _ h=>absurd h (Nat.not_lt_zero _)
 |succ n ih=>exact bL.succ ((ih.and (bL.ge 2147483648)).imp fun fu ⟨h,hfu⟩=>fun pt=>by rw [eC];exact H1 hfu h pt)
theorem jD:bL I0:=(JX 8589934592).imp fun fu h pt hpre=>h pt bF hpre
def A8(fu:Nat):Prop:= ∀(pt:aA) (pv:ByteArray),wt pt+pv.size≤1073741824→Ok (c6 fu pt pv) (fun _=>True)
def mY(n:Nat)(m:e8):Prop:= ∀(pt:aA) (pv:ByteArray),wt pt<n→wt pt+pv.size≤1073741824→Ok (m pt pv) (fun _=>True)
theorem A3{n fu:Nat}(hfu:2147483648≤fu){p2:e8}(p6:mY n p2):mY (n+1) (nD fu p2):=by
 intro pt pv hm hpre
 refine A0 ?_ ?_
 ·refine oD (fun g2=>?_) fun g2=>?_
  ·exact oD (fun _=>oI) fun g3=>oI
  exact oI
 intro v1 _
 refine oEN (fun i4 v5 hl5=>?_) ?_
 ·have:=aA.wt_eq pt
  have:=aZ pt.asG
  have:=cD pt.asG i4 hl5
  exact oB (p6 (aP pt.asG i4) pv bF bF) fun x9 _=>mF
 intro v5 _
 exact oS
theorem BZ(n:Nat):bL fun fu=>mY n (c6 fu):=by
 induction n with
 |zero=>exact .all fun fu=>fun _ _ h=>absurd h (Nat.not_lt_zero _)
 |succ n ih=>exact bL.succ ((ih.and (bL.ge 2147483648)).imp fun fu ⟨h,hfu⟩=>fun pt pv=>by rw [c6];exact A3 hfu h pt pv)
theorem m8:bL A8:=(BZ 8589934592).imp fun fu h pt pv hpre=>h pt pv bF hpre
def UP(fu:Nat):Prop:= ∀(pv:ByteArray) (pt:aA),pv.size+wt pt≤1073741824→Ok (B3 fu pv pt) (fun _=>True)
theorem BO:bL UP:=((bL.ge 2147483648).and m8).imp fun fu ⟨hfu,m8⟩ pv pt hpre=>by
 exact oB (m8 pt pv bF) fun x2 _=>oS
end Go.Proofs.YtfcoaagbccmahaaGreat.W

namespace Go.Proofs.YtfcoaagbccmahaaGreat.W
open Go.RowKit Go.WalkArith Go.IntWalk
theorem ae6(d:DS)(l:LB):0<l.length→(d.pick l).size+1≤wl l:=fun h=>by
 have:=pZ (d.pick_mem h)
 exact this
theorem abM(d:DS)(n:Nat):0<n→d.below n<n:=fun h=>d.below_lt h
theorem aeI(E:Int): -9223372036854775808≤aY E∧aY E≤9223372036854775807:=by
 unfold aY IntKind.wrap
 simp [IntKind.bits,IntKind.signed]
 omega
inductive EV:aG→Prop
 |mk {k:Int} {t n:ByteArray} {i:Int} {ty:aA} {args:List aG} {arms:List bH} (h:(k=2→0≤i∧i≤1)∧(k=1→i.natAbs≤9223372036854775808)) (ha: ∀a∈args,EV a) (hm: ∀m∈arms,EV m.asM):EV (.mk k t n i ty args arms)
theorem EV.num{e:aG}(h:EV e):(e.asJ=2→0≤e.atN∧e.atN≤1)∧(e.asJ=1→e.atN.natAbs≤9223372036854775808):=by cases h;assumption
theorem EV.arg{e:aG}(h:EV e): ∀a∈e.asG,EV a:=by cases h;assumption
theorem EV.arm{e:aG}(h:EV e): ∀m∈e.asV,EV m.asM:=by cases h;assumption
theorem EV.zero:EV (aG.mk 0 s_ s_ 0 (aA.mk 0 s_ []) [] []):= .mk ⟨by omega,by omega⟩ (by simp) (by simp)
section
variable {α:Type}
theorem aaI{P:α→Prop}: ∀a∈([]:List α),P a:=by simp
theorem ac3{P:α→Prop}{l:List α}{x:α}(h: ∀a∈l,P a)(hx:P x): ∀a∈l++ [x],P a:=by
 intro a ha
 rcases List.mem_append.1 ha with ha|ha
 ·exact h a ha
 ·obtain rfl:=List.mem_singleton.1 ha
  exact hx
theorem R8 [Inhabited α]{P:α→Prop}{l:List α}{i:Nat}(h: ∀a∈l,P a)(hi:i<l.length):P (aP l i):=h _ (dO hi)
variable [Wt α]
theorem X5(a:List α)(x:α):(a.length=0→wl (List.drop 1 (a++ [x]))=0)∧(0<a.length→wl (List.drop 1 (a++ [x]))=wl (List.drop 1 a)+wt x+1):=by
 cases a with
 |nil=>exact⟨fun _=>rfl,fun h=>by simp at h⟩
 |cons b a=>exact⟨fun h=>by simp at h,fun _=>by simp only [List.cons_append,List.drop_succ_cons,List.drop_zero];rw [(bN _ _).1,(bU _).1];omega⟩
theorem ahK(v:List α):wl (List.drop (1:Int).toNat (List.take (((v.length:Nat):Int):Int).toNat v))=wl (List.drop 1 v):=by
 have:List.take (((v.length:Nat):Int):Int).toNat v=v:=by simp
 rw [this]
 rfl
theorem uM(L:List α)(x:Int)(k:Nat):(((k:Int)≤((L.length:Nat):Int)∧x=k)∨(((L.length:Nat):Int)≤k∧x=((L.length:Nat):Int)))→wl (List.drop (x:Int).toNat (List.take (((L.length:Nat):Int):Int).toNat L))+wl (List.take k L)≤wl L:=by
 have e:List.take (((L.length:Nat):Int):Int).toNat L=L:=by simp
 rw [e]
 rintro(⟨h,rfl⟩|⟨h,rfl⟩)
 ·have:=CO k L
  simp only [Int.toNat_natCast]
  omega
 ·simp only [Int.toNat_natCast,List.drop_length]
  have:=l4 L k
  show 0+_≤_
  omega
theorem ae5(L:List α)(x:Int):(((2:Int)≤((L.length:Nat):Int)∧x=2)∨(((L.length:Nat):Int)≤2∧x=((L.length:Nat):Int)))→wl (List.drop (1:Int).toNat (List.take (x:Int).toNat L))+wl (List.take 1 L)≤wl (List.take 2 L):=by
 have key: ∀M:List α,wl (List.drop (1:Int).toNat M)+wl (List.take 1 M)=wl M:=fun M=>by
  have:=CO 1 M
  show wl (List.drop 1 M)+_=_
  omega
 rintro(⟨h,rfl⟩|⟨h,rfl⟩)
 ·have:=key (L.take 2)
  rw [List.take_take] at this
  exact Nat.le_of_eq this
 ·have h2:L.length≤2:=by omega
  have:=key L
  rw [show List.take (((L.length:Nat):Int):Int).toNat L=L by simp,List.take_of_length_le h2]
  exact Nat.le_of_eq this
variable [Inhabited α]
theorem YW(L:List α)(a b c:α)(k k1:Nat)(hk:k+1=k1):(k<L.length→wt (aP ((([])++L)++([a,b,c]:List α)) k)+1+wl (List.take k L)=wl (List.take k1 L))∧(L.length≤k→k<L.length+3→wt (aP ((([])++L)++([a,b,c]:List α)) k)≤wt a+wt b+wt c∧wl (List.take k L)=wl L∧wl (List.take k1 L)=wl L)∧wl (List.take k1 L)≤wl L:=by
 subst hk
 rw [List.nil_append]
 refine⟨fun h=>?_,fun h h3=>⟨?_,by rw [List.take_of_length_le h],by rw [List.take_of_length_le (by omega)]⟩,l4 L _⟩
 ·have h2:=l5 L k h
  have e:aP (L++ [a,b,c]) k=aP L k:=by
   unfold aP
   rw [List.getElem?_append_left h]
  rw [e]
  omega
 ·have e:aP (L++ [a,b,c]) k=aP [a,b,c] (k-L.length):=by
   unfold aP
   rw [List.getElem?_append_right h]
  rw [e]
  have:k-L.length=0∨k-L.length=1∨k-L.length=2:=by omega
  rcases this with h|h|h<;>rw [h]<;>simp [aP]<;>omega
end
theorem oX{α β:Type}[Wt α]{v:List α}{x:α}{PA:α→Prop}{E:List α→Prop}{Q:β→Prop}{m:List α→Prop}(hB: ∀a∈v,PA a)(h:m (v++ [x]):=by first|omega|(dsimp only;omega))(hx:PA x:=by first|assumption|exact EV.zero):Ok (some (LR.next (v++ [x]))) (PL Q (fun v=>m v∧ ∀a∈v,PA a) E):=⟨_,rfl,h,ac3 hB hx⟩
theorem UO{α:Type}{P1 P2:α→Prop}{a:α}(h:P1 a:=by first|omega|(dsimp only;omega))(k:P2 a:=by first|assumption|exact EV.zero|exact .mk ⟨by omega,by omega⟩ (by first|assumption|exact aaI) (by first|assumption|exact aaI)):Ok (some a) (fun a=>P1 a∧P2 a):=⟨a,rfl,h,k⟩
def ag7(p r:cS):Prop:=r.atO=p.atO∧p.as7≤r.as7∧r.as7≤((p.atO.size:Nat):Int)∧r.as3=p.as3∧r.atA=p.atA
def QS(fu:Nat):Prop:= ∀p:cS,0≤p.as7→p.as7≤((p.atO.size:Nat):Int)→p.atO.size≤1048576→Ok (u9 fu p) (ag7 p)
theorem RC:bL QS:=(bL.ge 2147483648).imp fun fu hfu p h0 h1 h2=>by
 unfold u9
 refine Ok.sok (E:=fun v1=>p.as7≤v1∧v1≤((p.atO.size:Nat):Int)) ?_ (fun v1 h=>Ok.some ⟨rfl,h.1,h.2,rfl,rfl⟩)
 refine Ok.loopW (fun v1=>p.as7≤v1∧v1≤((p.atO.size:Nat):Int)) (fun v1=>(((p.atO.size:Nat):Int)-v1).toNat) ?_ _ _ bF bF
 intro v1 hI
 have:=dU (v1+1)
 unfold OQ
 refine Ok.swd (fun g=>?_) (fun g=>Ok.brk hI)
 refine Ok.gdk bF (fun z=>?_)
 refine Ok.swd (fun _=>Ok.next bF) (fun _=>?_)
 refine Ok.swd (fun _=>Ok.next bF) (fun _=>Ok.brk hI)
def U1(p:cS)(r:aB×cS):Prop:=r.2.atO=p.atO∧p.as7≤r.2.as7∧r.2.as7≤((p.atO.size:Nat):Int)∧(r.2.atA=false→r.2.as3=p.as3∧(wt r.1:Int)+1≤2*(r.2.as7-p.as7))
def ac1(n:Nat)(r:cS→Option (aB×cS)):Prop:= ∀p:cS,(14-p.as3).toNat<n→0≤p.as7→p.as7≤((p.atO.size:Nat):Int)→p.atO.size≤1048576→0≤p.as3→p.as3≤14→p.atA=false→Ok (r p) (U1 p)
theorem ZW(n fu:Nat)(hfu:2147483648≤fu)(k1:QS fu)(k2:QQ fu)(r:u7)(hr:ac1 n r):ac1 (n+1) (DF fu r):=by
 intro p hn h0 h1 h2 hd hd2 hb
 unfold DF
 refine Ok.bd (k1 p h0 h1 h2) ?_;rintro x ⟨e1,e2,e3,e4,e5⟩
 have e3':x.as7≤((x.atO.size:Nat):Int):=by rw [e1];exact e3
 have bad: ∀v:Int,p.as7≤v→v≤((p.atO.size:Nat):Int)→Ok (some ((aB.mk s_ []),(cS.mk x.atO v x.as3 (aY (x.as6+1)) true))) (U1 p):=fun v hv hv2=>Ok.some ⟨e1,hv,hv2,fun h=>by cases h⟩
 refine Ok.swd (fun _=>bad _ e2 e3) (fun g1=>?_)
 refine Ok.swd (fun _=>bad _ e2 e3) (fun g2=>?_)
 refine Ok.sok (E:=fun v=>x.as7≤v∧v≤((x.atO.size:Nat):Int)) ?_ ?_
 ·have hz:x.atO.size≤1048576:=by rw [e1];exact h2
  refine Ok.loopW (fun v1=>x.as7≤v1∧v1≤((x.atO.size:Nat):Int)) (fun v1=>(((x.atO.size:Nat):Int)-v1).toNat) ?_ _ _ bF bF
  intro v1 hI
  have:=dU (v1+1)
  unfold OO
  refine Ok.swd (fun g=>?_) (fun g=>Ok.brk hI)
  refine Ok.gdk bF (fun z=>?_)
  refine Ok.bd (k2 _) ?_;rintro b-
  exact Ok.sw (fun _=>Ok.next bF) (fun _=>Ok.brk hI)
 intro v hv
 refine Ok.swd (fun g3=>?_) (fun g3=>?_)
 ·refine Ok.gdk bF (fun z=>Ok.some ⟨e1,by show _≤v;omega,by show v≤_;rw [← e1];exact hv.2,fun _=>⟨e4,?_⟩⟩)
  show(wt (aB.mk _ []):Int)+1≤2*(v-p.as7)
  rw [aB.wt_mk,zG]
  have:wl ([]:List aB)=0:=rfl
  omega
 ·refine Ok.gdk bF (fun z=>?_)
  have hvp:v≤((p.atO.size:Nat):Int):=by rw [← e1];exact hv.2
  refine Ok.swn (fun _=>bad _ (by omega) hvp) (fun g4=>?_)
  refine Ok.swd (fun _=>bad _ (by omega) hvp) (fun g5=>?_)
  have w1:=dU (v+1)
  have w2:=dU (x.as3+1)
  have hz:x.atO.size≤1048576:=by rw [e1];exact h2
  refine Ok.sok (E:=fun(q:ByteArray×Int×Int×Int×Bool×List aB)=>q.1=p.atO∧p.as7≤q.2.1∧q.2.1≤((p.atO.size:Nat):Int)∧q.2.2.2.2.1=true) ?_ ?_
  ·refine Ok.loopW (fun(q:ByteArray×Int×Int×Int×Bool×List aB)=>q.1=p.atO∧v+1≤q.2.1∧q.2.1≤((p.atO.size:Nat):Int)∧(q.2.2.2.2.1=false→q.2.2.1=p.as3+1∧(wl q.2.2.2.2.2:Int)≤2*(q.2.1-(v+1)))) (fun q=>(2*(((p.atO.size:Nat):Int)-q.2.1)).toNat+(if q.2.2.2.2.1 then 0 else 1)) ?_ _ _ ?_ ?_
   ·rintro⟨v17,v18,v19,v20,v21,v23⟩ ⟨i1,i2,i3,i4⟩
    dsimp only at i1 i2 i3 i4
    subst i1
    unfold OP
    refine Ok.swb (fun g6=>?_) (fun g6=>Ok.brk ⟨rfl,by show p.as7≤v18;omega,i3,g6⟩)
    subst g6
    obtain⟨i5,i6⟩:=i4 rfl
    subst i5
    refine Ok.bd (k1 _ (by show 0≤v18;omega) i3 h2) ?_;rintro y ⟨f1,f2,f3,f4,f5⟩
    replace f1:y.atO=p.atO:=f1
    replace f2:v18≤y.as7:=f2
    replace f3:y.as7≤((p.atO.size:Nat):Int):=f3
    replace f4:y.as3=p.as3+1:=f4
    replace f5:y.atA=false:=f5
    have hl:=aZ v23
    have step: ∀q:aB×cS,U1 y q→Ok (gd ((v23).length+(([q.1]:List aB)).length≤68719476736) (some (LR.next (q.2.atO,q.2.as7,q.2.as3,q.2.as6,q.2.atA,(v23++([q.1]:List aB)))))) (PL (U1 p) (fun s'=>(fun(q:ByteArray×Int×Int×Int×Bool×List aB)=>q.1=p.atO∧v+1≤q.2.1∧q.2.1≤((p.atO.size:Nat):Int)∧(q.2.2.2.2.1=false→q.2.2.1=p.as3+1∧(wl q.2.2.2.2.2:Int)≤2*(q.2.1-(v+1)))) s'∧(fun(q:ByteArray×Int×Int×Int×Bool×List aB)=>(2*(((p.atO.size:Nat):Int)-q.2.1)).toNat+(if q.2.2.2.2.1 then 0 else 1)) s'<(fun(q:ByteArray×Int×Int×Int×Bool×List aB)=>(2*(((p.atO.size:Nat):Int)-q.2.1)).toNat+(if q.2.2.2.2.1 then 0 else 1)) (p.atO,v18,p.as3+1,v20,false,v23)) (fun(q:ByteArray×Int×Int×Int×Bool×List aB)=>q.1=p.atO∧p.as7≤q.2.1∧q.2.1≤((p.atO.size:Nat):Int)∧q.2.2.2.2.1=true)):=by
     rintro⟨a,b⟩ ⟨j1,j2,j3,j4⟩
     dsimp only at j1 j2 j3 j4
     have j3':b.as7≤((p.atO.size:Nat):Int):=by rw [← f1];exact j3
     have l1:=bU a
     refine Ok.gdk (by dsimp only;omega) (fun _=>Ok.next ⟨⟨j1.trans f1,by show v+1≤b.as7;omega,j3',fun hb2=>?_⟩,?_⟩)
     ·obtain⟨j5,j6⟩:=j4 hb2
      refine⟨by show b.as3=_;rw [j5,f4],?_⟩
      show(wl (v23++ [a]):Int)≤2*(b.as7-(v+1))
      have:=bN v23 [a]
      omega
     ·dsimp only
      cases hbb:b.atA with
      |true=>rw [if_pos rfl,if_neg Bool.false_ne_true];omega
      |false=>
       obtain⟨j5,j6⟩:=j4 hbb
       rw [if_neg Bool.false_ne_true]
       omega
    have call:Ok (r y) (U1 y):=hr y (by rw [f4];omega) (by omega) (by rw [f1];exact f3) (by rw [f1];exact h2) (by rw [f4];omega) (by rw [f4];omega) f5
    have w3:=dU (y.as7+1)
    have w4:=dU (y.as3-1)
    have hys:y.atO.size=p.atO.size:=by rw [f1]
    refine Ok.swd (fun g7=>?_) (fun g7=>Ok.bd call step)
    refine Ok.gdk (by omega) (fun z2=>?_)
    refine Ok.swd (fun g8=>Ok.ret ⟨f1,by show p.as7≤aY _;omega,by show aY _≤_;omega,fun _=>⟨by show aY _=_;omega,?_⟩⟩) (fun g8=>Ok.bd call step)
    show(wt (aB.mk s_ v23):Int)+1≤2*(aY (y.as7+1)-p.as7)
    rw [aB.wt_mk]
    have:s_.size=0:=rfl
    omega
   ·dsimp only
    have: ∀b:Bool,(if b then 0 else 1)≤1:=by decide
    have:=this x.atA
    omega
   ·have hxs:x.atO.size=p.atO.size:=by rw [e1]
    refine⟨e1,by dsimp only;omega,by dsimp only;omega,fun _=>⟨by dsimp only;omega,?_⟩⟩
    show((wl ([]:List aB):Nat):Int)≤2*(aY (v+1)-(v+1))
    have:wl ([]:List aB)=0:=rfl
    omega
  ·rintro⟨v17,v18,v19,v20,v21,v23⟩ ⟨i1,i2,i3,i4⟩
   dsimp only at i1 i2 i3 i4
   exact Ok.some ⟨i1,i2,i3,fun h=>by rw [show v21=false from h] at i4;cases i4⟩
theorem acE(n:Nat):bL fun fu=>ac1 n (nR fu):=by
 induction n with
 |zero=>exact .all fun fu p h=>absurd h (Nat.not_lt_zero _)
 |succ n ih=>
  refine bL.succ ((ih.and (((bL.ge 2147483648).and RC).and C0)).imp fun fu h=>?_)
  intro p
  rw [nR]
  exact ZW n fu h.2.1.1 h.2.1.2 h.2.2 _ h.1 p
def PD(fu:Nat):Prop:= ∀ps:ByteArray,ps.size≤1048576→Ok (sY fu ps) (fun r=>wt r.1≤2*ps.size)
theorem xI:bL PD:=(((acE 15).and RC).and b7).imp fun fu hh ps h=>by
 obtain⟨⟨k1,k2⟩,k3⟩:=hh
 have zero: ∀b:Bool,Ok (some ((aB.mk s_ []),b)) (fun r=>wt r.1≤2*ps.size):=fun b=>Ok.some (by
  show wt (aB.mk s_ [])≤_
  rw [aB.wt_mk]
  have:s_.size=0:=rfl
  have:wl ([]:List aB)=0:=rfl
  omega)
 unfold sY
 refine Ok.bd (k1 _ (by show(14-(0:Int)).toNat<15;omega) (Int.le_refl _) (by show(0:Int)≤_;omega) h (Int.le_refl _) (by show(0:Int)≤14;omega) rfl) ?_;rintro⟨x,r⟩ ⟨e1,e2,e3,e4⟩
 dsimp only at e1 e2 e3 e4
 replace e1:r.atO=ps:=e1
 replace e2:0≤r.as7:=e2
 replace e3:r.as7≤((ps.size:Nat):Int):=e3
 refine Ok.bd (k2 r e2 (by rw [e1];exact e3) (by rw [e1];exact h)) ?_;rintro y ⟨f1,f2,f3,f4,f5⟩
 refine Ok.sw (fun _=>zero _) (fun g=>?_)
 obtain⟨-,e5⟩:=e4 (by rw [← f5];exact g)
 replace e5:(wt x:Int)+1≤2*(r.as7-0):=e5
 refine Ok.swn (fun _=>zero _) (fun _=>?_)
 refine Ok.bd (k3 x (by omega)) ?_;rintro b-
 exact Ok.swb (fun _=>zero _) (fun _=>Ok.some (by show wt x≤_;omega))
theorem agR{v:Int}{k:Nat}(h:v.natAbs<10^(k+1)):(v.tdiv 10).natAbs<10^k:=by
 rw [Int.natAbs_tdiv,Nat.pow_succ] at*
 show v.natAbs/10<_
 omega
def zC(fu:Nat):Prop:= ∀pn:Int,pn.natAbs≤9223372036854775808→Ok (lW fu pn) (fun r=>r.size≤21)
theorem j8:bL zC:=(bL.ge 18446744073709551616).imp fun fu hfu pn h=>by
 unfold lW
 refine Ok.swd (fun _=>Ok.some (by decide)) (fun _=>?_)
 refine Ok.sok (E:=fun q:Int×ByteArray=>q.2.size≤20) ?_ ?_
 ·refine Ok.loopW (fun q:Int×ByteArray=>q.1.natAbs≤9223372036854775808∧ ∃k,q.2.size+k≤19∧q.1.natAbs<10^k) (fun q=>q.1.natAbs) ?_ _ _ (by dsimp only;omega) ⟨h,19,by show(0:Nat)+19≤19;omega,by dsimp only;omega⟩
  rintro⟨v2,v3⟩ ⟨h1,k,h2,h3⟩
  dsimp only at h1 h2 h3
  unfold EP
  refine Ok.swn (fun g=>?_) (fun _=>Ok.brk (by dsimp only;omega))
  obtain⟨k,rfl⟩: ∃m,k=m+1:=by
   rcases k with _|m
   ·exfalso
    have:(10:Nat)^0=1:=rfl
    omega
   ·exact⟨m,rfl⟩
  have h4:=agR h3
  have h5:(v2.tdiv 10).natAbs<v2.natAbs:=by
   rw [Int.natAbs_tdiv]
   show v2.natAbs/10<_
   omega
  have w:=dU (v2.tdiv 10)
  have w:aY (v2.tdiv 10)=v2.tdiv 10:=w (by omega)
  have fin: ∀u:UInt8,Ok (gd ((bytesStr ([u]:List UInt8)).size+(v3).size≤1099511627776) (some (LR.next ((aY ((v2).tdiv 10)),((bytesStr ([u]:List UInt8))++v3))))) (PL (fun r:ByteArray=>r.size≤21) (fun s'=>(fun q:Int×ByteArray=>q.1.natAbs≤9223372036854775808∧ ∃k,q.2.size+k≤19∧q.1.natAbs<10^k) s'∧(fun q:Int×ByteArray=>q.1.natAbs) s'<(fun q:Int×ByteArray=>q.1.natAbs) (v2,v3)) (fun q:Int×ByteArray=>q.2.size≤20)):=fun u=>by
   have e1:=ac8 [u]
   have e2: [u].length=1:=rfl
   have e3:=eB (bytesStr [u]) v3
   refine Ok.gdk (by omega) (fun _=>Ok.next ⟨⟨by dsimp only;rw [w];omega,k,by dsimp only;omega,by dsimp only;rw [w];exact h4⟩,by dsimp only;rw [w];exact h5⟩)
  exact Ok.swd (fun _=>fin _) (fun _=>fin _)
 ·rintro⟨v2,v3⟩ hv
  dsimp only at hv
  have:A5.size=1:=rfl
  have:=eB A5 v3
  exact Ok.swd (fun _=>Ok.gdk (by omega) (fun _=>Ok.some bF)) (fun _=>Ok.some bF)
def wK(fu:Nat):Prop:= ∀ps:ByteArray,Ok (wV fu ps) (fun r=>r.1.natAbs≤9223372036854775808)
theorem j9:bL wK:=j8.imp fun fu k ps=>by
 have rng: ∀E:Int,(aY E).natAbs≤9223372036854775808:=fun E=>by have:=aeI E;omega
 have fin: ∀v:Int,v.natAbs≤9223372036854775808→Ok (bd (lW fu v) (fun x18=>sw (!decide (x18=ps)) (some ((0:Int),false)) (some (v,true)))) (fun r=>r.1.natAbs≤9223372036854775808):=fun v hv=>by
  refine Ok.bd (k v hv) ?_;rintro x-
  exact Ok.swn (fun _=>Ok.some (by decide)) (fun _=>Ok.some hv)
 have loop: ∀(f:Nat→Int→Option (LR Int (Int×Bool))) (n:Nat),(∀i s,i<n→Ok (f i s) (PL (fun r:Int×Bool=>r.1.natAbs≤9223372036854775808) (fun v:Int=>v.natAbs≤9223372036854775808) (fun v:Int=>v.natAbs≤9223372036854775808)))→Ok (loopN f (n-0) 0 0) (PS (fun r:Int×Bool=>r.1.natAbs≤9223372036854775808) (fun v:Int=>v.natAbs≤9223372036854775808)):=fun f n hf=>Ok.loop0 (fun _ v=>v.natAbs≤9223372036854775808) (by decide) (fun i s _ h=>h) (fun i s hi _=>hf i s hi)
 unfold wV
 refine Ok.bd (Q:=fun r:Int×Bool=>r.1.natAbs≤9223372036854775808) ?_ (fun r hr=>by obtain⟨a,b⟩:=r;exact Ok.some hr)
 unfold KJ
 have hps:((ps.size:Nat):Int)=((ps.size:Nat):Int):=rfl
 refine Ok.swd (fun g=>?_) (fun g=>?_)
 ·refine Ok.gdk (by omega) (fun _=>?_)
  refine Ok.sok (E:=fun _=>True) ?_ ?_
  ·unfold OJ
   exact Ok.swd (fun _=>Ok.gdk (by omega) (fun _=>Ok.inr trivial)) (fun _=>Ok.inr trivial)
  rintro v3-
  refine Ok.swd (fun _=>Ok.some (by decide)) (fun _=>?_)
  refine Ok.swd (fun _=>Ok.some (by decide)) (fun _=>?_)
  refine Ok.sok (E:=fun v:Int=>v.natAbs≤9223372036854775808) ?_ ?_
  ·refine loop _ _ (fun i s hi=>?_)
   unfold OL
   refine Ok.gdk hi (fun _=>?_)
   exact Ok.swd (fun _=>Ok.ret (by decide)) (fun _=>Ok.swd (fun _=>Ok.ret (by decide)) (fun _=>Ok.next (rng _)))
  intro v9 hv
  refine Ok.sok (E:=fun v:Int=>v.natAbs≤9223372036854775808) ?_ ?_
  ·unfold OK
   exact Ok.swd (fun _=>Ok.inr (rng _)) (fun _=>Ok.inr hv)
  intro v15 hv
  exact fin v15 hv
 ·refine Ok.swd (fun _=>Ok.some (by decide)) (fun _=>?_)
  refine Ok.swd (fun _=>Ok.some (by decide)) (fun _=>?_)
  refine Ok.sok (E:=fun v:Int=>v.natAbs≤9223372036854775808) ?_ (fun v hv=>fin v hv)
  refine loop _ _ (fun i s hi=>?_)
  unfold OM
  refine Ok.gdk hi (fun _=>?_)
  exact Ok.swd (fun _=>Ok.ret (by decide)) (fun _=>Ok.swd (fun _=>Ok.ret (by decide)) (fun _=>Ok.next (rng _)))
end Go.Proofs.YtfcoaagbccmahaaGreat.W

namespace Go.Proofs.YtfcoaagbccmahaaGreat.W
set_option maxRecDepth 20000
set_option maxHeartbeats 4000000
open Go.RowKit Go.WalkArith Go.IntWalk
attribute [local irreducible] wt wl
def MA(fu:Nat):Prop:= ∀(p0:aB),wt p0≤268435456→Ok (kR fu p0) (fun r=>wt r≤2*wt p0)
def R0(n:Nat)(m:DP):Prop:= ∀(p0:aB),wt p0<n→wt p0≤268435456→Ok (m p0) (fun r=>wt r≤2*wt p0)
theorem aeC{n fu:Nat}(hfu:2147483648≤fu)(dJ:MY fu)(cU:MX fu){pE:DP}(pF:R0 n pE):R0 (n+1) (UF fu pE):=by
 intro p0 hm hpre
 have:=aB.wt_eq p0
 have:s_.size=0:=rfl
 refine oN (fun g1=>?_) fun g1=>?_
 ·have:=BE g1
  refine oG fun z2=>?_;refine oD (fun g3=>?_) fun g3=>?_
  ·refine oG fun z4=>?_
   have:=zG p0.asK (1:Int).toNat (p0.asK.size:Int).toNat
   exact oB (dJ (p0.asK.extract (1:Int).toNat (p0.asK.size:Int).toNat)) fun x6 h5=>oS
  have:=(aT:wl ([]:List aA)=0∧_)
  exact oB (cU p0.asK ([]:List aA) bF) fun x8 h6=>oS
 have:=aZ p0.asF
 refine oD (fun g7=>?_) fun g7=>?_
 ·have:=(aT:wl ([]:List aA)=0∧_)
  have:=aA.wt_mk 0 s_ []
  exact oS
 have:=aZ (p0.asF)
 refine oG fun z8=>?_
 have:=(aT:wl ([]:List aA)=0∧_)
 refine Ok.sok (E:=fun v13=>wl v13+2*wl (List.take 1 p0.asF)≤wl ([]:List aA)+2*wl p0.asF∧(v13.length=0∨wl (List.drop 1 v13)+2*wl (List.take 2 p0.asF)≤2*wl p0.asF)) ?_ ?_
 ·refine Ok.loop0 (fun i11 v13=>wl v13+2*wl (List.take 1 p0.asF)≤wl ([]:List aA)+2*wl (List.take i11 p0.asF)∧((i11=1∧v13.length=0)∨(2≤i11∧1≤v13.length∧wl (List.drop 1 v13)+2*wl (List.take 2 p0.asF)≤2*wl (List.take i11 p0.asF)))) (by exact bF) (by rintro i11 v13-hI;have:=l4 p0.asF i11;(try dsimp only at hI ⊢);omega) ?_;rintro i11 v13 hl10 hI11
  have:=l5 p0.asF i11 hl10
  have:=l4 p0.asF (i11+1)
  have:=cD p0.asF i11 hl10
  refine oB (pF (aP p0.asF i11) bF bF) fun x17 h12=>?_
  have:=aZ (v13)
  have:=bU x17
  refine oG fun z13=>?_
  have:=bN v13 ([x17]:List aA)
  have:=X5 v13 x17
  have:=UK p0.asF 2 (i11+1)
  exact Ok.next bF
 intro v13 h9
 have:=cD p0.asF 0 z8
 have:wl (List.take 1 p0.asF)=wl (List.take 0 p0.asF)+wt (aP p0.asF 0)+1:=EU p0.asF 0 z8
 have:=aB.wt_eq (aP p0.asF 0)
 have:gI.size=5:=rfl
 refine oD (fun g14=>?_) fun g14=>?_
 ·have:=congrArg ByteArray.size g14
  have:=aZ v13
  refine oD (fun g15=>?_) fun g15=>?_
  ·refine oG fun z16=>?_
   have:=cD p0.asF 1 z16
   have:wl (List.take 2 p0.asF)=wl (List.take 1 p0.asF)+wt (aP p0.asF 1)+1:=EU p0.asF 1 z16
   have:=aB.wt_eq (aP p0.asF 1)
   refine oN (fun g17=>?_) fun g17=>?_
   ·have:=BE g17
    refine oG fun z18=>?_
    have:=uM v13 1 1
    have:=ahK v13
    have:=aA.wt_mk 3 ((aP p0.asF 1).asK) (List.drop (1:Int).toNat (List.take (v13.length:Int).toNat v13))
    exact oS
   have:uF.size=3:=rfl
   refine oD (fun g19=>?_) fun g19=>?_
   ·have:=congrArg ByteArray.size g19
    have:=aA.wt_mk 2 ((aP p0.asF 0).asK) v13
    exact oS
   have:=aA.wt_mk 2 ((aP p0.asF 0).asK) v13
   exact oS
  have:uF.size=3:=rfl
  refine oD (fun g20=>?_) fun g20=>?_
  ·have:=congrArg ByteArray.size g20
   refine oD (fun g21=>?_) fun g21=>?_
   ·refine oG fun z22=>?_
    have:=cD p0.asF 1 z22
    have:wl (List.take 2 p0.asF)=wl (List.take 1 p0.asF)+wt (aP p0.asF 1)+1:=EU p0.asF 1 z22
    have:=aB.wt_eq (aP p0.asF 1)
    refine oN (fun g23=>?_) fun g23=>?_
    ·have:=BE g23
     have:=aA.wt_mk 4 ((aP p0.asF 1).asK) []
     exact oS
    have:=aA.wt_mk 2 ((aP p0.asF 0).asK) v13
    exact oS
   have:=aA.wt_mk 2 ((aP p0.asF 0).asK) v13
   exact oS
  have:=aA.wt_mk 2 ((aP p0.asF 0).asK) v13
  exact oS
 have:uF.size=3:=rfl
 refine oD (fun g24=>?_) fun g24=>?_
 ·have:=congrArg ByteArray.size g24
  have:=aZ v13
  refine oD (fun g25=>?_) fun g25=>?_
  ·refine oG fun z26=>?_
   have:=cD p0.asF 1 z26
   have:wl (List.take 2 p0.asF)=wl (List.take 1 p0.asF)+wt (aP p0.asF 1)+1:=EU p0.asF 1 z26
   have:=aB.wt_eq (aP p0.asF 1)
   refine oN (fun g27=>?_) fun g27=>?_
   ·have:=BE g27
    have:=aA.wt_mk 4 ((aP p0.asF 1).asK) []
    exact oS
   have:=aA.wt_mk 2 ((aP p0.asF 0).asK) v13
   exact oS
  have:=aA.wt_mk 2 ((aP p0.asF 0).asK) v13
  exact oS
 have:=aA.wt_mk 2 ((aP p0.asF 0).asK) v13
 exact oS
theorem afD(n:Nat):bL fun fu=>R0 n (kR fu):=by
 induction n with
 |zero=>exact .all fun fu=>fun _ h=>absurd h (Nat.not_lt_zero _)
 |succ n ih=>exact bL.succ ((ih.and (((bL.ge 2147483648).and dJ).and cU)).imp fun fu ⟨h,⟨⟨hfu,dJ⟩,cU⟩⟩=>fun p0=>by rw [kR];exact aeC hfu dJ cU h p0)
theorem fO:bL MA:=(afD 8589934592).imp fun fu h p0 hpre=>h p0 bF hpre
def xT(fu:Nat):Prop:= ∀(pn:Int),pn.natAbs≤9223372036854775808→Ok (qP fu pn) (fun r=>wt r=0∧EV r)
theorem eF:bL xT:=(bL.ge 2147483648).imp fun fu hfu pn hpre=>by
 have:s_.size=0:=rfl
 have:=(aT:wl ([]:List aA)=0∧_)
 have:=aA.wt_mk 0 s_ []
 have:=(aT:wl ([]:List aG)=0∧_)
 have:=(aT:wl ([]:List bH)=0∧_)
 have:=aG.wt_mk 1 s_ s_ pn (aA.mk 0 s_ []) [] []
 exact UO
def xU(fu:Nat):Prop:= ∀(ps:ByteArray),Ok (sN fu ps) (fun r=>wt r=ps.size∧EV r)
theorem eL:bL xU:=(bL.ge 2147483648).imp fun fu hfu ps=>by
 have:s_.size=0:=rfl
 have:=(aT:wl ([]:List aA)=0∧_)
 have:=aA.wt_mk 0 s_ []
 have:=(aT:wl ([]:List aG)=0∧_)
 have:=(aT:wl ([]:List bH)=0∧_)
 have:=aG.wt_mk 3 s_ ps 0 (aA.mk 0 s_ []) [] []
 exact UO
def GX(fu:Nat):Prop:= ∀(pa pb:Int),Ok (nG fu pa pb) (fun r=>(pa≤pb∧r=pa)∨(pb≤pa∧r=pb))
theorem gH:bL GX:=(bL.ge 2147483648).imp fun fu hfu pa pb=>by
 exact oD (fun _=>oS) fun g1=>oS
def XQ(fu:Nat):Prop:= ∀(p0:aB),wt p0≤67108864→Ok (fK fu p0) (fun r=>wt r≤2*wt p0∧EV r)
def vD(n:Nat)(m:hH):Prop:= ∀(p0:aB),2*wt p0+1<n→wt p0≤67108864→Ok (m p0) (fun r=>wt r≤2*wt p0∧EV r)
def s7(n:Nat)(m:f6):Prop:= ∀(p4:List aB),2*wl p4<n→wl p4≤67108864→Ok (m p4) (fun r=>wl r≤2*wl p4∧ ∀a∈r,EV a)
def xS(n:Nat)(m:jF):Prop:= ∀(px:aB),2*wt px+1<n→wt px≤67108864→Ok (m px) (fun r=>wt r≤2*wt px∧EV r.asM)
theorem WO{n fu:Nat}(hfu:2147483648≤fu)(j9:wK fu)(eF:xT fu)(eL:xU fu)(gH:GX fu)(fO:MA fu)(fX:zD fu){p5:hH}(p8:vD n p5){p3:f6}(p1:s7 n p3){p6:jF}(pA:xS n p6):vD (n+1) (GD fu p5 p3 p6):=by
 intro p0 hm hpre
 have:=aB.wt_eq p0
 have:s_.size=0:=rfl
 refine oN (fun g1=>?_) fun g1=>?_
 ·have:=BE g1
  refine rT (j9 p0.asK) fun x3 x4 h2=>?_
  dsimp only at h2
  refine oC (fun g3=>?_) fun g3=>?_
  ·exact K2 (eF x3 bF) fun x7 h4 h4B=>UO
  have:mQ.size=4:=rfl
  refine oD (fun g5=>?_) fun g5=>?_
  ·have:=congrArg ByteArray.size g5
   have:=(aT:wl ([]:List aA)=0∧_)
   have:=aA.wt_mk 0 s_ []
   have:=(aT:wl ([]:List aG)=0∧_)
   have:=(aT:wl ([]:List bH)=0∧_)
   have:=aG.wt_mk 2 s_ s_ 1 (aA.mk 0 s_ []) [] []
   exact UO
  have:jO.size=5:=rfl
  refine oD (fun g6=>?_) fun g6=>?_
  ·have:=congrArg ByteArray.size g6
   have:=(aT:wl ([]:List aA)=0∧_)
   have:=aA.wt_mk 0 s_ []
   have:=(aT:wl ([]:List aG)=0∧_)
   have:=(aT:wl ([]:List bH)=0∧_)
   have:=aG.wt_mk 2 s_ s_ 0 (aA.mk 0 s_ []) [] []
   exact UO
  exact K2 (eL p0.asK) fun x11 h7 h7B=>UO
 have:=(aT:wl ([]:List aB)=0∧_)
 have:=aZ (p0.asF)
 refine oG fun z8=>?_
 have:=bN ([]:List aB) p0.asF
 have:=aB.wt_mk s_ []
 have:=zR (aB.mk s_ []) (aB.mk s_ []) (aB.mk s_ [])
 refine oG fun z9=>?_
 have:=bN (([])++p0.asF) ([(aB.mk s_ []),(aB.mk s_ []),(aB.mk s_ [])]:List aB)
 refine oG fun z10=>?_
 have:=YW p0.asF (aB.mk s_ []) (aB.mk s_ []) (aB.mk s_ []) 1 2 rfl
 refine Ok.lt fun y15 h11=>?_
 have:=congrArg wt h11
 refine oG fun z12=>?_
 have:=YW p0.asF (aB.mk s_ []) (aB.mk s_ []) (aB.mk s_ []) 0 1 rfl
 refine Ok.lt fun y18 h13=>?_
 have:=congrArg wt h13
 have:=aB.wt_eq y18
 have:KA.size=4:=rfl
 refine oD (fun g14=>?_) fun g14=>?_
 ·have:=congrArg ByteArray.size g14
  have:=aZ p0.asF
  refine oB (gH 2 (p0.asF.length:Int)) fun x22 h15=>oG fun z16=>?_
  have:=uM p0.asF x22 2
  refine K2 (p1 (List.drop (x22:Int).toNat (List.take (p0.asF.length:Int).toNat p0.asF)) bF bF) fun x25 h17 h17B=>?_
  have:=aB.wt_eq y15
  have:=(aT:wl ([]:List aA)=0∧_)
  have:=aA.wt_mk 0 s_ []
  have:=(aT:wl ([]:List bH)=0∧_)
  have:=aG.wt_mk 4 s_ y15.asK 0 (aA.mk 0 s_ []) x25 []
  exact UO
 have:mC.size=6:=rfl
 refine oD (fun g18=>?_) fun g18=>?_
 ·have:=congrArg ByteArray.size g18
  refine oG fun z19=>?_
  have:=YW p0.asF (aB.mk s_ []) (aB.mk s_ []) (aB.mk s_ []) 2 3 rfl
  refine Ok.lt fun y28 h20=>?_
  have:=congrArg wt h20
  have:=aZ p0.asF
  refine oB (gH 3 (p0.asF.length:Int)) fun x31 h21=>oG fun z22=>?_
  have:=uM p0.asF x31 3
  refine K2 (p1 (List.drop (x31:Int).toNat (List.take (p0.asF.length:Int).toNat p0.asF)) bF bF) fun x34 h23 h23B=>?_
  have:=aB.wt_eq y15
  have:=aB.wt_eq y28
  have:=(aT:wl ([]:List aA)=0∧_)
  have:=aA.wt_mk 0 s_ []
  have:=(aT:wl ([]:List bH)=0∧_)
  have:=aG.wt_mk 5 y15.asK y28.asK 0 (aA.mk 0 s_ []) x34 []
  exact UO
 have:AZ.size=3:=rfl
 refine oD (fun g24=>?_) fun g24=>?_
 ·have:=congrArg ByteArray.size g24
  have:=aZ p0.asF
  refine oB (gH 2 (p0.asF.length:Int)) fun x37 h25=>oG fun z26=>?_
  have:=uM p0.asF x37 2
  refine K2 (p1 (List.drop (x37:Int).toNat (List.take (p0.asF.length:Int).toNat p0.asF)) bF bF) fun x40 h27 h27B=>?_
  have:=aB.wt_eq y15
  have:=(aT:wl ([]:List aA)=0∧_)
  have:=aA.wt_mk 0 s_ []
  have:=(aT:wl ([]:List bH)=0∧_)
  have:=aG.wt_mk 6 s_ y15.asK 0 (aA.mk 0 s_ []) x40 []
  exact UO
 have:AY.size=3:=rfl
 refine oD (fun g28=>?_) fun g28=>?_
 ·have:=congrArg ByteArray.size g28
  have:=aZ p0.asF
  refine oB (gH 2 (p0.asF.length:Int)) fun x43 h29=>oG fun z30=>?_
  have:=uM p0.asF x43 2
  refine K2 (p1 (List.drop (x43:Int).toNat (List.take (p0.asF.length:Int).toNat p0.asF)) bF bF) fun x46 h31 h31B=>?_
  have:=aB.wt_eq y15
  have:=(aT:wl ([]:List aA)=0∧_)
  have:=aA.wt_mk 0 s_ []
  have:=(aT:wl ([]:List bH)=0∧_)
  have:=aG.wt_mk 8 s_ y15.asK 0 (aA.mk 0 s_ []) x46 []
  exact UO
 have:z0.size=2:=rfl
 refine oD (fun g32=>?_) fun g32=>?_
 ·have:=congrArg ByteArray.size g32
  have:=aZ p0.asF
  refine oG fun z33=>?_
  have:=uM p0.asF 1 1
  refine K2 (p1 (List.drop (1:Int).toNat (List.take (p0.asF.length:Int).toNat p0.asF)) bF bF) fun x50 h34 h34B=>?_
  have:=(aT:wl ([]:List aA)=0∧_)
  have:=aA.wt_mk 0 s_ []
  have:=(aT:wl ([]:List bH)=0∧_)
  have:=aG.wt_mk 9 s_ s_ 0 (aA.mk 0 s_ []) x50 []
  exact UO
 have:t4.size=4:=rfl
 refine oD (fun g35=>?_) fun g35=>?_
 ·have:=congrArg ByteArray.size g35
  have:=aZ p0.asF
  refine oB (gH 2 (p0.asF.length:Int)) fun x53 h36=>oG fun z37=>?_
  have:=uM p0.asF x53 2
  refine K2 (p1 (List.drop (x53:Int).toNat (List.take (p0.asF.length:Int).toNat p0.asF)) bF bF) fun x56 h38 h38B=>?_
  have:=aB.wt_eq y15
  have:=(aT:wl ([]:List aA)=0∧_)
  have:=aA.wt_mk 0 s_ []
  have:=(aT:wl ([]:List bH)=0∧_)
  have:=aG.wt_mk 11 y15.asK s_ 0 (aA.mk 0 s_ []) x56 []
  exact UO
 have:RI.size=3:=rfl
 refine oD (fun g39=>?_) fun g39=>?_
 ·have:=congrArg ByteArray.size g39
  refine oB (fO y15 bF) fun x59 h40=>?_
  have:=aZ p0.asF
  refine oB (gH 2 (p0.asF.length:Int)) fun x61 h41=>oG fun z42=>?_
  have:=uM p0.asF x61 2
  refine K2 (p1 (List.drop (x61:Int).toNat (List.take (p0.asF.length:Int).toNat p0.asF)) bF bF) fun x64 h43 h43B=>?_
  have:=(aT:wl ([]:List bH)=0∧_)
  have:=aG.wt_mk 12 s_ s_ 0 x59 x64 []
  exact UO
 have:t3.size=4:=rfl
 refine oD (fun g44=>?_) fun g44=>?_
 ·have:=congrArg ByteArray.size g44
  have:=aZ p0.asF
  refine oB (gH 2 (p0.asF.length:Int)) fun x67 h45=>oG fun z46=>?_
  have:=ae5 p0.asF x67
  refine K2 (p1 (List.drop (1:Int).toNat (List.take (x67:Int).toNat p0.asF)) bF bF) fun x70 h47 h47B=>?_
  have:=(aT:wl ([]:List bH)=0∧_)
  refine aeY (PA:=fun a=>EV a.asM) p0.asF 2 (fun i71 v73 hl49 hI50 hI50B _ _=>?_) ?_
  ·have:=cD p0.asF i71 hl49
   refine K2 (pA (aP p0.asF i71) bF bF) fun x77 h51 h51B=>?_
   have:=aZ (v73)
   have:=bU x77
   refine oG fun z52=>?_
   have:=bN v73 ([x77]:List bH)
   exact oX hI50B
  rintro v73 ⟨h48,h48B⟩
  have:=(aT:wl ([]:List aA)=0∧_)
  have:=aA.wt_mk 0 s_ []
  have:=aG.wt_mk 7 s_ s_ 0 (aA.mk 0 s_ []) x70 v73
  exact UO
 have:=aZ p0.asF
 refine oB (gH 1 (p0.asF.length:Int)) fun x80 h53=>oG fun z54=>?_
 have:=uM p0.asF x80 1
 refine K2 (p1 (List.drop (x80:Int).toNat (List.take (p0.asF.length:Int).toNat p0.asF)) bF bF) fun x83 h55 h55B=>?_
 have:=(aT:wl ([]:List aA)=0∧_)
 have:=aA.wt_mk 0 s_ []
 have:=(aT:wl ([]:List bH)=0∧_)
 have:=aG.wt_mk 10 s_ y18.asK 0 (aA.mk 0 s_ []) x83 []
 exact UO
theorem TF{n fu:Nat}(hfu:2147483648≤fu)(j9:wK fu)(eF:xT fu)(eL:xU fu)(gH:GX fu)(fO:MA fu)(fX:zD fu){p5:hH}(p8:vD n p5){p3:f6}(p1:s7 n p3){p6:jF}(pA:xS n p6):s7 (n+1) (B9 fu p5 p3 p6):=by
 intro p4 hm hpre
 have:=(aT:wl ([]:List aG)=0∧_)
 refine aeY (PA:=fun a=>EV a) p4 2 (fun i1 v3 hl2 hI3 hI3B _ _=>?_) ?_
 ·have:=aZ p4
  have:=cD p4 i1 hl2
  refine K2 (p8 (aP p4 i1) bF bF) fun x7 h4 h4B=>?_
  have:=aZ (v3)
  have:=bU x7
  refine oG fun z5=>?_
  have:=bN v3 ([x7]:List aG)
  exact oX hI3B
 rintro v3 ⟨h1,h1B⟩
 exact UO
theorem ZC{n fu:Nat}(hfu:2147483648≤fu)(j9:wK fu)(eF:xT fu)(eL:xU fu)(gH:GX fu)(fO:MA fu)(fX:zD fu){p5:hH}(p8:vD n p5){p3:f6}(p1:s7 n p3){p6:jF}(pA:xS n p6):xS (n+1) (KE fu p5 p3 p6):=by
 intro px hm hpre
 have:=aB.wt_eq px
 have:=aZ px.asF
 refine oD (fun g1=>?_) fun g1=>?_
 ·have:s_.size=0:=rfl
  have:=(aT:wl ([]:List aA)=0∧_)
  have:=aA.wt_mk 0 s_ []
  have:=(aT:wl ([]:List aG)=0∧_)
  have:=(aT:wl ([]:List bH)=0∧_)
  have:=aG.wt_mk 0 s_ s_ 0 (aA.mk 0 s_ []) [] []
  have:=(aT:wl ([]:LB)=0∧_)
  have:=bH.wt_mk s_ [] (aG.mk 0 s_ s_ 0 (aA.mk 0 s_ []) [] [])
  exact UO
 have:=dU ((px.asF.length:Int)-1)
 refine oG fun z2=>?_
 have:=MN (1:Int).toNat (aY ((px.asF.length:Int)-1):Int).toNat px.asF
 have:=agI px.asF (aY ((px.asF.length:Int)-1):Int).toNat
 have:=EU px.asF (aY ((px.asF.length:Int)-1):Int).toNat
 have:=l4 px.asF ((aY ((px.asF.length:Int)-1):Int).toNat+1)
 refine rT (fX (List.drop (1:Int).toNat (List.take (aY ((px.asF.length:Int)-1):Int).toNat px.asF)) bF) fun x4 x5 h3=>?_
 dsimp only at h3
 have:=aZ (px.asF)
 refine oG fun z4=>oG fun z5=>?_
 have:=cD px.asF ((aY ((px.asF.length:Int)-1)).toNat) z5.2
 refine Ok.lt fun y8 h6=>?_
 have:=congrArg wt h6
 refine K2 (p8 y8 bF bF) fun x11 h7 h7B=>?_
 have:=cD px.asF 0 z4
 have:wl (List.take 1 px.asF)=wl (List.take 0 px.asF)+wt (aP px.asF 0)+1:=EU px.asF 0 z4
 have:=aB.wt_eq (aP px.asF 0)
 have:=bH.wt_mk ((aP px.asF 0).asK) x4 x11
 exact UO
theorem ZD(n:Nat):bL fun fu=>vD n (fK fu)∧s7 n (iI fu)∧xS n (lG fu):=by
 induction n with
 |zero=>exact .all fun fu=>⟨fun _ h=>absurd h (Nat.not_lt_zero _),fun _ h=>absurd h (Nat.not_lt_zero _),fun _ h=>absurd h (Nat.not_lt_zero _)⟩
 |succ n ih=>exact bL.succ ((ih.and (((((((bL.ge 2147483648).and j9).and eF).and eL).and gH).and fO).and fX)).imp fun fu ⟨h,⟨⟨⟨⟨⟨⟨hfu,j9⟩,eF⟩,eL⟩,gH⟩,fO⟩,fX⟩⟩=>⟨fun p0=>by rw [fK];exact WO hfu j9 eF eL gH fO fX h.1 h.2.1 h.2.2 p0,fun p4=>by rw [iI];exact TF hfu j9 eF eL gH fO fX h.1 h.2.1 h.2.2 p4,fun px=>by rw [lG];exact ZC hfu j9 eF eL gH fO fX h.1 h.2.1 h.2.2 px⟩)
theorem lR:bL XQ:=(ZD 8589934592).imp fun fu h p0 hpre=>h.1 p0 bF hpre
def acW(fu:Nat):Prop:= ∀(p0:aG),wt p0≤2097152→(EV p0)→Ok (kI fu p0) (fun r=>wt r+8≤32*(wt p0+1))
def GT(n:Nat)(m:n9):Prop:= ∀(p0:aG),2*wt p0+1<n→wt p0≤2097152→(EV p0)→Ok (m p0) (fun r=>wt r+8≤32*(wt p0+1))
def zB(n:Nat)(m:kZ):Prop:= ∀(pD:List aB) (p4:List aG),2*wl p4<n→wl pD≤33554432∧wl p4≤2097152→(∀a∈p4,EV a)→Ok (m pD p4) (fun r=>wt r≤wl pD+32*wl p4)
theorem acA{n fu:Nat}(hfu:2147483648≤fu)(j8:zC fu)(bE:CS fu)(f9:R5 fu)(kU:FC fu){p9:n9}(pC:GT n p9){p7:kZ}(p2:zB n p7):GT (n+1) (OA fu p9 p7):=by
 intro p0 hm hpre hB
 have hN:=hB.num
 have:=aG.wt_eq p0
 refine oD (fun g1=>?_) fun g1=>?_
 ·exact oB (j8 p0.atN bF) fun x3 h2=>oB (bE x3) fun x5 h3=>oS
 refine oD (fun g4=>?_) fun g4=>?_
 ·have:jO.size=5:=rfl
  have:mQ.size=4:=rfl
  have:=iJ jO mQ
  have:=aV jO
  have:=aV mQ
  refine oG fun z5=>?_
  have:=cD ([jO,mQ]:LB) ((p0.atN).toNat) z5.2
  have:=aV (aP ([jO,mQ]:LB) ((p0.atN).toNat))
  exact oB (bE (aP ([jO,mQ]:LB) ((p0.atN).toNat))) fun x9 h6=>oS
 refine oD (fun g7=>?_) fun g7=>?_
 ·exact oB (bE p0.asD) fun x12 h8=>oS
 refine oD (fun g9=>?_) fun g9=>?_
 ·have:KA.size=4:=rfl
  refine oB (bE KA) fun x15 h10=>oB (bE p0.asD) fun x17 h11=>?_
  have:=iJ x15 x17
  refine oB (p2 ([x15,x17]:List aB) p0.asG bF bF (by exact hB.arg)) fun x19 h12=>?_
  have:=aB.wt_eq x19
  have:=aB.wt_mk x19.asK x19.asF
  exact oS
 refine oD (fun g13=>?_) fun g13=>?_
 ·have:mC.size=6:=rfl
  refine oB (bE mC) fun x22 h14=>oB (bE p0.asN) fun x24 h15=>oB (bE p0.asD) fun x26 h16=>?_
  have:=zR x22 x24 x26
  refine oB (p2 ([x22,x24,x26]:List aB) p0.asG bF bF (by exact hB.arg)) fun x28 h17=>?_
  have:=aB.wt_eq x28
  have:=aB.wt_mk x28.asK x28.asF
  exact oS
 refine oD (fun g18=>?_) fun g18=>?_
 ·have:AZ.size=3:=rfl
  refine oB (bE AZ) fun x31 h19=>oB (bE p0.asD) fun x33 h20=>?_
  have:=iJ x31 x33
  refine oB (p2 ([x31,x33]:List aB) p0.asG bF bF (by exact hB.arg)) fun x35 h21=>?_
  have:=aB.wt_eq x35
  have:=aB.wt_mk x35.asK x35.asF
  exact oS
 refine oD (fun g22=>?_) fun g22=>?_
 ·have:AY.size=3:=rfl
  refine oB (bE AY) fun x38 h23=>oB (bE p0.asD) fun x40 h24=>?_
  have:=iJ x38 x40
  refine oB (p2 ([x38,x40]:List aB) p0.asG bF bF (by exact hB.arg)) fun x42 h25=>?_
  have:=aB.wt_eq x42
  have:=aB.wt_mk x42.asK x42.asF
  exact oS
 refine oD (fun g26=>?_) fun g26=>?_
 ·have:z0.size=2:=rfl
  refine oB (bE z0) fun x45 h27=>?_
  have:=bU x45
  refine oB (p2 ([x45]:List aB) p0.asG bF bF (by exact hB.arg)) fun x47 h28=>?_
  have:=aB.wt_eq x47
  have:=aB.wt_mk x47.asK x47.asF
  exact oS
 refine oD (fun g29=>?_) fun g29=>?_
 ·refine oB (bE p0.asD) fun x50 h30=>?_
  have:=bU x50
  refine oB (p2 ([x50]:List aB) p0.asG bF bF (by exact hB.arg)) fun x52 h31=>?_
  have:=aB.wt_eq x52
  have:=aB.wt_mk x52.asK x52.asF
  exact oS
 refine oD (fun g32=>?_) fun g32=>?_
 ·have:t4.size=4:=rfl
  refine oB (bE t4) fun x55 h33=>oB (bE p0.asN) fun x57 h34=>?_
  have:=iJ x55 x57
  refine oB (p2 ([x55,x57]:List aB) p0.asG bF bF (by exact hB.arg)) fun x59 h35=>?_
  have:=aB.wt_eq x59
  have:=aB.wt_mk x59.asK x59.asF
  exact oS
 refine oD (fun g36=>?_) fun g36=>?_
 ·have:RI.size=3:=rfl
  refine oB (bE RI) fun x62 h37=>oB (f9 p0.asH bF) fun x64 h38=>?_
  have:=iJ x62 x64
  refine oB (p2 ([x62,x64]:List aB) p0.asG bF bF (by exact hB.arg)) fun x66 h39=>?_
  have:=aB.wt_eq x66
  have:=aB.wt_mk x66.asK x66.asF
  exact oS
 have:t3.size=4:=rfl
 refine oB (bE t3) fun x68 h40=>?_
 have:=bU x68
 refine oB (p2 ([x68]:List aB) p0.asG bF bF (by exact hB.arg)) fun x70 h41=>?_
 have:=aB.wt_eq x70
 refine JR p0.asV 32 (fun i71 v73 hl43 hI44 _ _=>?_) ?_
 ·have:=aZ p0.asV
  have:=cD p0.asV i71 hl43
  refine Ok.lt fun y76 h45=>?_
  have:=congrArg wt h45
  have:=bH.wt_eq y76
  refine oB (bE y76.asZ) fun x79 h46=>oB (kU y76.asP bF) fun x81 h47=>?_
  have:=bU x79
  have:=aZ (x81)
  refine oG fun z48=>oB (pC y76.asM bF bF (by rw [show y76=aP p0.asV i71 by assumption];exact R8 hB.arm (by assumption))) fun x84 h49=>?_
  have:=bN ([x79]:List aB) x81
  have:=bU x84
  refine oG fun z50=>?_
  have:=aZ (v73)
  have:s_.size=0:=rfl
  have:=bN (([x79]:List aB)++x81) ([x84]:List aB)
  have:=aB.wt_mk s_ ((([x79]:List aB)++x81)++([x84]:List aB))
  have:=bU (aB.mk s_ ((([x79]:List aB)++x81)++([x84]:List aB)))
  refine oG fun z51=>?_
  have:=bN v73 ([(aB.mk s_ ((([x79]:List aB)++x81)++([x84]:List aB)))]:List aB)
  exact mF
 intro v73 h42
 have:=aB.wt_mk x70.asK v73
 exact oS
theorem WM{n fu:Nat}(hfu:2147483648≤fu)(j8:zC fu)(bE:CS fu)(f9:R5 fu)(kU:FC fu){p9:n9}(pC:GT n p9){p7:kZ}(p2:zB n p7):zB (n+1) (GC fu p9 p7):=by
 intro pD p4 hm hpre hB
 refine JR p4 32 (fun i1 v3 hl2 hI3 _ _=>?_) ?_
 ·have:=aZ p4
  have:=cD p4 i1 hl2
  refine Ok.lt fun y6 h4=>?_
  have:=congrArg wt h4
  refine oB (pC y6 bF bF (by rw [show y6=aP p4 i1 by assumption];exact R8 hB (by assumption))) fun x9 h5=>?_
  have:=aZ (v3)
  have:=bU x9
  refine oG fun z6=>?_
  have:=bN v3 ([x9]:List aB)
  exact mF
 intro v3 h1
 have:s_.size=0:=rfl
 have:=aB.wt_mk s_ v3
 exact oS
theorem ad5(n:Nat):bL fun fu=>GT n (kI fu)∧zB n (lZ fu):=by
 induction n with
 |zero=>exact .all fun fu=>⟨fun _ h=>absurd h (Nat.not_lt_zero _),fun _ _ h=>absurd h (Nat.not_lt_zero _)⟩
 |succ n ih=>exact bL.succ ((ih.and (((((bL.ge 2147483648).and j8).and bE).and f9).and kU)).imp fun fu ⟨h,⟨⟨⟨⟨hfu,j8⟩,bE⟩,f9⟩,kU⟩⟩=>⟨fun p0=>by rw [kI];exact acA hfu j8 bE f9 kU h.1 h.2 p0,fun pD p4=>by rw [lZ];exact WM hfu j8 bE f9 kU h.1 h.2 pD p4⟩)
theorem rH:bL acW:=(ad5 8589934592).imp fun fu h p0 hpre hB=>h.1 p0 bF hpre hB
end Go.Proofs.YtfcoaagbccmahaaGreat.W

namespace Go.Proofs.YtfcoaagbccmahaaGreat.W
set_option maxRecDepth 20000
set_option maxHeartbeats 4000000
open Go.RowKit Go.WalkArith Go.IntWalk
attribute [local irreducible] wt wl
def XP(fu:Nat):Prop:= ∀(pe:aG) (p7:Int),wt pe≤1073741824→Ok (kY fu pe p7) (fun _=>True)
def EZ(n:Nat)(m:pY):Prop:= ∀(pe:aG) (p7:Int),wt pe<n→wt pe≤1073741824→Ok (m pe p7) (fun _=>True)
theorem WI{n fu:Nat}(hfu:2147483648≤fu){p8:pY}(p9:EZ n p8):EZ (n+1) (GA fu p8):=by
 intro pe p7 hm hpre
 refine oEN (fun i1 v2 hl2=>?_) ?_
 ·have:=aG.wt_eq pe
  have:=aZ pe.asG
  refine oD (fun g4=>?_) fun g4=>?_
  ·have:=cD pe.asG i1 hl2
   refine Ok.lt fun y6 h5=>?_
   have:=congrArg wt h5
   exact oB (p9 y6 v2 bF bF) fun x9 _=>mF
  exact oK
 intro v2 _
 refine oEN (fun i10 v11 hl8=>?_) ?_
 ·have:=aG.wt_eq pe
  have:=aZ pe.asV
  refine oD (fun g10=>?_) fun g10=>?_
  ·have:=cD pe.asV i10 hl8
   refine Ok.lt fun y15 h11=>?_
   have:=congrArg wt h11
   have:=bH.wt_eq y15
   exact oB (p9 y15.asM v11 bF bF) fun x18 _=>mF
  exact oK
 intro v11 _
 exact oS
theorem ZB(n:Nat):bL fun fu=>EZ n (kY fu):=by
 induction n with
 |zero=>exact .all fun fu=>fun _ _ h=>absurd h (Nat.not_lt_zero _)
 |succ n ih=>exact bL.succ ((ih.and (bL.ge 2147483648)).imp fun fu ⟨h,hfu⟩=>fun pe p7=>by rw [kY];exact WI hfu h pe p7)
theorem FM:bL XP:=(ZB 8589934592).imp fun fu h pe p7 hpre=>h pe p7 bF hpre
def QP(fu:Nat):Prop:= ∀(pk:Int),Ok (KD fu pk) (fun _=>True)
theorem yM:bL QP:=(bL.ge 2147483648).imp fun fu hfu pk=>by
 refine A0 ?_ ?_
 ·exact oD (fun _=>oI) fun g2=>oI
 intro v1 _
 refine oC (fun _=>oS) fun g3=>oD (fun _=>oS) fun g4=>?_;refine A0 ?_ ?_
 ·exact oD (fun _=>oI) fun g6=>oI
 intro v5 _
 refine oC (fun _=>oS) fun g7=>oD (fun _=>oS) fun g8=>oD (fun _=>oS) fun g9=>?_;refine A0 ?_ ?_
 ·exact oD (fun _=>oI) fun g11=>oI
 intro v10 _
 exact oC (fun _=>oS) fun g12=>oD (fun _=>oS) fun g13=>oD (fun _=>oS) fun g14=>oS
def MR(fu:Nat):Prop:= ∀(ps:ByteArray),Ok (GB fu ps) (fun _=>True)
theorem vM:bL MR:=((bL.ge 2147483648).and cZ).imp fun fu ⟨hfu,cZ⟩ ps=>by
 have:wH.size=1:=rfl
 have:A5.size=1:=rfl
 have:IQ.size=1:=rfl
 have:IR.size=1:=rfl
 have:IS.size=1:=rfl
 have:=ahE wH A5 IQ IR IS
 have:=aV wH
 have:=aV A5
 have:=aV IQ
 have:=aV IR
 have:=aV IS
 exact oB (cZ ([wH,A5,IQ,IR,IS]:LB) ps) fun x2 _=>oS
def MS(fu:Nat):Prop:= ∀(pt:aA),Ok (lY fu pt) (fun _=>True)
theorem jJ:bL MS:=(bL.ge 2147483648).imp fun fu hfu pt=>by
 refine oD (fun g1=>?_) fun g1=>?_
 ·exact oD (fun _=>oS) fun g2=>oS
 exact oS
def XN(fu:Nat):Prop:= ∀(p0:aG),wt p0≤1073741824→Ok (kV fu p0) (fun _=>True)
def EX(n:Nat)(m:jM):Prop:= ∀(p0:aG),wt p0<n→wt p0≤1073741824→Ok (m p0) (fun _=>True)
theorem V8{n fu:Nat}(hfu:2147483648≤fu)(yM:QP fu)(nK:aaG fu)(bB:vE fu)(vM:MR fu)(dM:BA fu)(jJ:MS fu)(nA:MW fu)(dL:A7 fu){pA:jM}(pC:EX n pA):EX (n+1) (F8 fu pA):=by
 intro p0 hm hpre
 have:=aG.wt_eq p0
 refine oB6 (yM p0.asJ) fun x2 x3 x4 x5 x6 x7 _=>?_;refine A0 ?_ ?_
 ·refine oB (nK p0.asJ 1 12) fun x9 _=>oW (fun _=>oL) fun g4=>oB (bB p0.asN) fun x12 _=>oN (fun _=>oL) fun g6=>?_;refine oW (fun g7=>?_) fun g7=>?_
  ·refine oN (fun _=>oL) fun g8=>?_;refine oW (fun g9=>?_) fun g9=>?_
   ·exact oN (fun _=>oL) fun g10=>oN (fun _=>oL) fun g11=>oI
   exact oN (fun _=>oL) fun g12=>oI
  refine oW (fun g13=>?_) fun g13=>?_
  ·exact oN (fun _=>oL) fun g14=>oN (fun _=>oL) fun g15=>oI
  exact oN (fun _=>oL) fun g16=>oI
 rintro⟨⟩-
 refine A0 ?_ ?_
 ·refine oD (fun g18=>?_) fun g18=>?_
  ·refine oB (vM p0.asD) fun x26 _=>oW (fun _=>oL) fun g20=>?_;refine oN (fun g21=>?_) fun g21=>?_
   ·refine oB (bB p0.asD) fun x30 _=>oN (fun _=>oL) fun g23=>?_;refine oW (fun g24=>?_) fun g24=>?_
    ·exact oN (fun _=>oL) fun g25=>oI
    exact oI
   exact oI
  refine oN (fun g26=>?_) fun g26=>?_
  ·refine oB (bB p0.asD) fun x36 _=>oN (fun _=>oL) fun g28=>?_;refine oW (fun g29=>?_) fun g29=>?_
   ·exact oN (fun _=>oL) fun g30=>oI
   exact oI
  exact oI
 rintro⟨⟩-
 refine A0 ?_ ?_
 ·refine oD (fun g32=>?_) fun g32=>?_
  ·have:=aZ p0.asG
   refine oN (fun _=>oL) fun g33=>?_;refine oD (fun g34=>?_) fun g34=>?_
   ·refine oD (fun _=>oL) fun g35=>?_;refine oC (fun g36=>?_) fun g36=>?_
    ·exact oB (dM p0.asH bF) fun x46 _=>oW (fun _=>oL) fun g38=>oI
    exact oB (jJ p0.asH) fun x49 _=>oW (fun _=>oL) fun g40=>oI
   refine oC (fun g41=>?_) fun g41=>?_
   ·exact oB (dM p0.asH bF) fun x53 _=>oW (fun _=>oL) fun g43=>oI
   exact oB (jJ p0.asH) fun x56 _=>oW (fun _=>oL) fun g45=>oI
  refine oD (fun g46=>?_) fun g46=>?_
  ·have:=aZ p0.asG
   refine oD (fun _=>oL) fun g47=>?_;refine oC (fun g48=>?_) fun g48=>?_
   ·exact oB (dM p0.asH bF) fun x62 _=>oW (fun _=>oL) fun g50=>oI
   exact oB (jJ p0.asH) fun x65 _=>oW (fun _=>oL) fun g52=>oI
  refine oC (fun g53=>?_) fun g53=>?_
  ·exact oB (dM p0.asH bF) fun x69 _=>oW (fun _=>oL) fun g55=>oI
  exact oB (jJ p0.asH) fun x72 _=>oW (fun _=>oL) fun g57=>oI
 rintro⟨⟩-
 refine A0 ?_ ?_
 ·refine oD (fun g59=>?_) fun g59=>?_
  ·exact oB (nK p0.atN (-999999) 999999) fun x76 _=>oW (fun _=>oL) fun g61=>oI
  refine oD (fun g62=>?_) fun g62=>?_
  ·exact oB (nK p0.atN 0 1) fun x80 _=>oW (fun _=>oL) fun g64=>oI
  exact oI
 rintro⟨⟩-
 refine A0 ?_ ?_
 ·refine Ok.loop1 ?_;rintro i82 ⟨⟩ hl66
  have:=aZ p0.asG
  have:=cD p0.asG i82 hl66
  refine Ok.lt fun y85 h68=>?_
  have:=congrArg wt h68
  exact oB (pC y85 bF bF) fun x88 _=>oW (fun _=>oR) fun g70=>mF
 rintro⟨⟩-
 refine A0 ?_ ?_
 ·refine Ok.loop1 ?_;rintro i90 ⟨⟩ hl72
  have:=aZ p0.asV
  have:=cD p0.asV i90 hl72
  refine Ok.lt fun y93 h74=>?_
  have:=congrArg wt h74
  have:=bH.wt_eq y93
  exact oB (bB y93.asZ) fun x96 _=>oW (fun _=>oR) fun g76=>oB (nA y93.asP) fun x99 _=>oW (fun _=>oR) fun g78=>oB (dL y93.asP) fun x102 _=>oW (fun _=>oR) fun g80=>oB (pC y93.asM bF bF) fun x105 _=>oW (fun _=>oR) fun g82=>mF
 rintro⟨⟩-
 exact oS
theorem Y5(n:Nat):bL fun fu=>EX n (kV fu):=by
 induction n with
 |zero=>exact .all fun fu=>fun _ h=>absurd h (Nat.not_lt_zero _)
 |succ n ih=>exact bL.succ ((ih.and (((((((((bL.ge 2147483648).and yM).and nK).and bB).and vM).and dM).and jJ).and nA).and dL)).imp fun fu ⟨h,⟨⟨⟨⟨⟨⟨⟨⟨hfu,yM⟩,nK⟩,bB⟩,vM⟩,dM⟩,jJ⟩,nA⟩,dL⟩⟩=>fun p0=>by rw [kV];exact V8 hfu yM nK bB vM dM jJ nA dL h p0)
theorem FK:bL XN:=(Y5 8589934592).imp fun fu h p0 hpre=>h p0 bF hpre
def MQ(fu:Nat):Prop:= ∀(pe:aG),wt pe≤1073741824→Ok (vR fu pe) (fun _=>True)
theorem vL:bL MQ:=(((bL.ge 2147483648).and FM).and FK).imp fun fu ⟨⟨hfu,FM⟩,FK⟩ pe hpre=>by
 refine oB (FM pe 300 bF) fun x2 _=>?_;refine oD (fun g2=>?_) fun g2=>?_
 ·exact oB (FK pe bF) fun x5 _=>oS
 exact oS
def KR(fu:Nat):Prop:= ∀(pa pb:LB),Ok (B7 fu pa pb) (fun _=>True)
theorem tA:bL KR:=(bL.ge 2147483648).imp fun fu hfu pa pb=>by
 have:=aZ pa
 have:=aZ pb
 refine oN (fun _=>oS) fun g1=>?_;refine A0 ?_ ?_
 ·refine Ok.loop1 ?_;rintro i2 ⟨⟩ hl3
  have:=aZ (pb)
  exact oG fun z5=>oN (fun _=>oR) fun g6=>mF
 rintro⟨⟩-
 exact oS
def R1(fu:Nat):Prop:= ∀(p0 p4:aG),wt p0≤536870912→Ok (hZ fu p0 p4) (fun _=>True)
def y7(n:Nat)(m:lU):Prop:= ∀(p0 p4:aG),wt p0<n→wt p0≤536870912→Ok (m p0 p4) (fun _=>True)
theorem PX{n fu:Nat}(hfu:2147483648≤fu)(rE:GU fu)(tA:KR fu){p5:lU}(p6:y7 n p5):y7 (n+1) (zX fu p5):=by
 intro p0 p4 hm hpre
 have:=aG.wt_eq p0
 have:=aG.wt_eq p4
 refine oN (fun _=>oS) fun g1=>oN (fun _=>oS) fun g2=>oN (fun _=>oS) fun g3=>oN (fun _=>oS) fun g4=>oB (rE p0.asH p4.asH bF) fun x6 _=>oW (fun _=>oS) fun g6=>?_
 have:=aZ p0.asG
 have:=aZ p4.asG
 refine oN (fun _=>oS) fun g7=>?_
 have:=aZ p0.asV
 have:=aZ p4.asV
 refine oN (fun _=>oS) fun g8=>?_;refine A0 ?_ ?_
 ·refine Ok.loop1 ?_;rintro i10 ⟨⟩ hl10
  have:=cD p0.asG i10 hl10
  refine Ok.lt fun y13 h12=>?_
  have:=congrArg wt h12
  have:=aZ (p4.asG)
  refine oG fun z13=>?_
  have:=cD p4.asG i10 z13
  refine Ok.lt fun y16 h14=>?_
  have:=congrArg wt h14
  exact oB (p6 y13 y16 bF bF) fun x19 _=>oW (fun _=>oR) fun g16=>mF
 rintro⟨⟩-
 refine A0 ?_ ?_
 ·refine Ok.loop1 ?_;rintro i21 ⟨⟩ hl18
  have:=cD p0.asV i21 hl18
  refine Ok.lt fun y24 h20=>?_
  have:=congrArg wt h20
  have:=aZ (p4.asV)
  refine oG fun z21=>?_
  have:=cD p4.asV i21 z21
  refine Ok.lt fun y27 h22=>?_
  have:=congrArg wt h22
  have:=bH.wt_eq y24
  have:=bH.wt_eq y27
  exact oN (fun _=>oR) fun g23=>oB (tA y24.asP y27.asP) fun x31 _=>oW (fun _=>oR) fun g25=>oB (p6 y24.asM y27.asM bF bF) fun x34 _=>oW (fun _=>oR) fun g27=>mF
 rintro⟨⟩-
 exact oS
theorem S0(n:Nat):bL fun fu=>y7 n (hZ fu):=by
 induction n with
 |zero=>exact .all fun fu=>fun _ _ h=>absurd h (Nat.not_lt_zero _)
 |succ n ih=>exact bL.succ ((ih.and (((bL.ge 2147483648).and rE).and tA)).imp fun fu ⟨h,⟨⟨hfu,rE⟩,tA⟩⟩=>fun p0 p4=>by rw [hZ];exact PX hfu rE tA h p0 p4)
theorem zN:bL R1:=(S0 8589934592).imp fun fu h p0 p4 hpre=>h p0 p4 bF hpre
def XO(fu:Nat):Prop:= ∀(p0:aG) (p4 pE:LB),wl p4+wl pE+2*wt p0≤134217728→Ok (kX fu p0 p4 pE) (fun r=>wl r≤wl pE+wt p0+1)
def EY(n:Nat)(m:nE):Prop:= ∀(p0:aG) (p4 pE:LB),wt p0<n→wl p4+wl pE+2*wt p0≤134217728→Ok (m p0 p4 pE) (fun r=>wl r≤wl pE+wt p0+1)
theorem WE{n fu:Nat}(hfu:2147483648≤fu)(cZ:MT fu){pD:nE}(p3:EY n pD):EY (n+1) (F9 fu pD):=by
 intro p0 p4 pE hm hpre
 have:=aG.wt_eq p0
 refine Ok.sok (E:=fun v2=>wl v2+wl p0.asG+wl p0.asV≤wl pE+wt p0+1) ?_ ?_
 ·refine oD (fun g2=>?_) fun g2=>?_
  ·refine oB (cZ p4 p0.asD) fun x5 _=>?_;refine oW (fun g4=>?_) fun g4=>?_
   ·refine oB (cZ pE p0.asD) fun x8 _=>?_;refine oW (fun g6=>?_) fun g6=>?_
    ·have:=aZ (pE)
     have:=bU p0.asD
     have:=aV p0.asD
     refine oG fun z7=>?_
     have:=bN pE ([p0.asD]:LB)
     exact oI
    exact oI
   exact oI
  exact oI
 intro v2 h1
 refine JR p0.asG 1 (fun i11 v13 hl9 hI10 _ _=>?_) ?_
 ·have:=aZ p0.asG
  refine oD (fun g11=>?_) fun g11=>?_
  ·refine oD (fun g12=>?_) fun g12=>?_
   ·have:=(aT:wl ([]:LB)=0∧_)
    have:=aZ (p4)
    refine oG fun z13=>?_
    have:=bN ([]:LB) p4
    have:=bU p0.asD
    have:=aV p0.asD
    refine oG fun z14=>?_
    have:=cD p0.asG i11 hl9
    refine Ok.lt fun y20 h15=>?_
    have:=congrArg wt h15
    have:=bN (([])++p4) ([p0.asD]:LB)
    exact oB (p3 y20 ((([])++p4)++([p0.asD]:LB)) v13 bF bF) fun x23 h16=>mF
   have:=cD p0.asG i11 hl9
   refine Ok.lt fun y24 h17=>?_
   have:=congrArg wt h17
   exact oB (p3 y24 p4 v13 bF bF) fun x27 h18=>mF
  have:=cD p0.asG i11 hl9
  refine Ok.lt fun y28 h19=>?_
  have:=congrArg wt h19
  exact oB (p3 y28 p4 v13 bF bF) fun x31 h20=>mF
 intro v13 h8
 refine JR p0.asV 1 (fun i32 v34 hl22 hI23 _ _=>?_) ?_
 ·have:=aZ p0.asV
  have:=cD p0.asV i32 hl22
  refine Ok.lt fun y37 h24=>?_
  have:=congrArg wt h24
  have:=(aT:wl ([]:LB)=0∧_)
  have:=aZ (p4)
  refine oG fun z25=>?_
  have:=bN ([]:LB) p4
  have:=bH.wt_eq y37
  have:=aZ (y37.asP)
  refine oG fun z26=>?_
  have:=bN (([])++p4) y37.asP
  exact oB (p3 y37.asM ((([])++p4)++y37.asP) v34 bF bF) fun x42 h27=>mF
 intro v34 h21
 exact oS
theorem Y6(n:Nat):bL fun fu=>EY n (kX fu):=by
 induction n with
 |zero=>exact .all fun fu=>fun _ _ _ h=>absurd h (Nat.not_lt_zero _)
 |succ n ih=>exact bL.succ ((ih.and ((bL.ge 2147483648).and cZ)).imp fun fu ⟨h,⟨hfu,cZ⟩⟩=>fun p0 p4 pE=>by rw [kX];exact WE hfu cZ h p0 p4 pE)
theorem FL:bL XO:=(Y6 8589934592).imp fun fu h p0 p4 pE hpre=>h p0 p4 pE bF hpre
def IZ(fu:Nat):Prop:= ∀(pe:aG),wt pe≤67108864→Ok (sG fu pe) (fun r=>wl r≤wt pe+1)
theorem r8:bL IZ:=((bL.ge 2147483648).and FL).imp fun fu ⟨hfu,FL⟩ pe hpre=>by
 have:=(aT:wl ([]:LB)=0∧_)
 exact oB (FL pe ([]:LB) ([]:LB) bF) fun x2 h1=>oS
def XV(fu:Nat):Prop:= ∀(pt:aA) (p2:LB),wt pt+wl p2≤67108864→Ok (jN fu pt p2) (fun _=>True)
theorem e6:bL XV:=((((bL.ge 2147483648).and r9).and cZ).and dM).imp fun fu ⟨⟨⟨hfu,r9⟩,cZ⟩,dM⟩ pt p2 hpre=>by
 refine oB (r9 pt bF) fun x2 h1=>?_;refine A0 ?_ ?_
 ·refine Ok.loop1 ?_;rintro i3 ⟨⟩ hl3
  have:=aZ x2
  have:=cD x2 i3 hl3
  have:=aV (aP x2 i3)
  exact oB (cZ p2 (aP x2 i3)) fun x7 _=>oW (fun _=>oR) fun g6=>mF
 rintro⟨⟩-
 exact oB (dM pt bF) fun x10 _=>oS
def aa3(fu:Nat):Prop:= ∀(p1:List aA) (p2:LB),wl p1+wl p2≤67108864→Ok (u4 fu p1 p2) (fun _=>True)
theorem uW:bL aa3:=((bL.ge 2147483648).and e6).imp fun fu ⟨hfu,e6⟩ p1 p2 hpre=>by
 refine A0 ?_ ?_
 ·refine Ok.loop1 ?_;rintro i1 ⟨⟩ hl2
  have:=aZ p1
  have:=cD p1 i1 hl2
  exact oB (e6 (aP p1 i1) p2 bF) fun x5 _=>oW (fun _=>oR) fun g5=>mF
 rintro⟨⟩-
 exact oS
def XU(fu:Nat):Prop:= ∀(pe:aG),wt pe≤67108864→Ok (GE fu pe) (fun _=>True)
theorem FR:bL XU:=((bL.ge 2147483648).and zN).imp fun fu ⟨hfu,zN⟩ pe hpre=>by
 have:s_.size=0:=rfl
 have:=(aT:wl ([]:List aA)=0∧_)
 have:=aA.wt_mk 0 s_ []
 have:=(aT:wl ([]:List aG)=0∧_)
 have:=(aT:wl ([]:List bH)=0∧_)
 have:=aG.wt_mk 0 s_ s_ 0 (aA.mk 0 s_ []) [] []
 exact oB (zN pe (aG.mk 0 s_ s_ 0 (aA.mk 0 s_ []) [] []) bF) fun x2 _=>oS
def UT(fu:Nat):Prop:= ∀(p1:LB) (pF:Int),Ok (fA fu p1 pF) (fun _=>True)
theorem cI:bL UT:=(((bL.ge 2147483648).and nA).and dL).imp fun fu ⟨⟨hfu,nA⟩,dL⟩ p1 pF=>by
 refine oD (fun g1=>?_) fun g1=>?_
 ·refine oB (nA p1) fun x3 _=>?_;refine oC (fun g3=>?_) fun g3=>?_
  ·exact oB (dL p1) fun x6 _=>oS
  exact oS
 exact oS
def XR(fu:Nat):Prop:= ∀(pe:aG) (p2:LB),wt pe+wl p2≤67108864→Ok (vV fu pe p2) (fun _=>True)
theorem lS:bL XR:=((((bL.ge 2147483648).and r8).and cZ).and vL).imp fun fu ⟨⟨⟨hfu,r8⟩,cZ⟩,vL⟩ pe p2 hpre=>by
 refine oB (r8 pe bF) fun x2 h1=>?_;refine A0 ?_ ?_
 ·refine Ok.loop1 ?_;rintro i3 ⟨⟩ hl3
  have:=aZ x2
  have:=cD x2 i3 hl3
  have:=aV (aP x2 i3)
  exact oB (cZ p2 (aP x2 i3)) fun x7 _=>oW (fun _=>oR) fun g6=>mF
 rintro⟨⟩-
 exact oB (vL pe bF) fun x10 _=>oS
def aa4(fu:Nat):Prop:= ∀(ps:aD),wt ps≤33554432→Ok (KG fu ps) (fun _=>True)
theorem JF:bL aa4:=(((((((bL.ge 2147483648).and bB).and uW).and e6).and FR).and cI).and lS).imp fun fu ⟨⟨⟨⟨⟨⟨hfu,bB⟩,uW⟩,e6⟩,FR⟩,cI⟩,lS⟩ ps hpre=>by
 have:=aD.wt_eq ps
 refine oB (bB ps.asD) fun x2 _=>oW (fun _=>oS) fun g2=>?_
 have:=aZ ps.asU
 refine oD (fun _=>oS) fun g3=>?_
 have:g0.size=4:=rfl
 have:=bU g0
 have:=aV g0
 refine oB (uW ps.asU ([g0]:LB) bF) fun x6 _=>oW (fun _=>oS) fun g5=>oB (e6 ps.asT ([g0]:LB) bF) fun x9 _=>oW (fun _=>oS) fun g7=>?_;refine oW (fun g8=>?_) fun g8=>?_
 ·have:=aZ ps.asP
  refine oD (fun g9=>?_) fun g9=>?_
  ·exact oB (FR ps.asM bF) fun x14 _=>oS
  exact oS
 refine oB (cI ps.asP 5) fun x16 _=>?_;refine oC (fun g12=>?_) fun g12=>?_
 ·have:=aZ ps.asP
  have:=dU ((ps.asU.length:Int)+1)
  refine oD (fun g13=>?_) fun g13=>?_
  ·exact oB (lS ps.asM ps.asP bF) fun x20 _=>oS
  exact oS
 exact oS
def LI(fu:Nat):Prop:= ∀(pt:aQ),wt pt≤16777216→Ok (oP fu pt) (fun _=>True)
theorem jU:bL LI:=((((bL.ge 2147483648).and JF).and bB).and cI).imp fun fu ⟨⟨⟨hfu,JF⟩,bB⟩,cI⟩ pt hpre=>by
 have:=(aT:wl ([]:LB)=0∧_)
 have:=aQ.wt_eq pt
 refine JR pt.asX 1 (fun i1 v3 hl2 hI3 _ _=>?_) ?_
 ·have:=aZ pt.asX
  have:=cD pt.asX i1 hl2
  refine Ok.lt fun y6 h4=>?_
  have:=congrArg wt h4
  refine oB (JF y6 bF) fun x9 _=>oW (fun _=>oR) fun g6=>?_
  have:=aZ (v3)
  have:=aD.wt_eq y6
  have:=bU y6.asD
  have:=aV y6.asD
  refine oG fun z7=>?_
  have:=bN v3 ([y6.asD]:LB)
  exact mF
 intro v3 h1
 refine oC (fun g8=>?_) fun g8=>?_
 ·refine oC (fun _=>oS) fun g9=>oD (fun _=>oS) fun g10=>oD (fun _=>oS) fun g11=>oB (bB pt.asD) fun x17 _=>?_;refine oC (fun g13=>?_) fun g13=>?_
  ·refine oB (cI pt.asO 4) fun x20 _=>?_;refine oC (fun g15=>?_) fun g15=>?_
   ·exact oB (cI v3 6) fun x23 _=>oS
   exact oS
  exact oS
 refine oB (bB pt.asD) fun x25 _=>?_;refine oC (fun g18=>?_) fun g18=>?_
 ·refine oB (cI pt.asO 4) fun x28 _=>?_;refine oC (fun g20=>?_) fun g20=>?_
  ·exact oB (cI v3 6) fun x31 _=>oS
  exact oS
 exact oS
def E6(fu:Nat):Prop:= ∀(pd:aI),wt pd≤16777216→Ok (gY fu pd) (fun _=>True)
theorem gU:bL E6:=((((bL.ge 2147483648).and uW).and bB).and cI).imp fun fu ⟨⟨⟨hfu,uW⟩,bB⟩,cI⟩ pd hpre=>by
 have:=(aT:wl ([]:LB)=0∧_)
 have:=aI.wt_eq pd
 refine JR pd.asI 1 (fun i1 v3 hl2 hI3 _ _=>?_) ?_
 ·have:=aZ pd.asI
  have:=cD pd.asI i1 hl2
  have:=aC.wt_eq (aP pd.asI i1)
  have:=aZ ((aP pd.asI i1).asR)
  refine oD (fun _=>oR) fun g4=>oB (uW ((aP pd.asI i1).asR) pd.asP bF) fun x8 _=>oW (fun _=>oR) fun g6=>?_
  have:=aZ (v3)
  have:=bU ((aP pd.asI i1).asD)
  have:=aV ((aP pd.asI i1).asD)
  refine oG fun z7=>?_
  have:=bN v3 ([((aP pd.asI i1).asD)]:LB)
  exact mF
 intro v3 h1
 refine oB (bB pd.asD) fun x12 _=>?_;refine oC (fun g9=>?_) fun g9=>?_
 ·refine oB (cI pd.asP 3) fun x15 _=>?_;refine oC (fun g11=>?_) fun g11=>?_
  ·refine oD (fun g12=>?_) fun g12=>?_
   ·exact oB (cI v3 5) fun x19 _=>oS
   exact oS
  exact oS
 exact oS
def LG(fu:Nat):Prop:= ∀(pb:aE),wt pb≤33554432→Ok (tZ fu pb) (fun _=>True)
theorem tR:bL LG:=(((bL.ge 2147483648).and bB).and dM).imp fun fu ⟨⟨hfu,bB⟩,dM⟩ pb hpre=>by
 have:=aE.wt_eq pb
 refine oB (bB pb.asN) fun x2 _=>?_;refine oC (fun g2=>?_) fun g2=>?_
 ·exact oB (dM pb.asH bF) fun x5 _=>oS
 exact oS
def US(fu:Nat):Prop:= ∀(p1:List aE) (p2:LB),wl p1+wl p2≤33554432→Ok (qQ fu p1 p2) (fun _=>True)
theorem qE:bL US:=((((bL.ge 2147483648).and tR).and e6).and jD).imp fun fu ⟨⟨⟨hfu,tR⟩,e6⟩,jD⟩ p1 p2 hpre=>by
 refine A0 ?_ ?_
 ·refine Ok.loop1 ?_;rintro i1 ⟨⟩ hl2
  have:=aZ p1
  have:=cD p1 i1 hl2
  refine oB (tR (aP p1 i1) bF) fun x5 _=>oW (fun _=>oR) fun g5=>?_
  have:=aE.wt_eq (aP p1 i1)
  exact oB (e6 ((aP p1 i1).asH) p2 bF) fun x8 _=>oW (fun _=>oR) fun g7=>oB (jD ((aP p1 i1).asH) bF) fun x11 _=>oC (fun _=>oR) fun g9=>mF
 rintro⟨⟩-
 exact oS
def E8(fu:Nat):Prop:= ∀(p0:aJ),wt p0≤16777216→Ok (gZ fu p0) (fun _=>True)
theorem gW:bL E8:=(((((((((bL.ge 2147483648).and bB).and cI).and e6).and jD).and qE).and BO).and jJ).and lS).imp fun fu ⟨⟨⟨⟨⟨⟨⟨⟨hfu,bB⟩,cI⟩,e6⟩,jD⟩,qE⟩,BO⟩,jJ⟩,lS⟩ p0 hpre=>by
 have:=aJ.wt_eq p0
 refine oB (bB p0.asN) fun x2 _=>oW (fun _=>oS) fun g2=>oB (cI p0.asP 3) fun x5 _=>oW (fun _=>oS) fun g4=>oB (e6 p0.as1 p0.asP bF) fun x8 _=>oW (fun _=>oS) fun g6=>oB (jD p0.as1 bF) fun x11 _=>oC (fun _=>oS) fun g8=>?_
 have:=aA.wt_eq p0.as1
 refine oD (fun _=>oS) fun g9=>oB (qE p0.as0 p0.asP bF) fun x15 _=>oW (fun _=>oS) fun g11=>?_;refine A0 ?_ ?_
 ·refine Ok.loop1 ?_;rintro i17 ⟨⟩ hl13
  have:=aZ p0.asP
  have:=cD p0.asP i17 hl13
  have:=aV (aP p0.asP i17)
  exact oB (BO (aP p0.asP i17) p0.as1 bF) fun x21 _=>oW (fun _=>oR) fun g16=>mF
 rintro⟨⟩-
 refine A0 ?_ ?_
 ·refine oC (fun g18=>?_) fun g18=>?_
  ·exact oB (e6 p0.asW p0.asP bF) fun x25 _=>oW (fun _=>oL) fun g20=>oI
  exact oB (jJ p0.asW) fun x28 _=>oW (fun _=>oL) fun g22=>oI
 rintro⟨⟩-
 have:=(aT:wl ([]:LB)=0∧_)
 refine JR p0.as2 1 (fun i30 v32 hl24 hI25 _ _=>?_) ?_
 ·have:=aZ p0.as2
  have:=cD p0.as2 i30 hl24
  refine Ok.lt fun y35 h26=>?_
  have:=congrArg wt h26
  have:=aM.wt_eq y35
  have:=aZ y35.asP
  refine oD (fun _=>oR) fun g27=>oB (cI y35.asP 5) fun x39 _=>oW (fun _=>oR) fun g29=>oB (lS y35.asM y35.asP bF) fun x42 _=>oW (fun _=>oR) fun g31=>?_
  have:=aZ (v32)
  have:=bU y35.asD
  have:=aV y35.asD
  refine oG fun z32=>?_
  have:=bN v32 ([y35.asD]:LB)
  exact mF
 intro v32 h23
 exact oB (cI v32 6) fun x46 _=>oS
def E7(fu:Nat):Prop:= ∀(pf:aL),wt pf≤16777216→Ok (lX fu pf) (fun _=>True)
theorem gV:bL E7:=((((((bL.ge 2147483648).and e6).and bB).and cI).and qE).and lS).imp fun fu ⟨⟨⟨⟨⟨hfu,e6⟩,bB⟩,cI⟩,qE⟩,lS⟩ pf hpre=>by
 have:=(aT:wl ([]:LB)=0∧_)
 have:=aL.wt_eq pf
 refine JR pf.asU 1 (fun i1 v3 hl2 hI3 _ _=>?_) ?_
 ·have:=aZ pf.asU
  have:=cD pf.asU i1 hl2
  have:=aR.wt_eq (aP pf.asU i1)
  refine oB (e6 ((aP pf.asU i1).asH) pf.asP bF) fun x7 _=>oW (fun _=>oR) fun g5=>?_
  have:=aZ (v3)
  have:=bU ((aP pf.asU i1).asD)
  have:=aV ((aP pf.asU i1).asD)
  refine oG fun z6=>?_
  have:=bN v3 ([((aP pf.asU i1).asD)]:LB)
  exact mF
 intro v3 h1
 refine oB (bB pf.asD) fun x11 _=>?_;refine oC (fun g8=>?_) fun g8=>?_
 ·refine oB (cI pf.asP 3) fun x14 _=>?_;refine oC (fun g10=>?_) fun g10=>?_
  ·refine oB (qE pf.as0 pf.asP bF) fun x17 _=>?_;refine oC (fun g12=>?_) fun g12=>?_
   ·refine oB (cI v3 5) fun x20 _=>?_;refine oC (fun g14=>?_) fun g14=>?_
    ·refine oB (e6 pf.asT pf.asP bF) fun x23 _=>?_;refine oC (fun g16=>?_) fun g16=>?_
     ·exact oB (lS pf.asM v3 bF) fun x26 _=>oS
     exact oS
    exact oS
   exact oS
  exact oS
 exact oS
end Go.Proofs.YtfcoaagbccmahaaGreat.W

namespace Go.Proofs.YtfcoaagbccmahaaGreat.W
set_option maxRecDepth 20000
set_option maxHeartbeats 4000000
open Go.RowKit Go.WalkArith Go.IntWalk
attribute [local irreducible] wt wl
def acY(fu:Nat):Prop:= ∀(px:aB) (pi:Int),0≤pi∧wt px≤1073741824→Ok (cV fu px pi) (fun r=>wt r≤wt px)
theorem bW:bL acY:=(bL.ge 2147483648).imp fun fu hfu px pi hpre=>by
 have:=aB.wt_eq px
 have:=aZ px.asF
 refine oD (fun g1=>?_) fun g1=>?_
 ·have:s_.size=0:=rfl
  have:=(aT:wl ([]:List aB)=0∧_)
  have:=aB.wt_mk s_ []
  exact oS
 have:=aZ (px.asF)
 refine oG fun z2=>?_
 have:=cD px.asF ((pi).toNat) z2.2
 exact oS
def UU(fu:Nat):Prop:= ∀(px:aB),wt px≤1073741824→Ok (kJ fu px) (fun r=>wl r≤wt px)
theorem e7:bL UU:=((bL.ge 2147483648).and fX).imp fun fu ⟨hfu,fX⟩ px hpre=>by
 have:=aB.wt_eq px
 refine rT (fX px.asF bF) fun x2 x3 h1=>?_
 dsimp only at h1
 exact oS
def XW(fu:Nat):Prop:= ∀(px:aB) (pi:Int),0≤pi→Ok (sP fu px pi) (fun r=>wl r≤wl px.asF)
theorem kT:bL XW:=((bL.ge 2147483648).and gH).imp fun fu ⟨hfu,gH⟩ px pi hpre=>by
 have:=aB.wt_eq px
 have:=aZ px.asF
 refine oB (gH pi (px.asF.length:Int)) fun x2 h1=>oG fun z2=>?_
 have:=MN (x2:Int).toNat (px.asF.length:Int).toNat px.asF
 exact oS
def aa5(fu:Nat):Prop:= ∀(p0:List aB),wl p0≤67108864→Ok (DA fu p0) (fun r=>wl r≤2*wl p0)
theorem uX:bL aa5:=((bL.ge 2147483648).and fO).imp fun fu ⟨hfu,fO⟩ p0 hpre=>by
 have:=(aT:wl ([]:List aA)=0∧_)
 refine JR p0 2 (fun i1 v3 hl2 hI3 _ _=>?_) ?_
 ·have:=aZ p0
  have:=cD p0 i1 hl2
  refine oB (fO (aP p0 i1) bF) fun x7 h4=>?_
  have:=aZ (v3)
  have:=bU x7
  refine oG fun z5=>?_
  have:=bN v3 ([x7]:List aA)
  exact mF
 intro v3 h1
 exact oS
def UX(fu:Nat):Prop:= ∀(p0:LB),wl p0≤1073741824→Ok (jC fu p0) (fun r=>wt r≤wl p0)
theorem eP:bL UX:=((bL.ge 2147483648).and kU).imp fun fu ⟨hfu,kU⟩ p0 hpre=>by
 refine oB (kU p0 bF) fun x2 h1=>?_
 have:s_.size=0:=rfl
 have:=aB.wt_mk s_ x2
 exact oS
def UV(fu:Nat):Prop:= ∀(p0:List aA),wl p0≤33554432→Ok (wZ fu p0) (fun r=>wl r≤8*wl p0)
theorem qF:bL UV:=((bL.ge 2147483648).and f9).imp fun fu ⟨hfu,f9⟩ p0 hpre=>by
 have:=(aT:wl ([]:List aB)=0∧_)
 refine JR p0 8 (fun i1 v3 hl2 hI3 _ _=>?_) ?_
 ·have:=aZ p0
  have:=cD p0 i1 hl2
  refine oB (f9 (aP p0 i1) bF) fun x7 h4=>?_
  have:=aZ (v3)
  have:=bU x7
  refine oG fun z5=>?_
  have:=bN v3 ([x7]:List aB)
  exact mF
 intro v3 h1
 exact oS
def acZ(fu:Nat):Prop:= ∀(p3:Bool) (px:aB),wt px≤1073741824→Ok (yW fu p3 px) (fun r=>wt r≤wt px)
theorem mA:bL acZ:=((bL.ge 2147483648).and b7).imp fun fu ⟨hfu,b7⟩ p3 px hpre=>by
 refine oW (fun g1=>?_) fun g1=>?_
 ·have:s_.size=0:=rfl
  have:=(aT:wl ([]:List aB)=0∧_)
  have:=aB.wt_mk s_ []
  exact oS
 refine oB (b7 px bF) fun x3 _=>?_;refine oW (fun g3=>?_) fun g3=>?_
 ·have:s_.size=0:=rfl
  have:=(aT:wl ([]:List aB)=0∧_)
  have:=aB.wt_mk s_ []
  exact oS
 exact oS
def LM(fu:Nat):Prop:= ∀(p1:aQ),wt p1≤1048576→(∀a∈p1.asX,EV a.asM)→Ok (t1 fu p1) (fun r=>wt r≤64*wt p1+64)
theorem tU:bL LM:=(((((((((bL.ge 2147483648).and jU).and bE).and eP).and dP).and qF).and f9).and rH).and mA).imp fun fu ⟨⟨⟨⟨⟨⟨⟨⟨hfu,jU⟩,bE⟩,eP⟩,dP⟩,qF⟩,f9⟩,rH⟩,mA⟩ p1 hpre hB=>by
 refine oB (jU p1 bF) fun x2 _=>?_;refine oW (fun g2=>?_) fun g2=>?_
 ·have:s_.size=0:=rfl
  have:=(aT:wl ([]:List aB)=0∧_)
  have:=aB.wt_mk s_ []
  exact oS
 refine Ok.sok (E:=fun v5=>wl v5≤5) ?_ ?_
 ·have:=aQ.wt_eq p1
  refine oC (fun g4=>?_) fun g4=>?_
  ·have:=(aT:wl ([]:LB)=0∧_)
   have:vT.size=4:=rfl
   have:=bU vT
   have:=aV vT
   refine oG fun z5=>?_
   have:=bN ([]:LB) ([vT]:LB)
   exact oI
  have:=(aT:wl ([]:LB)=0∧_)
  exact oI
 intro v5 h3
 refine Ok.sok (E:=fun v9=>wl v9≤11) ?_ ?_
 ·have:=aQ.wt_eq p1
  refine oC (fun g7=>?_) fun g7=>?_
  ·have:=aZ (v5)
   have:gI.size=5:=rfl
   have:=bU gI
   have:=aV gI
   refine oG fun z8=>?_
   have:=bN v5 ([gI]:LB)
   exact oI
  exact oI
 intro v9 h6
 have:C8.size=5:=rfl
 refine oB (bE C8) fun x13 h9=>?_
 have:=aQ.wt_eq p1
 refine oB (bE p1.asD) fun x15 h10=>oB (eP p1.asO bF) fun x17 h11=>oB (eP v9 bF) fun x19 h12=>?_
 have:=akN x13 x15 x17 x19
 refine oB (dP ([x13,x15,x17,x19]:List aB) bF) fun x21 h13=>?_
 have:=aB.wt_eq x21
 refine JR p1.asX 64 (fun i22 v24 hl15 hI16 _ _=>?_) ?_
 ·have:=aZ p1.asX
  have:=cD p1.asX i22 hl15
  refine Ok.lt fun y27 h17=>?_
  have:=congrArg wt h17
  have:=aD.wt_eq y27
  refine oB (bE y27.asD) fun x30 h18=>oB (qF y27.asU bF) fun x32 h19=>oB (f9 y27.asT bF) fun x34 h20=>?_
  have:s_.size=0:=rfl
  have:=aB.wt_mk s_ x32
  have:=zR x30 (aB.mk s_ x32) x34
  refine oB (dP ([x30,(aB.mk s_ x32),x34]:List aB) bF) fun x36 h21=>?_;refine oC (fun g22=>?_) fun g22=>?_
  ·refine oB (eP y27.asP bF) fun x39 h23=>oB (rH y27.asM bF (by rw [show y27=aP p1.asX i22 by assumption];exact R8 hB (by assumption))) fun x41 h24=>?_
   have:=aB.wt_eq x36
   have:=aZ (x36.asF)
   have:=iJ x39 x41
   refine oG fun z25=>?_
   have:=aZ (v24)
   have:=bN x36.asF ([x39,x41]:List aB)
   have:=aB.wt_mk x36.asK (x36.asF++([x39,x41]:List aB))
   have:=bU (aB.mk x36.asK (x36.asF++([x39,x41]:List aB)))
   refine oG fun z26=>?_
   have:=bN v24 ([(aB.mk x36.asK (x36.asF++([x39,x41]:List aB)))]:List aB)
   exact mF
  have:=aZ (v24)
  have:=aB.wt_eq x36
  have:=aB.wt_mk x36.asK x36.asF
  have:=bU (aB.mk x36.asK x36.asF)
  refine oG fun z27=>?_
  have:=bN v24 ([(aB.mk x36.asK x36.asF)]:List aB)
  exact mF
 intro v24 h14
 have:=aB.wt_mk x21.asK v24
 exact oB (mA true (aB.mk x21.asK v24) bF) fun x46 h28=>oS
def LL(fu:Nat):Prop:= ∀(p1:aB),wt p1≤65536→Ok (t0 fu p1) (fun r=>wt r.1≤16*wt p1)
theorem tT:bL LL:=(((((((((((bL.ge 2147483648).and bW).and e7).and cZ).and kT).and uX).and fO).and lR).and b7).and tU).and fC).imp fun fu ⟨⟨⟨⟨⟨⟨⟨⟨⟨⟨hfu,bW⟩,e7⟩,cZ⟩,kT⟩,uX⟩,fO⟩,lR⟩,b7⟩,tU⟩,fC⟩ p1 hpre=>by
 refine oB (bW p1 3 bF) fun x2 h1=>oB (e7 x2 bF) fun x4 h2=>oB (bW p1 1 bF) fun x6 h3=>oB (bW p1 2 bF) fun x8 h4=>oB (e7 x8 bF) fun x10 h5=>?_
 have:vT.size=4:=rfl
 refine oB (cZ x4 vT) fun x12 _=>?_
 have:gI.size=5:=rfl
 refine oB (cZ x4 gI) fun x14 _=>?_
 have:=aB.wt_eq p1
 refine oB (kT p1 4 bF) fun x16 h8=>?_
 have:=(aT:wl ([]:List aD)=0∧_)
 refine aeY (PA:=fun a=>EV a.asM) x16 8 (fun i17 v19 hl10 hI11 hI11B _ _=>?_) ?_
 ·have:=aZ x16
  have:=cD x16 i17 hl10
  refine oB (bW (aP x16 i17) 0 bF) fun x23 h12=>oB (bW (aP x16 i17) 1 bF) fun x25 h13=>?_
  have:=aB.wt_eq x25
  refine oB (uX x25.asF bF) fun x27 h14=>oB (bW (aP x16 i17) 2 bF) fun x29 h15=>oB (fO x29 bF) fun x31 h16=>?_
  have:=aB.wt_eq (aP x16 i17)
  have:=aZ ((aP x16 i17).asF)
  refine oD (fun g17=>?_) fun g17=>?_
  ·refine oB (bW (aP x16 i17) 3 bF) fun x34 h18=>oB (e7 x34 bF) fun x36 h19=>oB (bW (aP x16 i17) 4 bF) fun x38 h20=>K2 (lR x38 bF) fun x40 h21 h21B=>?_
   have:=aZ (v19)
   have:=aB.wt_eq x23
   have:=aD.wt_mk x23.asK x27 x31 true x36 x40
   have:=bU (aD.mk x23.asK x27 x31 true x36 x40)
   refine oG fun z22=>?_
   have:=bN v19 ([(aD.mk x23.asK x27 x31 true x36 x40)]:List aD)
   exact oX hI11B
  have:=aZ (v19)
  have:=aB.wt_eq x23
  have:s_.size=0:=rfl
  have:=(aT:wl ([]:List aA)=0∧_)
  have:=aA.wt_mk 0 s_ []
  have:=(aT:wl ([]:List aG)=0∧_)
  have:=(aT:wl ([]:List bH)=0∧_)
  have:=aG.wt_mk 0 s_ s_ 0 (aA.mk 0 s_ []) [] []
  have:=(aT:wl ([]:LB)=0∧_)
  have:=aD.wt_mk x23.asK x27 x31 false [] (aG.mk 0 s_ s_ 0 (aA.mk 0 s_ []) [] [])
  have:=bU (aD.mk x23.asK x27 x31 false [] (aG.mk 0 s_ s_ 0 (aA.mk 0 s_ []) [] []))
  refine oG fun z23=>?_
  have:=bN v19 ([(aD.mk x23.asK x27 x31 false [] (aG.mk 0 s_ s_ 0 (aA.mk 0 s_ []) [] []))]:List aD)
  exact oX hI11B
 rintro v19 ⟨h9,h9B⟩
 refine oB (b7 p1 bF) fun x44 _=>?_;refine oW (fun g25=>?_) fun g25=>?_
 ·have:s_.size=0:=rfl
  have:=(aT:wl ([]:LB)=0∧_)
  have:=aQ.wt_mk s_ [] false false []
  exact oS
 have:=aZ p1.asF
 refine oD (fun g26=>?_) fun g26=>?_
 ·have:s_.size=0:=rfl
  have:=(aT:wl ([]:LB)=0∧_)
  have:=aQ.wt_mk s_ [] false false []
  exact oS
 have:=aB.wt_eq x6
 have:=aQ.wt_mk x6.asK x10 x12 x14 v19
 refine oB (tU (aQ.mk x6.asK x10 x12 x14 v19) bF (by first|assumption|trivial)) fun x48 h27=>oB (fC x48 p1 bF) fun x50 _=>?_;refine oW (fun g29=>?_) fun g29=>?_
 ·have:s_.size=0:=rfl
  have:=(aT:wl ([]:LB)=0∧_)
  have:=aQ.wt_mk s_ [] false false []
  exact oS
 exact oS
def E0(fu:Nat):Prop:= ∀(pd:aI),wt pd≤1048576→Ok (o6 fu pd) (fun r=>wt r≤64*wt pd+64)
theorem oV:bL E0:=(((((((bL.ge 2147483648).and bE).and eP).and dP).and qF).and gU).and mA).imp fun fu ⟨⟨⟨⟨⟨⟨hfu,bE⟩,eP⟩,dP⟩,qF⟩,gU⟩,mA⟩ pd hpre=>by
 have:KB.size=4:=rfl
 refine oB (bE KB) fun x2 h1=>?_
 have:=aI.wt_eq pd
 refine oB (bE pd.asD) fun x4 h2=>oB (eP pd.asP bF) fun x6 h3=>?_
 have:=zR x2 x4 x6
 refine oB (dP ([x2,x4,x6]:List aB) bF) fun x8 h4=>?_
 have:=aB.wt_eq x8
 refine JR pd.asI 64 (fun i9 v11 hl6 hI7 _ _=>?_) ?_
 ·have:=aZ pd.asI
  have:=cD pd.asI i9 hl6
  have:=aC.wt_eq (aP pd.asI i9)
  refine oB (bE ((aP pd.asI i9).asD)) fun x15 h8=>oB (qF ((aP pd.asI i9).asR) bF) fun x17 h9=>?_
  have:=bU x15
  have:=aZ (x17)
  refine oG fun z10=>?_
  have:=aZ (v11)
  have:s_.size=0:=rfl
  have:=bN ([x15]:List aB) x17
  have:=aB.wt_mk s_ (([x15]:List aB)++x17)
  have:=bU (aB.mk s_ (([x15]:List aB)++x17))
  refine oG fun z11=>?_
  have:=bN v11 ([(aB.mk s_ (([x15]:List aB)++x17))]:List aB)
  exact mF
 intro v11 h5
 refine oB (gU pd bF) fun x21 _=>?_
 have:=aB.wt_mk x8.asK v11
 exact oB (mA x21 (aB.mk x8.asK v11) bF) fun x23 h13=>oS
def E9(fu:Nat):Prop:= ∀(px:aB),wt px≤65536→Ok (o9 fu px) (fun r=>wt r.1≤16*wt px)
theorem o3:bL E9:=((((((((bL.ge 2147483648).and bW).and e7).and kT).and uX).and b7).and oV).and fC).imp fun fu ⟨⟨⟨⟨⟨⟨⟨hfu,bW⟩,e7⟩,kT⟩,uX⟩,b7⟩,oV⟩,fC⟩ px hpre=>by
 refine oB (bW px 1 bF) fun x2 h1=>oB (bW px 2 bF) fun x4 h2=>oB (e7 x4 bF) fun x6 h3=>?_
 have:=aB.wt_eq px
 refine oB (kT px 3 bF) fun x8 h4=>?_
 have:=(aT:wl ([]:List aC)=0∧_)
 refine JR x8 4 (fun i9 v11 hl6 hI7 _ _=>?_) ?_
 ·have:=aZ x8
  have:=cD x8 i9 hl6
  refine oB (bW (aP x8 i9) 0 bF) fun x15 h8=>?_
  have:=aB.wt_eq (aP x8 i9)
  refine oB (kT (aP x8 i9) 1 bF) fun x17 h9=>oB (uX x17 bF) fun x19 h10=>?_
  have:=aZ (v11)
  have:=aB.wt_eq x15
  have:=aC.wt_mk x15.asK x19
  have:=bU (aC.mk x15.asK x19)
  refine oG fun z11=>?_
  have:=bN v11 ([(aC.mk x15.asK x19)]:List aC)
  exact mF
 intro v11 h5
 refine oB (b7 px bF) fun x22 _=>?_;refine oW (fun g13=>?_) fun g13=>?_
 ·have:s_.size=0:=rfl
  have:=(aT:wl ([]:LB)=0∧_)
  have:=aI.wt_mk s_ [] []
  exact oS
 have:=aZ px.asF
 refine oD (fun g14=>?_) fun g14=>?_
 ·have:s_.size=0:=rfl
  have:=(aT:wl ([]:LB)=0∧_)
  have:=aI.wt_mk s_ [] []
  exact oS
 have:=aB.wt_eq x2
 have:=aI.wt_mk x2.asK x6 v11
 refine oB (oV (aI.mk x2.asK x6 v11) bF) fun x26 h15=>oB (fC x26 px bF) fun x28 _=>?_;refine oW (fun g17=>?_) fun g17=>?_
 ·have:s_.size=0:=rfl
  have:=(aT:wl ([]:LB)=0∧_)
  have:=aI.wt_mk s_ [] []
  exact oS
 exact oS
def R4(fu:Nat):Prop:= ∀(px:aB),wt px≤33554432→Ok (uR fu px) (fun r=>wl r≤4*wt px)
theorem nJ:bL R4:=(((bL.ge 2147483648).and bW).and fO).imp fun fu ⟨⟨hfu,bW⟩,fO⟩ px hpre=>by
 have:=(aT:wl ([]:List aE)=0∧_)
 have:=aB.wt_eq px
 refine JR px.asF 4 (fun i1 v3 hl2 hI3 _ _=>?_) ?_
 ·have:=aZ px.asF
  have:=cD px.asF i1 hl2
  refine oB (bW (aP px.asF i1) 0 bF) fun x7 h4=>oB (bW (aP px.asF i1) 1 bF) fun x9 h5=>oB (fO x9 bF) fun x11 h6=>?_
  have:=aZ (v3)
  have:=aB.wt_eq x7
  have:=aE.wt_mk x7.asK x11
  have:=bU (aE.mk x7.asK x11)
  refine oG fun z7=>?_
  have:=bN v3 ([(aE.mk x7.asK x11)]:List aE)
  exact mF
 intro v3 h1
 exact oS
def UW(fu:Nat):Prop:= ∀(p0:List aE),wl p0≤16777216→Ok (w5 fu p0) (fun r=>wt r≤16*wl p0)
theorem qG:bL UW:=((((bL.ge 2147483648).and bE).and f9).and dP).imp fun fu ⟨⟨⟨hfu,bE⟩,f9⟩,dP⟩ p0 hpre=>by
 have:=(aT:wl ([]:List aB)=0∧_)
 refine JR p0 16 (fun i1 v3 hl2 hI3 _ _=>?_) ?_
 ·have:=aZ p0
  have:=cD p0 i1 hl2
  have:=aE.wt_eq (aP p0 i1)
  refine oB (bE ((aP p0 i1).asN)) fun x7 h4=>oB (f9 ((aP p0 i1).asH) bF) fun x9 h5=>?_
  have:=iJ x7 x9
  refine oB (dP ([x7,x9]:List aB) bF) fun x11 h6=>?_
  have:=aZ (v3)
  have:=bU x11
  refine oG fun z7=>?_
  have:=bN v3 ([x11]:List aB)
  exact mF
 intro v3 h1
 have:s_.size=0:=rfl
 have:=aB.wt_mk s_ v3
 exact oS
def E5(fu:Nat):Prop:= ∀(p1:aJ),wt p1≤1048576→(∀a∈p1.as2,EV a.asM)→Ok (o8 fu p1) (fun r=>wt r≤64*wt p1+128)
theorem oZ:bL E5:=(((((((((bL.ge 2147483648).and gW).and f9).and dP).and bE).and eP).and qG).and rH).and mA).imp fun fu ⟨⟨⟨⟨⟨⟨⟨⟨hfu,gW⟩,f9⟩,dP⟩,bE⟩,eP⟩,qG⟩,rH⟩,mA⟩ p1 hpre hB=>by
 refine oB (gW p1 bF) fun x2 _=>?_;refine oW (fun g2=>?_) fun g2=>?_
 ·have:s_.size=0:=rfl
  have:=(aT:wl ([]:List aB)=0∧_)
  have:=aB.wt_mk s_ []
  exact oS
 refine Ok.sok (E:=fun v5=>wl v5≤8) ?_ ?_
 ·have:=aJ.wt_eq p1
  refine oC (fun g4=>?_) fun g4=>?_
  ·have:=(aT:wl ([]:LB)=0∧_)
   have:sJ.size=7:=rfl
   have:=bU sJ
   have:=aV sJ
   refine oG fun z5=>?_
   have:=bN ([]:LB) ([sJ]:LB)
   exact oI
  have:=(aT:wl ([]:LB)=0∧_)
  exact oI
 intro v5 h3
 have:=aJ.wt_eq p1
 refine Ok.sok (E:=fun(v8,v9)=>v8.size+wl v9≤8*wt p1.asW+16) ?_ ?_
 ·refine oC (fun g7=>?_) fun g7=>?_
  ·refine oB (f9 p1.asW bF) fun x12 h8=>?_
   have:=bU x12
   refine oB (dP ([x12]:List aB) bF) fun x14 h9=>?_
   have:=aB.wt_eq x14
   exact oI
  have:s_.size=0:=rfl
  have:=(aT:wl ([]:List aB)=0∧_)
  exact oI
 rintro⟨v8,v9⟩ h6
 dsimp only at h6
 have:KC.size=4:=rfl
 refine oB (bE KC) fun x16 h10=>oB (bE p1.asN) fun x18 h11=>oB (eP p1.asP bF) fun x20 h12=>oB (f9 p1.as1 bF) fun x22 h13=>oB (qG p1.as0 bF) fun x24 h14=>oB (eP v5 bF) fun x26 h15=>?_
 have:=aB.wt_mk v8 v9
 have:=abX x16 x18 x20 x22 x24 x26 (aB.mk v8 v9)
 refine oB (dP ([x16,x18,x20,x22,x24,x26,(aB.mk v8 v9)]:List aB) bF) fun x28 h16=>?_
 have:=aB.wt_eq x28
 refine JR p1.as2 64 (fun i29 v31 hl18 hI19 _ _=>?_) ?_
 ·have:=aZ p1.as2
  have:=cD p1.as2 i29 hl18
  refine Ok.lt fun y34 h20=>?_
  have:=congrArg wt h20
  have:=aM.wt_eq y34
  refine oB (bE y34.asD) fun x37 h21=>oB (eP y34.asP bF) fun x39 h22=>oB (rH y34.asM bF (by rw [show y34=aP p1.as2 i29 by assumption];exact R8 hB (by assumption))) fun x41 h23=>?_
  have:=zR x37 x39 x41
  refine oB (dP ([x37,x39,x41]:List aB) bF) fun x43 h24=>?_
  have:=aZ (v31)
  have:=aB.wt_eq x43
  have:=aB.wt_mk x43.asK x43.asF
  have:=bU (aB.mk x43.asK x43.asF)
  refine oG fun z25=>?_
  have:=bN v31 ([(aB.mk x43.asK x43.asF)]:List aB)
  exact mF
 intro v31 h17
 have:=aB.wt_mk x28.asK v31
 exact oB (mA true (aB.mk x28.asK v31) bF) fun x46 h26=>oS
def FB(fu:Nat):Prop:= ∀(p1:aB),wt p1≤65536→Ok (pV fu p1) (fun r=>wt r.1≤16*wt p1)
theorem o5:bL FB:=((((((((((bL.ge 2147483648).and bW).and e7).and fO).and nJ).and kT).and lR).and b7).and oZ).and fC).imp fun fu ⟨⟨⟨⟨⟨⟨⟨⟨⟨hfu,bW⟩,e7⟩,fO⟩,nJ⟩,kT⟩,lR⟩,b7⟩,oZ⟩,fC⟩ p1 hpre=>by
 refine oB (bW p1 1 bF) fun x2 h1=>oB (bW p1 2 bF) fun x4 h2=>oB (e7 x4 bF) fun x6 h3=>oB (bW p1 3 bF) fun x8 h4=>oB (fO x8 bF) fun x10 h5=>oB (bW p1 4 bF) fun x12 h6=>oB (nJ x12 bF) fun x14 h7=>oB (bW p1 5 bF) fun x16 h8=>oB (bW p1 6 bF) fun x18 h9=>?_;refine Ok.sok (E:=fun(v22,v19,v20,v21)=>wl v22+v21.size≤2*wt x18) ?_ ?_
 ·have:=aB.wt_eq x18
  have:=aZ x18.asF
  refine oD (fun g11=>?_) fun g11=>?_
  ·have:=aZ (x18.asF)
   refine oG fun z12=>?_
   have:=cD x18.asF 0 z12
   have:wl (List.take 1 x18.asF)=wl (List.take 0 x18.asF)+wt (aP x18.asF 0)+1:=EU x18.asF 0 z12
   refine oB (fO (aP x18.asF 0) bF) fun x26 h13=>?_
   have:=aA.wt_eq x26
   exact oI
  have:s_.size=0:=rfl
  have:=(aT:wl ([]:List aA)=0∧_)
  exact oI
 rintro⟨v22,v19,v20,v21⟩ h10
 dsimp only at h10
 have:=aB.wt_eq p1
 refine oB (kT p1 7 bF) fun x28 h14=>?_
 have:=(aT:wl ([]:List aM)=0∧_)
 refine aeY (PA:=fun a=>EV a.asM) x28 4 (fun i29 v31 hl16 hI17 hI17B _ _=>?_) ?_
 ·have:=aZ x28
  have:=cD x28 i29 hl16
  refine oB (bW (aP x28 i29) 0 bF) fun x35 h18=>oB (bW (aP x28 i29) 1 bF) fun x37 h19=>oB (e7 x37 bF) fun x39 h20=>oB (bW (aP x28 i29) 2 bF) fun x41 h21=>K2 (lR x41 bF) fun x43 h22 h22B=>?_
  have:=aZ (v31)
  have:=aB.wt_eq x35
  have:=aM.wt_mk x35.asK x39 x43
  have:=bU (aM.mk x35.asK x39 x43)
  refine oG fun z23=>?_
  have:=bN v31 ([(aM.mk x35.asK x39 x43)]:List aM)
  exact oX hI17B
 rintro v31 ⟨h15,h15B⟩
 refine oB (b7 p1 bF) fun x46 _=>?_;refine oW (fun g25=>?_) fun g25=>?_
 ·have:s_.size=0:=rfl
  have:=(aT:wl ([]:List aA)=0∧_)
  have:=aA.wt_mk 0 s_ []
  have:=(aT:wl ([]:LB)=0∧_)
  have:=(aT:wl ([]:List aE)=0∧_)
  have:=aJ.wt_mk s_ [] (aA.mk 0 s_ []) [] false false (aA.mk 0 s_ []) []
  exact oS
 have:=aZ p1.asF
 refine oD (fun g26=>?_) fun g26=>?_
 ·have:s_.size=0:=rfl
  have:=(aT:wl ([]:List aA)=0∧_)
  have:=aA.wt_mk 0 s_ []
  have:=(aT:wl ([]:LB)=0∧_)
  have:=(aT:wl ([]:List aE)=0∧_)
  have:=aJ.wt_mk s_ [] (aA.mk 0 s_ []) [] false false (aA.mk 0 s_ []) []
  exact oS
 have:=aB.wt_eq x2
 have:=aB.wt_eq x16
 have:=aZ x16.asF
 have:=aA.wt_mk v20 v21 v22
 have:=aJ.wt_mk x2.asK x6 x10 x14 (decide ((x16.asF.length:Int)>0)) v19 (aA.mk v20 v21 v22) v31
 refine oB (oZ (aJ.mk x2.asK x6 x10 x14 (decide ((x16.asF.length:Int)>0)) v19 (aA.mk v20 v21 v22) v31) bF (by first|assumption|trivial)) fun x50 h27=>oB (fC x50 p1 bF) fun x52 _=>?_;refine oW (fun g29=>?_) fun g29=>?_
 ·have:s_.size=0:=rfl
  have:=(aT:wl ([]:List aA)=0∧_)
  have:=aA.wt_mk 0 s_ []
  have:=(aT:wl ([]:LB)=0∧_)
  have:=(aT:wl ([]:List aE)=0∧_)
  have:=aJ.wt_mk s_ [] (aA.mk 0 s_ []) [] false false (aA.mk 0 s_ []) []
  exact oS
 exact oS
def E4(fu:Nat):Prop:= ∀(pf:aL),wt pf≤1048576→(EV pf.asM)→Ok (o7 fu pf) (fun r=>wt r≤64*wt pf+128)
theorem oY:bL E4:=(((((((((bL.ge 2147483648).and gV).and bE).and f9).and dP).and eP).and qG).and rH).and mA).imp fun fu ⟨⟨⟨⟨⟨⟨⟨⟨hfu,gV⟩,bE⟩,f9⟩,dP⟩,eP⟩,qG⟩,rH⟩,mA⟩ pf hpre hB=>by
 refine oB (gV pf bF) fun x2 _=>?_;refine oW (fun g2=>?_) fun g2=>?_
 ·have:s_.size=0:=rfl
  have:=(aT:wl ([]:List aB)=0∧_)
  have:=aB.wt_mk s_ []
  exact oS
 have:=(aT:wl ([]:List aB)=0∧_)
 have:=aL.wt_eq pf
 refine JR pf.asU 16 (fun i4 v6 hl4 hI5 _ _=>?_) ?_
 ·have:=aZ pf.asU
  have:=cD pf.asU i4 hl4
  have:=aR.wt_eq (aP pf.asU i4)
  refine oB (bE ((aP pf.asU i4).asD)) fun x10 h6=>oB (f9 ((aP pf.asU i4).asH) bF) fun x12 h7=>?_
  have:=iJ x10 x12
  refine oB (dP ([x10,x12]:List aB) bF) fun x14 h8=>?_
  have:=aZ (v6)
  have:=bU x14
  refine oG fun z9=>?_
  have:=bN v6 ([x14]:List aB)
  exact mF
 intro v6 h3
 have:ab8.size=2:=rfl
 refine oB (bE ab8) fun x17 h10=>oB (bE pf.asD) fun x19 h11=>oB (eP pf.asP bF) fun x21 h12=>oB (qG pf.as0 bF) fun x23 h13=>oB (f9 pf.asT bF) fun x25 h14=>oB (rH pf.asM bF (by first|assumption|trivial)) fun x27 h15=>?_
 have:s_.size=0:=rfl
 have:=aB.wt_mk s_ v6
 have:=abX x17 x19 x21 x23 (aB.mk s_ v6) x25 x27
 exact oB (dP ([x17,x19,x21,x23,(aB.mk s_ v6),x25,x27]:List aB) bF) fun x29 h16=>oB (mA true x29 bF) fun x31 h17=>oS
def FA(fu:Nat):Prop:= ∀(p1:aB),wt p1≤65536→Ok (pT fu p1) (fun r=>wt r.1≤16*wt p1)
theorem o4:bL FA:=(((((((((bL.ge 2147483648).and bW).and e7).and nJ).and fO).and lR).and b7).and oY).and fC).imp fun fu ⟨⟨⟨⟨⟨⟨⟨⟨hfu,bW⟩,e7⟩,nJ⟩,fO⟩,lR⟩,b7⟩,oY⟩,fC⟩ p1 hpre=>by
 refine oB (bW p1 1 bF) fun x2 h1=>oB (bW p1 2 bF) fun x4 h2=>oB (e7 x4 bF) fun x6 h3=>oB (bW p1 3 bF) fun x8 h4=>oB (nJ x8 bF) fun x10 h5=>oB (bW p1 5 bF) fun x12 h6=>oB (fO x12 bF) fun x14 h7=>oB (bW p1 6 bF) fun x16 h8=>K2 (lR x16 bF) fun x18 h9 h9B=>oB (bW p1 4 bF) fun x20 h10=>?_
 have:=(aT:wl ([]:List aR)=0∧_)
 have:=aB.wt_eq x20
 refine JR x20.asF 4 (fun i21 v23 hl12 hI13 _ _=>?_) ?_
 ·have:=aZ x20.asF
  have:=cD x20.asF i21 hl12
  refine oB (bW (aP x20.asF i21) 0 bF) fun x27 h14=>oB (bW (aP x20.asF i21) 1 bF) fun x29 h15=>oB (fO x29 bF) fun x31 h16=>?_
  have:=aZ (v23)
  have:=aB.wt_eq x27
  have:=aR.wt_mk x27.asK x31
  have:=bU (aR.mk x27.asK x31)
  refine oG fun z17=>?_
  have:=bN v23 ([(aR.mk x27.asK x31)]:List aR)
  exact mF
 intro v23 h11
 refine oB (b7 p1 bF) fun x34 _=>?_;refine oW (fun g19=>?_) fun g19=>?_
 ·have:s_.size=0:=rfl
  have:=(aT:wl ([]:List aA)=0∧_)
  have:=aA.wt_mk 0 s_ []
  have:=(aT:wl ([]:List aG)=0∧_)
  have:=(aT:wl ([]:List bH)=0∧_)
  have:=aG.wt_mk 0 s_ s_ 0 (aA.mk 0 s_ []) [] []
  have:=(aT:wl ([]:LB)=0∧_)
  have:=(aT:wl ([]:List aE)=0∧_)
  have:=aL.wt_mk s_ [] [] [] (aA.mk 0 s_ []) (aG.mk 0 s_ s_ 0 (aA.mk 0 s_ []) [] [])
  exact oS
 have:=aB.wt_eq p1
 have:=aZ p1.asF
 refine oD (fun g20=>?_) fun g20=>?_
 ·have:s_.size=0:=rfl
  have:=(aT:wl ([]:List aA)=0∧_)
  have:=aA.wt_mk 0 s_ []
  have:=(aT:wl ([]:List aG)=0∧_)
  have:=(aT:wl ([]:List bH)=0∧_)
  have:=aG.wt_mk 0 s_ s_ 0 (aA.mk 0 s_ []) [] []
  have:=(aT:wl ([]:LB)=0∧_)
  have:=(aT:wl ([]:List aE)=0∧_)
  have:=aL.wt_mk s_ [] [] [] (aA.mk 0 s_ []) (aG.mk 0 s_ s_ 0 (aA.mk 0 s_ []) [] [])
  exact oS
 have:=aB.wt_eq x2
 have:=aL.wt_mk x2.asK x6 x10 v23 x14 x18
 refine oB (oY (aL.mk x2.asK x6 x10 v23 x14 x18) bF (by first|assumption|trivial)) fun x38 h21=>oB (fC x38 p1 bF) fun x40 _=>?_;refine oW (fun g23=>?_) fun g23=>?_
 ·have:s_.size=0:=rfl
  have:=(aT:wl ([]:List aA)=0∧_)
  have:=aA.wt_mk 0 s_ []
  have:=(aT:wl ([]:List aG)=0∧_)
  have:=(aT:wl ([]:List bH)=0∧_)
  have:=aG.wt_mk 0 s_ s_ 0 (aA.mk 0 s_ []) [] []
  have:=(aT:wl ([]:LB)=0∧_)
  have:=(aT:wl ([]:List aE)=0∧_)
  have:=aL.wt_mk s_ [] [] [] (aA.mk 0 s_ []) (aG.mk 0 s_ s_ 0 (aA.mk 0 s_ []) [] [])
  exact oS
 exact oS
end Go.Proofs.YtfcoaagbccmahaaGreat.W

namespace Go.Proofs.YtfcoaagbccmahaaGreat.W
set_option maxRecDepth 20000
set_option maxHeartbeats 4000000
open Go.RowKit Go.WalkArith Go.IntWalk
def R2(fu:Nat):Prop:= ∀(ps:ByteArray) (p4:UInt8),ps.size≤1073741824→Ok (zY fu ps p4) (fun r=>wl r≤ps.size+1)
theorem zO:bL R2:=(bL.ge 2147483648).imp fun fu hfu ps p4 hpre=>by
 have:=(aT:wl ([]:LB)=0∧_)
 refine Ok.sok (E:=fun(v4,v2,v3)=>wl v4≤ps.size+1) ?_ ?_
 ·refine Ok.loopW (fun(v4,v2,v3)=>0≤v2∧v2≤v3∧v3≤(ps.size:Int)+1∧(wl v4:Int)≤v2) (fun(v4,v2,v3)=>((ps.size:Int)+2-v3).toNat) ?_ _ _ bF bF
  rintro⟨v4,v2,v3⟩ hI3
  try dsimp only at hI3
  refine oD (fun g4=>?_) fun g4=>?_
  ·refine oD (fun g5=>?_) fun g5=>?_
   ·refine oG fun z6=>?_
    have:=aZ (v4)
    have:=zG ps (v2:Int).toNat (v3:Int).toNat
    have:=bU (ps.extract (v2:Int).toNat (v3:Int).toNat)
    have:=aV (ps.extract (v2:Int).toNat (v3:Int).toNat)
    refine oG fun z7=>?_
    have:=bN v4 ([(ps.extract (v2:Int).toNat (v3:Int).toNat)]:LB)
    have:=dU (v3+1)
    exact mF
   refine oG fun z8=>?_;refine oD (fun g9=>?_) fun g9=>?_
   ·refine oG fun z10=>?_
    have:=aZ (v4)
    have:=zG ps (v2:Int).toNat (v3:Int).toNat
    have:=bU (ps.extract (v2:Int).toNat (v3:Int).toNat)
    have:=aV (ps.extract (v2:Int).toNat (v3:Int).toNat)
    refine oG fun z11=>?_
    have:=bN v4 ([(ps.extract (v2:Int).toNat (v3:Int).toNat)]:LB)
    have:=dU (v3+1)
    exact mF
   have:=dU (v3+1)
   exact mF
  exact oK
 rintro⟨v4,v2,v3⟩ h1
 dsimp only at h1
 exact oS
def UY(fu:Nat):Prop:= ∀(ps:ByteArray),ps.size≤1073741824→Ok (CD fu ps) (fun _=>True)
theorem BR:bL UY:=(bL.ge 2147483648).imp fun fu hfu ps hpre=>by
 refine A0 ?_ ?_
 ·refine Ok.loop1 ?_;rintro i1 ⟨⟩ hl2
  exact oG fun z4=>oN (fun _=>oR) fun g5=>mF
 rintro⟨⟩-
 exact oS
def XY(fu:Nat):Prop:= ∀(p1:ByteArray×(LB)×(List aQ)×(List aI)×(List aJ)×(List aL)) (p2:aB),wt p2≤65536∧wl p1.2.2.1+wl p1.2.2.2.1+wl p1.2.2.2.2.1+wl p1.2.2.2.2.2≤1073741824→Ok (GG fu p1 p2) (fun r=>r.2.1.size+wl r.2.2.1+wl r.2.2.2.1+wl r.2.2.2.2.1+wl r.2.2.2.2.2.1+wl r.2.2.2.2.2.2≤p1.1.size+wl p1.2.1+wl p1.2.2.1+wl p1.2.2.2.1+wl p1.2.2.2.2.1+wl p1.2.2.2.2.2+16*wt p2+1)
theorem FT:bL XY:=((((((bL.ge 2147483648).and bW).and tT).and o3).and o5).and o4).imp fun fu ⟨⟨⟨⟨⟨hfu,bW⟩,tT⟩,o3⟩,o5⟩,o4⟩ p1 p2 hpre=>by
 have:=aZ p1.2.2.1
 have:=aZ p1.2.2.2.1
 have:=aZ p1.2.2.2.2.1
 have:=aZ p1.2.2.2.2.2
 refine oB (bW p2 0 bF) fun x2 h1=>?_
 have:=aB.wt_eq x2
 have:C8.size=5:=rfl
 refine oD (fun g2=>?_) fun g2=>?_
 ·have:=congrArg ByteArray.size g2
  refine rT (tT p2 bF) fun x5 x6 h3=>?_
  dsimp only at h3
  have:=aZ (p1.2.2.1)
  have:=bU x5
  refine oG fun z4=>?_
  have:=bN p1.2.2.1 ([x5]:List aQ)
  exact oS
 have:KB.size=4:=rfl
 refine oD (fun g5=>?_) fun g5=>?_
 ·have:=congrArg ByteArray.size g5
  refine rT (o3 p2 bF) fun x10 x11 h6=>?_
  dsimp only at h6
  have:=aZ (p1.2.2.2.1)
  have:=bU x10
  refine oG fun z7=>?_
  have:=bN p1.2.2.2.1 ([x10]:List aI)
  exact oS
 have:KC.size=4:=rfl
 refine oD (fun g8=>?_) fun g8=>?_
 ·have:=congrArg ByteArray.size g8
  refine rT (o5 p2 bF) fun x15 x16 h9=>?_
  dsimp only at h9
  have:=aZ (p1.2.2.2.2.1)
  have:=bU x15
  refine oG fun z10=>?_
  have:=bN p1.2.2.2.2.1 ([x15]:List aJ)
  exact oS
 have:ab8.size=2:=rfl
 refine oD (fun g11=>?_) fun g11=>?_
 ·have:=congrArg ByteArray.size g11
  refine rT (o4 p2 bF) fun x20 x21 h12=>?_
  dsimp only at h12
  have:=bU x20
  refine oG fun z13=>?_
  have:=bN p1.2.2.2.2.2 ([x20]:List aL)
  exact oS
 exact oS
def UZ(fu:Nat):Prop:= ∀(p0:aK),wt p0≤4194304→Ok (CE fu p0) (fun _=>True)
theorem BS:bL UZ:=(bL.ge 2147483648).imp fun fu hfu p0 hpre=>by
 have:=(aT:wl ([]:LB)=0∧_)
 have:=aK.wt_eq p0
 refine JR p0.asQ 1 (fun i1 v3 hl2 hI3 _ _=>?_) ?_
 ·have:=aZ p0.asQ
  have:=aZ (v3)
  have:=cD p0.asQ i1 hl2
  have:=aQ.wt_eq (aP p0.asQ i1)
  have:=bU ((aP p0.asQ i1).asD)
  have:=aV ((aP p0.asQ i1).asD)
  refine oG fun z4=>?_
  have:=bN v3 ([((aP p0.asQ i1).asD)]:LB)
  exact mF
 intro v3 h1
 refine Ok.sok (E:=fun(v10,v11)=>wl v10+1*wl (List.take 0 p0.asL)≤wl ([]:LB)+1*wl p0.asL∧wl v11+1*wl (List.take 0 p0.asL)≤wl ([]:LB)+1*wl p0.asL) ?_ ?_
 ·refine Ok.loop0 (fun i7 (v10,v11)=>wl v10+1*wl (List.take 0 p0.asL)≤wl ([]:LB)+1*wl (List.take i7 p0.asL)∧wl v11+1*wl (List.take 0 p0.asL)≤wl ([]:LB)+1*wl (List.take i7 p0.asL)) (by exact bF) (by rintro i7 ⟨v10,v11⟩-hI;have:=l4 p0.asL i7;(try dsimp only at hI ⊢);omega) ?_;rintro i7 ⟨v10,v11⟩ hl6 hI7
  dsimp only at hI7
  have:=aZ p0.asL
  have:=l5 p0.asL i7 hl6
  have:=l4 p0.asL (i7+1)
  have:=aZ (v10)
  have:=cD p0.asL i7 hl6
  have:=aI.wt_eq (aP p0.asL i7)
  have:=bU ((aP p0.asL i7).asD)
  have:=aV ((aP p0.asL i7).asD)
  refine oG fun z8=>?_;refine JR ((aP p0.asL i7).asI) 1 (fun i15 v17 hl10 hI11 _ _=>?_) ?_
  ·have:=aZ ((aP p0.asL i7).asI)
   have:=aZ (v17)
   have:=cD ((aP p0.asL i7).asI) i15 hl10
   have:=aC.wt_eq (aP ((aP p0.asL i7).asI) i15)
   have:=bU ((aP ((aP p0.asL i7).asI) i15).asD)
   have:=aV ((aP ((aP p0.asL i7).asI) i15).asD)
   refine oG fun z12=>?_
   have:=bN v17 ([((aP ((aP p0.asL i7).asI) i15).asD)]:LB)
   exact mF
  intro v17 h9
  have:=bN v10 ([((aP p0.asL i7).asD)]:LB)
  exact mF
 rintro⟨v10,v11⟩ h5
 dsimp only at h5
 refine JR p0.asY 1 (fun i21 v23 hl14 hI15 _ _=>?_) ?_
 ·have:=aZ p0.asY
  have:=cD p0.asY i21 hl14
  refine Ok.lt fun y26 h16=>?_
  have:=congrArg wt h16
  have:=aZ (v23)
  have:=aL.wt_eq y26
  have:=bU y26.asD
  have:=aV y26.asD
  refine oG fun z17=>?_
  have:=bN v23 ([y26.asD]:LB)
  exact mF
 intro v23 h13
 exact oS
def U0(fu:Nat):Prop:= ∀(pp:aK),wt pp≤4194304→Ok (tG fu pp) (fun _=>True)
theorem BT:bL U0:=(((((bL.ge 2147483648).and jU).and gU).and gW).and gV).imp fun fu ⟨⟨⟨⟨hfu,jU⟩,gU⟩,gW⟩,gV⟩ pp hpre=>by
 refine A0 ?_ ?_
 ·refine Ok.loop1 ?_;rintro i1 ⟨⟩ hl2
  have:=aK.wt_eq pp
  have:=aZ pp.asQ
  have:=cD pp.asQ i1 hl2
  exact oB (jU (aP pp.asQ i1) bF) fun x5 _=>oW (fun _=>oR) fun g5=>mF
 rintro⟨⟩-
 refine A0 ?_ ?_
 ·refine Ok.loop1 ?_;rintro i7 ⟨⟩ hl7
  have:=aK.wt_eq pp
  have:=aZ pp.asL
  have:=cD pp.asL i7 hl7
  exact oB (gU (aP pp.asL i7) bF) fun x11 _=>oW (fun _=>oR) fun g10=>mF
 rintro⟨⟩-
 refine A0 ?_ ?_
 ·refine Ok.loop1 ?_;rintro i13 ⟨⟩ hl12
  have:=aK.wt_eq pp
  have:=aZ pp.asS
  have:=cD pp.asS i13 hl12
  refine Ok.lt fun y16 h14=>?_
  have:=congrArg wt h14
  exact oB (gW y16 bF) fun x19 _=>oW (fun _=>oR) fun g16=>mF
 rintro⟨⟩-
 refine A0 ?_ ?_
 ·refine Ok.loop1 ?_;rintro i21 ⟨⟩ hl18
  have:=aK.wt_eq pp
  have:=aZ pp.asY
  have:=cD pp.asY i21 hl18
  refine Ok.lt fun y24 h20=>?_
  have:=congrArg wt h20
  exact oB (gV y24 bF) fun x27 _=>oW (fun _=>oR) fun g22=>mF
 rintro⟨⟩-
 exact oS
def GV(fu:Nat):Prop:= ∀(p0:aK),wt p0≤4194304→Ok (kE fu p0) (fun _=>True)
theorem rF:bL GV:=(((((((bL.ge 2147483648).and BS).and bB).and cI).and cZ).and dL).and BT).imp fun fu ⟨⟨⟨⟨⟨⟨hfu,BS⟩,bB⟩,cI⟩,cZ⟩,dL⟩,BT⟩ p0 hpre=>by
 refine oB4 (BS p0 bF) fun x2 x3 x4 x5 _=>?_
 have:=aK.wt_eq p0
 refine oB (bB p0.asD) fun x7 _=>oW (fun _=>oS) fun g3=>oB (cI p0.atC 5) fun x10 _=>oW (fun _=>oS) fun g5=>oB (cZ p0.atC p0.asD) fun x13 _=>oC (fun _=>oS) fun g7=>?_
 have:=aZ p0.asQ
 have:=aZ p0.asL
 have:=dU ((p0.asQ.length:Int)+(p0.asL.length:Int))
 have:=aZ p0.asS
 have:=dU ((aY ((p0.asQ.length:Int)+(p0.asL.length:Int)))+(p0.asS.length:Int))
 have:=aZ p0.asY
 have:=dU ((aY ((aY ((p0.asQ.length:Int)+(p0.asL.length:Int)))+(p0.asS.length:Int)))+(p0.asY.length:Int))
 refine oD (fun _=>oS) fun g8=>oB (dL x2) fun x17 _=>?_;refine oC (fun g10=>?_) fun g10=>?_
 ·refine oB (dL x3) fun x20 _=>?_;refine oC (fun g12=>?_) fun g12=>?_
  ·refine oB (dL x4) fun x23 _=>?_;refine oC (fun g14=>?_) fun g14=>?_
   ·refine oB (dL x5) fun x26 _=>?_;refine oC (fun g16=>?_) fun g16=>?_
    ·exact oB (BT p0 bF) fun x29 _=>oS
    exact oS
   exact oS
  exact oS
 exact oS
def GW(fu:Nat):Prop:= ∀(p0:aB),wt p0≤65536→Ok (kF fu p0) (fun r=>wt r.1≤20*wt p0)
theorem rG:bL GW:=((((((bL.ge 2147483648).and bW).and fX).and b7).and FT).and rF).imp fun fu ⟨⟨⟨⟨⟨hfu,bW⟩,fX⟩,b7⟩,FT⟩,rF⟩ p0 hpre=>by
 refine oB (bW p0 2 bF) fun x2 h1=>?_
 have:=aB.wt_eq x2
 refine rT (fX x2.asF bF) fun x4 x5 h2=>?_
 dsimp only at h2
 refine oB (bW p0 1 bF) fun x7 h3=>oB (b7 p0 bF) fun x9 _=>?_;refine oW (fun g5=>?_) fun g5=>?_
 ·have:s_.size=0:=rfl
  have:=(aT:wl ([]:LB)=0∧_)
  have:=(aT:wl ([]:List aQ)=0∧_)
  have:=(aT:wl ([]:List aI)=0∧_)
  have:=(aT:wl ([]:List aJ)=0∧_)
  have:=(aT:wl ([]:List aL)=0∧_)
  have:=aK.wt_mk s_ [] [] [] [] []
  exact oS
 have:=aB.wt_eq p0
 have:=aZ p0.asF
 refine oD (fun g6=>?_) fun g6=>?_
 ·have:s_.size=0:=rfl
  have:=(aT:wl ([]:LB)=0∧_)
  have:=(aT:wl ([]:List aQ)=0∧_)
  have:=(aT:wl ([]:List aI)=0∧_)
  have:=(aT:wl ([]:List aJ)=0∧_)
  have:=(aT:wl ([]:List aL)=0∧_)
  have:=aK.wt_mk s_ [] [] [] [] []
  exact oS
 have:=aZ (p0.asF)
 refine oG fun z7=>?_
 have:=cD p0.asF 0 z7
 have:wl (List.take 1 p0.asF)=wl (List.take 0 p0.asF)+wt (aP p0.asF 0)+1:=EU p0.asF 0 z7
 have:=aB.wt_eq (aP p0.asF 0)
 have:RH.size=7:=rfl
 refine oN (fun g8=>?_) fun g8=>?_
 ·have:s_.size=0:=rfl
  have:=(aT:wl ([]:LB)=0∧_)
  have:=(aT:wl ([]:List aQ)=0∧_)
  have:=(aT:wl ([]:List aI)=0∧_)
  have:=(aT:wl ([]:List aJ)=0∧_)
  have:=(aT:wl ([]:List aL)=0∧_)
  have:=aK.wt_mk s_ [] [] [] [] []
  exact oS
 have:=congrArg ByteArray.size g8
 refine oG fun z9=>?_
 have:=cD p0.asF 2 z9
 have:wl (List.take 3 p0.asF)=wl (List.take 2 p0.asF)+wt (aP p0.asF 2)+1:=EU p0.asF 2 z9
 have:=aB.wt_eq (aP p0.asF 2)
 have:s_.size=0:=rfl
 refine oN (fun g10=>?_) fun g10=>?_
 ·have:=BE g10
  have:=(aT:wl ([]:LB)=0∧_)
  have:=(aT:wl ([]:List aQ)=0∧_)
  have:=(aT:wl ([]:List aI)=0∧_)
  have:=(aT:wl ([]:List aJ)=0∧_)
  have:=(aT:wl ([]:List aL)=0∧_)
  have:=aK.wt_mk s_ [] [] [] [] []
  exact oS
 refine oW (fun g11=>?_) fun g11=>?_
 ·have:=(aT:wl ([]:LB)=0∧_)
  have:=(aT:wl ([]:List aQ)=0∧_)
  have:=(aT:wl ([]:List aI)=0∧_)
  have:=(aT:wl ([]:List aJ)=0∧_)
  have:=(aT:wl ([]:List aL)=0∧_)
  have:=aK.wt_mk s_ [] [] [] [] []
  exact oS
 have:=(aT:wl ([]:List aQ)=0∧_)
 have:=(aT:wl ([]:List aI)=0∧_)
 have:=(aT:wl ([]:List aJ)=0∧_)
 have:=(aT:wl ([]:List aL)=0∧_)
 have:=aB.wt_eq x7
 refine Ok.sok (E:=fun(v18,v19,v24,v25,v26,v27)=>v18.size+wl v19+wl v24+wl v25+wl v26+wl v27≤x7.asK.size+wl x4+16*wl p0.asF) ?_ ?_
 ·refine Ok.loop0 (fun i17 (v18,v19,v24,v25,v26,v27)=>v18.size+wl v19+wl v24+wl v25+wl v26+wl v27≤x7.asK.size+wl x4+16*wl (List.take i17 p0.asF)) (by exact bF) (by rintro i17 ⟨v18,v19,v24,v25,v26,v27⟩-hI;have:=l4 p0.asF i17;(try dsimp only at hI ⊢);omega) ?_;rintro i17 ⟨v18,v19,v24,v25,v26,v27⟩ hl13 hI14
  dsimp only at hI14
  have:=l5 p0.asF i17 hl13
  have:=l4 p0.asF (i17+1)
  have:=cD p0.asF i17 hl13
  refine rT (FT (v18,v19,v24,v25,v26,v27) (aP p0.asF i17) bF) fun x31 x32 h15=>?_
  dsimp only at h15
  refine oW (fun g16=>?_) fun g16=>?_
  ·have:=(aT:wl ([]:LB)=0∧_)
   have:=(aT:wl ([]:List aQ)=0∧_)
   have:=(aT:wl ([]:List aI)=0∧_)
   have:=(aT:wl ([]:List aJ)=0∧_)
   have:=(aT:wl ([]:List aL)=0∧_)
   have:=aK.wt_mk s_ [] [] [] [] []
   exact oR
  exact mF
 rintro⟨v18,v19,v24,v25,v26,v27⟩ h12
 dsimp only at h12
 have:=aK.wt_mk v18 v19 v24 v25 v26 v27
 refine oB (rF (aK.mk v18 v19 v24 v25 v26 v27) bF) fun x35 _=>?_;refine oW (fun g18=>?_) fun g18=>?_
 ·have:=(aT:wl ([]:LB)=0∧_)
  have:=(aT:wl ([]:List aQ)=0∧_)
  have:=(aT:wl ([]:List aI)=0∧_)
  have:=(aT:wl ([]:List aJ)=0∧_)
  have:=(aT:wl ([]:List aL)=0∧_)
  have:=aK.wt_mk s_ [] [] [] [] []
  exact oS
 exact oS
def LJ(fu:Nat):Prop:= ∀(ps:ByteArray),ps.size≤16384→Ok (oQ fu ps) (fun r=>wt r.1≤40*ps.size)
theorem tS:bL LJ:=(((bL.ge 2147483648).and xI).and rG).imp fun fu ⟨⟨hfu,xI⟩,rG⟩ ps hpre=>by
 refine rT (xI ps bF) fun x2 x3 h1=>?_
 dsimp only at h1
 refine oW (fun g2=>?_) fun g2=>?_
 ·have:s_.size=0:=rfl
  have:=(aT:wl ([]:LB)=0∧_)
  have:=(aT:wl ([]:List aQ)=0∧_)
  have:=(aT:wl ([]:List aI)=0∧_)
  have:=(aT:wl ([]:List aJ)=0∧_)
  have:=(aT:wl ([]:List aL)=0∧_)
  have:=aK.wt_mk s_ [] [] [] [] []
  exact oS
 refine rT (rG x2 bF) fun x6 x7 h3=>?_
 dsimp only at h3
 exact oS
def AR(fu:Nat):Prop:= ∀(ps:ByteArray),ps.size≤8192→Ok (jX fu ps) (fun r=>wt r.1≤40*(ps.size+1))
theorem oJ:bL AR:=((((bL.ge 2147483648).and zO).and BR).and tS).imp fun fu ⟨⟨⟨hfu,zO⟩,BR⟩,tS⟩ ps hpre=>by
 refine oB (zO ps (10:UInt8) bF) fun x2 h1=>?_
 have:=(aT:wl ([]:List aK)=0∧_)
 refine JR x2 40 (fun i3 v5 hl3 hI4 _ _=>?_) ?_
 ·have:=aZ x2
  have:=cD x2 i3 hl3
  have:=aV (aP x2 i3)
  refine oB (BR (aP x2 i3) bF) fun x9 _=>oC (fun _=>mF) fun g6=>rT (tS (aP x2 i3) bF) fun x12 x13 h7=>?_
  dsimp only at h7
  refine oW (fun g8=>?_) fun g8=>?_
  ·have:=aF.wt_mk []
   have:=aZ v5
   exact oR
  have:=aZ v5
  refine oD (fun g9=>?_) fun g9=>?_
  ·have:=aF.wt_mk []
   exact oR
  have:=aZ (v5)
  have:=bU x12
  refine oG fun z10=>?_
  have:=bN v5 ([x12]:List aK)
  exact mF
 intro v5 h2
 have:=aF.wt_mk v5
 exact oS
def XX(fu:Nat):Prop:= ∀(pc:DS),Ok (GF fu pc) (fun r=>r.1.size≤4000)
theorem FS:bL XX:=(bL.ge 2147483648).imp fun fu hfu pc=>by
 have:b8.size=110:=rfl
 have:b9.size=156:=rfl
 refine oG fun z1=>?_
 have:=eB b8 b9
 have:cC.size=119:=rfl
 refine oG fun z2=>?_
 have:=eB (b8++b9) cC
 have:cH.size=86:=rfl
 refine oG fun z3=>Ok.lt fun d4 h4=>?_;refine oC (fun g5=>?_) fun g5=>?_
 ·have:=eB ((b8++b9)++cC) cH
  have:gO.size=120:=rfl
  refine oG fun z6=>?_
  have:=eB (((b8++b9)++cC)++cH) gO
  have:c5.size=127:=rfl
  refine oG fun z7=>?_
  have:=eB ((((b8++b9)++cC)++cH)++gO) c5
  have:dX.size=95:=rfl
  refine oG fun z8=>?_
  have:=eB (((((b8++b9)++cC)++cH)++gO)++c5) dX
  have:eU.size=107:=rfl
  refine oG fun z9=>?_
  have:=eB ((((((b8++b9)++cC)++cH)++gO)++c5)++dX) eU
  have:fY.size=51:=rfl
  refine oG fun z10=>?_
  have:=eB (((((((b8++b9)++cC)++cH)++gO)++c5)++dX)++eU) fY
  have:iV.size=140:=rfl
  refine oG fun z11=>?_
  have:=eB ((((((((b8++b9)++cC)++cH)++gO)++c5)++dX)++eU)++fY) iV
  have:l9.size=90:=rfl
  refine oG fun z12=>?_
  have:=eB (((((((((b8++b9)++cC)++cH)++gO)++c5)++dX)++eU)++fY)++iV) l9
  have:wG.size=1:=rfl
  refine oG fun z13=>?_
  have:=eB ((((((((((b8++b9)++cC)++cH)++gO)++c5)++dX)++eU)++fY)++iV)++l9) wG
  exact oS
 have:=eB ((b8++b9)++cC) cH
 have:gP.size=147:=rfl
 refine oG fun z14=>?_
 have:=eB (((b8++b9)++cC)++cH) gP
 have:c5.size=127:=rfl
 refine oG fun z15=>?_
 have:=eB ((((b8++b9)++cC)++cH)++gP) c5
 have:dX.size=95:=rfl
 refine oG fun z16=>?_
 have:=eB (((((b8++b9)++cC)++cH)++gP)++c5) dX
 have:eU.size=107:=rfl
 refine oG fun z17=>?_
 have:=eB ((((((b8++b9)++cC)++cH)++gP)++c5)++dX) eU
 have:fY.size=51:=rfl
 refine oG fun z18=>?_
 have:=eB (((((((b8++b9)++cC)++cH)++gP)++c5)++dX)++eU) fY
 have:iV.size=140:=rfl
 refine oG fun z19=>?_
 have:=eB ((((((((b8++b9)++cC)++cH)++gP)++c5)++dX)++eU)++fY) iV
 have:l9.size=90:=rfl
 refine oG fun z20=>?_
 have:=eB (((((((((b8++b9)++cC)++cH)++gP)++c5)++dX)++eU)++fY)++iV) l9
 have:wG.size=1:=rfl
 refine oG fun z21=>?_
 have:=eB ((((((((((b8++b9)++cC)++cH)++gP)++c5)++dX)++eU)++fY)++iV)++l9) wG
 exact oS
def aa6(fu:Nat):Prop:= ∀(pc:DS),Ok (KH fu pc) (fun r=>r.1.size≤3000)
theorem JG:bL aa6:=(bL.ge 2147483648).imp fun fu hfu pc=>by
 refine Ok.sok (E:=fun(v1,v2)=>v1.size≤1000) ?_ ?_
 ·refine Ok.lt fun d3 h2=>?_;refine oC (fun g3=>?_) fun g3=>?_
  ·have:dV.size=50:=rfl
   have:HI.size=38:=rfl
   refine oG fun z4=>?_
   have:=eB dV HI
   exact oI
  refine oC (fun g5=>?_) fun g5=>?_
  ·have:dV.size=50:=rfl
   have:HG.size=64:=rfl
   refine oG fun z6=>?_
   have:=eB dV HG
   exact oI
  refine oC (fun g7=>?_) fun g7=>?_
  ·have:dV.size=50:=rfl
   have:HA.size=83:=rfl
   refine oG fun z8=>?_
   have:=eB dV HA
   exact oI
  refine oC (fun g9=>?_) fun g9=>?_
  ·have:dV.size=50:=rfl
   have:HC.size=45:=rfl
   refine oG fun z10=>?_
   have:=eB dV HC
   exact oI
  refine oC (fun g11=>?_) fun g11=>?_
  ·have:dV.size=50:=rfl
   have:HB.size=90:=rfl
   refine oG fun z12=>?_
   have:=eB dV HB
   exact oI
  refine oC (fun g13=>?_) fun g13=>?_
  ·have:dV.size=50:=rfl
   have:HF.size=45:=rfl
   refine oG fun z14=>?_
   have:=eB dV HF
   exact oI
  have:dV.size=50:=rfl
  have:HD.size=64:=rfl
  refine oG fun z15=>?_
  have:=eB dV HD
  exact oI
 rintro⟨v1,v2⟩ h1
 dsimp only at h1
 have:l8.size=23:=rfl
 refine oG fun z16=>?_
 have:yE.size=13:=rfl
 have:yD.size=68:=rfl
 have:yB.size=29:=rfl
 have:yF.size=43:=rfl
 have:yA.size=68:=rfl
 have:yI.size=25:=rfl
 have:yJ.size=29:=rfl
 have:yG.size=45:=rfl
 have:yH.size=65:=rfl
 have:xZ.size=43:=rfl
 have:wl ([yE,yD,yB,yF,yA,yI,yJ,yG,yH,xZ]:LB)=438:=rfl
 refine Ok.lt fun d19 h17=>Ok.lt fun y21 h18=>?_
 have:=congrArg wt h18
 simp only [aV] at this
 have:y21.size≤200:=by rw [h18];exact DS.pick_size _ (by decide) (by decide)
 have:=eB v1 l8
 refine oG fun z19=>?_
 have:=eB (v1++l8) y21
 have:wG.size=1:=rfl
 refine oG fun z20=>?_;refine Ok.sok (E:=fun(v25,v26)=>v25.size≤2000) ?_ ?_
 ·refine Ok.lt fun d27 h22=>?_;refine oC (fun g23=>?_) fun g23=>?_
  ·have:=eB ((v1++l8)++y21) wG
   have:HE.size=83:=rfl
   refine oG fun z24=>?_
   have:=eB (((v1++l8)++y21)++wG) HE
   exact oI
  have:=eB ((v1++l8)++y21) wG
  exact oI
 rintro⟨v25,v26⟩ h21
 dsimp only at h21
 refine Ok.sok (E:=fun(v31,v32)=>v31.size≤2500) ?_ ?_
 ·refine Ok.lt fun d33 h26=>?_;refine oC (fun g27=>?_) fun g27=>?_
  ·have:HH.size=77:=rfl
   refine oG fun z28=>?_
   have:=eB v25 HH
   exact oI
  exact oI
 rintro⟨v31,v32⟩ h25
 dsimp only at h25
 refine Ok.lt fun d37 h29=>?_;refine oC (fun g30=>?_) fun g30=>?_
 ·have:yC.size=113:=rfl
  refine oG fun z31=>?_
  have:=eB v31 yC
  refine oG fun z32=>?_
  have:=eB (v31++yC) wG
  exact oS
 refine oG fun z33=>?_
 have:=eB v31 wG
 exact oS
def LN(fu:Nat):Prop:= ∀(pc:DS),Ok (t5 fu pc) (fun r=>r.1.size≤7001)
theorem tV:bL LN:=(((bL.ge 2147483648).and FS).and JG).imp fun fu ⟨⟨hfu,FS⟩,JG⟩ pc=>by
 refine rT (FS pc) fun x2 x3 h1=>?_
 dsimp only at h1
 refine Ok.lt fun d4 h2=>oC (fun _=>oS) fun g3=>?_
 have:acR.size=1:=rfl
 refine oG fun z4=>rT (JG d4) fun x9 x10 h5=>?_
 dsimp only at h5
 have:=eB x2 acR
 refine oG fun z6=>?_
 have:=eB (x2++acR) x9
 exact oS
def XZ(fu:Nat):Prop:= ∀(pc:DS),Ok (AF fu pc) (fun r=>wt r.1≤327680)
theorem FU:bL XZ:=(((bL.ge 2147483648).and tV).and oJ).imp fun fu ⟨⟨hfu,tV⟩,oJ⟩ pc=>by
 refine rT (tV pc) fun x2 x3 h1=>?_
 dsimp only at h1
 refine rT (oJ x2 bF) fun x5 x6 h2=>?_
 dsimp only at h2
 have:=aF.wt_eq x5
 have:=aF.wt_mk x5.asE
 exact oS
end Go.Proofs.YtfcoaagbccmahaaGreat.W

namespace Go.Proofs.YtfcoaagbccmahaaGreat.W
open Go.RowKit Go.WalkArith Go.IntWalk
def bT:Nat→Nat
 |0=>1000
 |n+1=>2*bT n+20
theorem aaL: ∀n:Nat,1000≤bT n
 |0=>Nat.le_refl _
 |n+1=>by unfold bT;have:=aaL n;omega
theorem aeN(x:Int):0<x∧x≤4→bT x.toNat=2*bT (aY (x-1)).toNat+20:=fun h=>by
 rw [dU (x-1) (by omega)]
 obtain⟨n,rfl⟩: ∃n:Nat,x=((n+1:Nat):Int):=⟨x.toNat-1,by omega⟩
 have e:(((n+1:Nat):Int)-1).toNat=n:=by omega
 rw [e]
 simp only [Int.toNat_natCast]
 rfl
theorem aaM(x:Int):x≤4→bT x.toNat≤20000:=fun h=>by
 have:x.toNat=0∨x.toNat=1∨x.toNat=2∨x.toNat=3∨x.toNat=4:=by omega
 rcases this with h|h|h|h|h<;>rw [h]<;>decide
def bX:Nat→Nat
 |0=>3000
 |n+1=>4*bX n+22000
theorem ac7: ∀n:Nat,3000≤bX n
 |0=>Nat.le_refl _
 |n+1=>by unfold bX;have:=ac7 n;omega
theorem aeO(x:Int):0<x∧x≤4→bX x.toNat=4*bX (aY (x-1)).toNat+22000:=fun h=>by
 rw [dU (x-1) (by omega)]
 obtain⟨n,rfl⟩: ∃n:Nat,x=((n+1:Nat):Int):=⟨x.toNat-1,by omega⟩
 have e:(((n+1:Nat):Int)-1).toNat=n:=by omega
 rw [e]
 simp only [Int.toNat_natCast]
 rfl
theorem afM(x:Int):x≤3→bX x.toNat≤1000000:=fun h=>by
 have:x.toNat=0∨x.toNat=1∨x.toNat=2∨x.toNat=3:=by omega
 rcases this with h|h|h|h<;>rw [h]<;>decide
theorem SA:bT (1:Int).toNat=2020:=rfl
theorem afX:bX (2:Int).toNat=158000:=rfl
theorem X2:bT (2:Int).toNat=4060:=rfl
end Go.Proofs.YtfcoaagbccmahaaGreat.W

namespace Go.Proofs.YtfcoaagbccmahaaGreat.W
set_option maxRecDepth 20000
set_option maxHeartbeats 4000000
open Go.RowKit Go.WalkArith Go.IntWalk
attribute [local irreducible] wt wl bT bX lt
def aaH(fu:Nat):Prop:= ∀(pc:DS) (p3:LB) (p2:Int),wl p3≤1000∧ -100≤p2∧p2≤4→Ok (jA fu pc p3 p2) (fun r=>wt r.1≤bT p2.toNat)
def RY(n:Nat)(m:DN):Prop:= ∀(pc:DS) (p3:LB) (p2:Int),p2.toNat<n→wl p3≤1000∧ -100≤p2∧p2≤4→Ok (m pc p3 p2) (fun r=>wt r.1≤bT p2.toNat)
theorem ad6{n fu:Nat}(hfu:2147483648≤fu)(dJ:MY fu)(cU:MX fu){pH:DN}(p8:RY n pH):RY (n+1) (MK fu pH):=by
 intro pc p3 p2 hm hpre
 have:=aaL p2.toNat
 have:=aaL (aY (p2-1)).toNat
 have:=aeN p2
 have:=aaM (aY (p2-1))
 refine Ok.lt fun d1 h1=>?_;refine oC (fun g2=>?_) fun g2=>?_
 ·have:=aZ p3
  refine oD (fun g3=>?_) fun g3=>?_
  ·refine Ok.lt fun d5 h4=>?_
   have:=abM d1 p3.length
   have:=aZ (p3)
   refine oG fun z5=>?_
   have:=cD p3 (d1.below p3.length) z5
   have:=aV (aP p3 (d1.below p3.length))
   refine oB (dJ (aP p3 (d1.below p3.length))) fun x9 h6=>?_
   have:=aA.wt_eq x9
   have:=aA.wt_mk x9.asJ x9.asD x9.asG
   exact oS
  refine oC (fun g7=>?_) fun g7=>?_
  ·have:dK.size=3:=rfl
   have:c9.size=4:=rfl
   have:gM.size=4:=rfl
   have:=zR dK c9 gM
   have:=aV dK
   have:=aV c9
   have:=aV gM
   refine Ok.lt fun d11 h8=>Ok.lt fun y13 h9=>?_
   have:=congrArg wt h9
   simp only [aV] at this
   have:y13.size≤4:=by rw [h9];exact DS.pick_size _ (by decide) (by decide)
   have:=(aT:wl ([]:List aA)=0∧_)
   refine oB (cU y13 ([]:List aA) bF) fun x16 h10=>?_
   have:=aA.wt_eq x16
   have:=aA.wt_mk x16.asJ x16.asD x16.asG
   exact oS
  refine oD (fun g11=>?_) fun g11=>?_
  ·have:dK.size=3:=rfl
   have:c9.size=4:=rfl
   have:gM.size=4:=rfl
   have:=zR dK c9 gM
   have:=aV dK
   have:=aV c9
   have:=aV gM
   refine Ok.lt fun d18 h12=>Ok.lt fun y20 h13=>?_
   have:=congrArg wt h13
   simp only [aV] at this
   have:y20.size≤4:=by rw [h13];exact DS.pick_size _ (by decide) (by decide)
   have:=(aT:wl ([]:List aA)=0∧_)
   refine oB (cU y20 ([]:List aA) bF) fun x23 h14=>?_
   have:=aA.wt_eq x23
   have:=aA.wt_mk x23.asJ x23.asD x23.asG
   exact oS
  refine oC (fun g15=>?_) fun g15=>?_
  ·have:=dU (p2-1)
   refine rT (p8 d1 p3 (aY (p2-1)) bF bF) fun x26 x27 h16=>?_
   dsimp only at h16
   refine rT (p8 x27 p3 (aY (p2-1)) bF bF) fun x29 x30 h17=>?_
   dsimp only at h17
   have:pW.size=4:=rfl
   have:=aA.wt_eq x26
   have:=aA.wt_mk x26.asJ x26.asD x26.asG
   have:=aA.wt_eq x29
   have:=aA.wt_mk x29.asJ x29.asD x29.asG
   have:=iJ (aA.mk x26.asJ x26.asD x26.asG) (aA.mk x29.asJ x29.asD x29.asG)
   refine oB (cU pW ([(aA.mk x26.asJ x26.asD x26.asG),(aA.mk x29.asJ x29.asD x29.asG)]:List aA) bF) fun x32 h18=>?_
   have:=aA.wt_eq x32
   have:=aA.wt_mk x32.asJ x32.asD x32.asG
   exact oS
  have:b0.size=4:=rfl
  have:tD.size=3:=rfl
  have:=zR b0 b0 tD
  have:=aV b0
  have:=aV tD
  refine Ok.lt fun d33 h19=>Ok.lt fun y35 h20=>?_
  have:=congrArg wt h20
  simp only [aV] at this
  have:y35.size≤4:=by rw [h20];exact DS.pick_size _ (by decide) (by decide)
  have:=dU (p2-1)
  refine rT (p8 d33 p3 (aY (p2-1)) bF bF) fun x38 x39 h21=>?_
  dsimp only at h21
  have:=aA.wt_eq x38
  have:=aA.wt_mk x38.asJ x38.asD x38.asG
  have:=bU (aA.mk x38.asJ x38.asD x38.asG)
  refine oB (cU y35 ([(aA.mk x38.asJ x38.asD x38.asG)]:List aA) bF) fun x41 h22=>?_
  have:=aA.wt_eq x41
  have:=aA.wt_mk x41.asJ x41.asD x41.asG
  exact oS
 refine oC (fun g23=>?_) fun g23=>?_
 ·have:dK.size=3:=rfl
  have:c9.size=4:=rfl
  have:gM.size=4:=rfl
  have:=zR dK c9 gM
  have:=aV dK
  have:=aV c9
  have:=aV gM
  refine Ok.lt fun d43 h24=>Ok.lt fun y45 h25=>?_
  have:=congrArg wt h25
  simp only [aV] at this
  have:y45.size≤4:=by rw [h25];exact DS.pick_size _ (by decide) (by decide)
  have:=(aT:wl ([]:List aA)=0∧_)
  refine oB (cU y45 ([]:List aA) bF) fun x48 h26=>?_
  have:=aA.wt_eq x48
  have:=aA.wt_mk x48.asJ x48.asD x48.asG
  exact oS
 refine oD (fun g27=>?_) fun g27=>?_
 ·have:dK.size=3:=rfl
  have:c9.size=4:=rfl
  have:gM.size=4:=rfl
  have:=zR dK c9 gM
  have:=aV dK
  have:=aV c9
  have:=aV gM
  refine Ok.lt fun d50 h28=>Ok.lt fun y52 h29=>?_
  have:=congrArg wt h29
  simp only [aV] at this
  have:y52.size≤4:=by rw [h29];exact DS.pick_size _ (by decide) (by decide)
  have:=(aT:wl ([]:List aA)=0∧_)
  refine oB (cU y52 ([]:List aA) bF) fun x55 h30=>?_
  have:=aA.wt_eq x55
  have:=aA.wt_mk x55.asJ x55.asD x55.asG
  exact oS
 refine oC (fun g31=>?_) fun g31=>?_
 ·have:=dU (p2-1)
  refine rT (p8 d1 p3 (aY (p2-1)) bF bF) fun x58 x59 h32=>?_
  dsimp only at h32
  refine rT (p8 x59 p3 (aY (p2-1)) bF bF) fun x61 x62 h33=>?_
  dsimp only at h33
  have:pW.size=4:=rfl
  have:=aA.wt_eq x58
  have:=aA.wt_mk x58.asJ x58.asD x58.asG
  have:=aA.wt_eq x61
  have:=aA.wt_mk x61.asJ x61.asD x61.asG
  have:=iJ (aA.mk x58.asJ x58.asD x58.asG) (aA.mk x61.asJ x61.asD x61.asG)
  refine oB (cU pW ([(aA.mk x58.asJ x58.asD x58.asG),(aA.mk x61.asJ x61.asD x61.asG)]:List aA) bF) fun x64 h34=>?_
  have:=aA.wt_eq x64
  have:=aA.wt_mk x64.asJ x64.asD x64.asG
  exact oS
 have:b0.size=4:=rfl
 have:tD.size=3:=rfl
 have:=zR b0 b0 tD
 have:=aV b0
 have:=aV tD
 refine Ok.lt fun d65 h35=>Ok.lt fun y67 h36=>?_
 have:=congrArg wt h36
 simp only [aV] at this
 have:y67.size≤4:=by rw [h36];exact DS.pick_size _ (by decide) (by decide)
 have:=dU (p2-1)
 refine rT (p8 d65 p3 (aY (p2-1)) bF bF) fun x70 x71 h37=>?_
 dsimp only at h37
 have:=aA.wt_eq x70
 have:=aA.wt_mk x70.asJ x70.asD x70.asG
 have:=bU (aA.mk x70.asJ x70.asD x70.asG)
 refine oB (cU y67 ([(aA.mk x70.asJ x70.asD x70.asG)]:List aA) bF) fun x73 h38=>?_
 have:=aA.wt_eq x73
 have:=aA.wt_mk x73.asJ x73.asD x73.asG
 exact oS
theorem afB(n:Nat):bL fun fu=>RY n (jA fu):=by
 induction n with
 |zero=>exact .all fun fu=>fun _ _ _ h=>absurd h (Nat.not_lt_zero _)
 |succ n ih=>exact bL.succ ((ih.and (((bL.ge 2147483648).and dJ).and cU)).imp fun fu ⟨h,⟨⟨hfu,dJ⟩,cU⟩⟩=>fun pc p3 p2=>by rw [jA];exact ad6 hfu dJ cU h pc p3 p2)
theorem mV:bL aaH:=(afB 100).imp fun fu h pc p3 p2 hpre=>h pc p3 p2 bF hpre
def abA(fu:Nat):Prop:= ∀(pt:aA),wt pt≤268435456→Ok (fQ fu pt) (fun r=>wt r≤wt pt)
def CQ(n:Nat)(m:nT):Prop:= ∀(pt:aA),2*wt pt+1<n→wt pt≤268435456→Ok (m pt) (fun r=>wt r≤wt pt)
def wJ(n:Nat)(m:kM):Prop:= ∀(p7:List aA),2*wl p7<n→wl p7≤268435456→Ok (m p7) (fun r=>wl r≤wl p7)
theorem ZY{n fu:Nat}(hfu:2147483648≤fu){p5:nT}(pE:CQ n p5){p4:kM}(p9:wJ n p4):CQ (n+1) (DH fu p5 p4):=by
 intro pt hm hpre
 have:=aA.wt_eq pt
 refine oB (p9 pt.asG bF bF) fun x2 h1=>?_
 have:=aA.wt_mk pt.asJ pt.asD x2
 exact oS
theorem T7{n fu:Nat}(hfu:2147483648≤fu){p5:nT}(pE:CQ n p5){p4:kM}(p9:wJ n p4):wJ (n+1) (tJ fu p5 p4):=by
 intro p7 hm hpre
 have:=(aT:wl ([]:List aA)=0∧_)
 refine JR p7 1 (fun i1 v3 hl2 hI3 _ _=>?_) ?_
 ·have:=aZ p7
  have:=cD p7 i1 hl2
  refine oB (pE (aP p7 i1) bF bF) fun x7 h4=>?_
  have:=aZ (v3)
  have:=bU x7
  refine oG fun z5=>?_
  have:=bN v3 ([x7]:List aA)
  exact mF
 intro v3 h1
 exact oS
theorem acF(n:Nat):bL fun fu=>CQ n (fQ fu)∧wJ n (fB fu):=by
 induction n with
 |zero=>exact .all fun fu=>⟨fun _ h=>absurd h (Nat.not_lt_zero _),fun _ h=>absurd h (Nat.not_lt_zero _)⟩
 |succ n ih=>exact bL.succ ((ih.and (bL.ge 2147483648)).imp fun fu ⟨h,hfu⟩=>⟨fun pt=>by rw [fQ];exact ZY hfu h.1 h.2 pt,fun p7=>by rw [fB];exact T7 hfu h.1 h.2 p7⟩)
theorem JK:bL abA:=(acF 8589934592).imp fun fu h pt hpre=>h.1 pt bF hpre
def abE(fu:Nat):Prop:= ∀(pA:ByteArray) (pt:aA),pA.size+wt pt≤67108864→Ok (yZ fu pA pt) (fun r=>wt r≤pA.size+wt pt+1)
theorem C1:bL abE:=((bL.ge 2147483648).and JK).imp fun fu ⟨hfu,JK⟩ pA pt hpre=>by
 refine oB (JK pt bF) fun x2 h1=>?_
 have:=bU x2
 have:=aA.wt_mk 3 pA ([x2]:List aA)
 exact oS
def abC(fu:Nat):Prop:= ∀(pc:DS) (p2:Int),-100≤p2∧p2≤4→Ok (mL fu pc p2) (fun r=>wt r.1≤bT p2.toNat+60)
theorem iK:bL abC:=((((bL.ge 2147483648).and mV).and C1).and cU).imp fun fu ⟨⟨⟨hfu,mV⟩,C1⟩,cU⟩ pc p2 hpre=>by
 have:=aaL p2.toNat
 have:=aaM p2
 have:eQ.size=1:=rfl
 have:t2.size=1:=rfl
 have:=iJ eQ t2
 have:=aV eQ
 have:=aV t2
 refine rT (mV pc ([eQ,t2]:LB) p2 bF) fun x2 x3 h1=>?_
 dsimp only at h1
 refine Ok.lt fun d4 h2=>?_;refine oC (fun g3=>?_) fun g3=>?_
 ·have:cX.size=3:=rfl
  have:a4.size=4:=rfl
  have:=iJ cX a4
  have:=aV cX
  have:=aV a4
  refine Ok.lt fun d7 h4=>Ok.lt fun y9 h5=>?_
  have:=congrArg wt h5
  simp only [aV] at this
  have:y9.size≤4:=by rw [h5];exact DS.pick_size _ (by decide) (by decide)
  have:=aA.wt_eq x2
  have:=aA.wt_mk x2.asJ x2.asD x2.asG
  refine oB (C1 y9 (aA.mk x2.asJ x2.asD x2.asG) bF) fun x12 h6=>?_
  have:=aA.wt_eq x12
  have:=aA.wt_mk x12.asJ x12.asD x12.asG
  exact oS
 refine oC (fun g7=>?_) fun g7=>?_
 ·have:cX.size=3:=rfl
  have:=aA.wt_eq x2
  have:=aA.wt_mk x2.asJ x2.asD x2.asG
  refine oB (C1 cX (aA.mk x2.asJ x2.asD x2.asG) bF) fun x15 h8=>?_
  have:b0.size=4:=rfl
  have:=aA.wt_eq x15
  have:=aA.wt_mk x15.asJ x15.asD x15.asG
  have:=bU (aA.mk x15.asJ x15.asD x15.asG)
  refine oB (cU b0 ([(aA.mk x15.asJ x15.asD x15.asG)]:List aA) bF) fun x17 h9=>?_
  have:=aA.wt_eq x17
  have:=aA.wt_mk x17.asJ x17.asD x17.asG
  exact oS
 refine oC (fun g10=>?_) fun g10=>?_
 ·have:a4.size=4:=rfl
  have:=(aT:wl ([]:List aA)=0∧_)
  have:=aA.wt_mk 4 a4 []
  exact oS
 have:=aA.wt_eq x2
 have:=aA.wt_mk x2.asJ x2.asD x2.asG
 exact oS
def UQ(fu:Nat):Prop:= ∀(pk:Int) (pG:ByteArray) (pC:List aG),pG.size+wl pC≤67108864→Ok (rM fu pk pG pC) (fun r=>wt r=pG.size+wl pC)
theorem lE:bL UQ:=(bL.ge 2147483648).imp fun fu hfu pk pG pC hpre=>by
 have:=(aT:wl ([]:List aG)=0∧_)
 have:=aZ (pC)
 refine oG fun z1=>?_
 have:s_.size=0:=rfl
 have:=(aT:wl ([]:List aA)=0∧_)
 have:=aA.wt_mk 0 s_ []
 have:=bN ([]:List aG) pC
 have:=(aT:wl ([]:List bH)=0∧_)
 have:=aG.wt_mk pk s_ pG 0 (aA.mk 0 s_ []) (([])++pC) []
 exact oS
def XM(fu:Nat):Prop:= ∀(pF:DS) (p6:LB) (p0:Int),wl p6+10*p0.toNat≤900∧ -100≤p0∧p0≤3→Ok (jL fu pF p6 p0) (fun r=>wt r.1≤bX p0.toNat)
def EW(n:Nat)(m:pX):Prop:= ∀(pF:DS) (p6:LB) (p0:Int),p0.toNat<n→wl p6+10*p0.toNat≤900∧ -100≤p0∧p0≤3→Ok (m pF p6 p0) (fun r=>wt r.1≤bX p0.toNat)
theorem V1{n fu:Nat}(hfu:2147483648≤fu)(eL:xU fu)(eF:xT fu)(lE:UQ fu)(mV:aaH fu){pD:pX}(p1:EW n pD):EW (n+1) (F7 fu pD):=by
 intro pF p6 p0 hm hpre
 have:=ac7 p0.toNat
 have:=ac7 (aY (p0-1)).toNat
 have:=aeO p0
 have:=SA
 have:=afM p0
 have:=dU (p0-1)
 refine Ok.lt fun d1 h1=>?_;refine Ok.sok (E:=fun v3=>p0≤0→v3≤2) ?_ ?_
 ·refine oD (fun g3=>?_) fun g3=>?_
  ·have:=DS.below_lt pF (n:=13) (by decide)
   exact oI
  have:=DS.below_lt pF (n:=13) (by decide)
  exact oI
 intro v3 h2
 refine oD (fun g4=>?_) fun g4=>?_
 ·refine Ok.lt fun d6 h5=>?_
  have:s_.size=0:=rfl
  have:=DS.below_lt d1 (n:=2) (by decide)
  have:=(aT:wl ([]:List aA)=0∧_)
  have:=aA.wt_mk 0 s_ []
  have:=(aT:wl ([]:List aG)=0∧_)
  have:=(aT:wl ([]:List bH)=0∧_)
  have:=aG.wt_mk 2 s_ s_ (d1.below 2:Int) (aA.mk 0 s_ []) [] []
  exact oS
 refine A0 ?_ ?_
 ·exact oD (fun _=>oI) fun g7=>oI
 intro v8 _
 refine oC (fun g8=>?_) fun g8=>?_
 ·have:=aZ p6
  refine oD (fun g9=>?_) fun g9=>?_
  ·have:=aZ (p6)
   refine oG fun z10=>Ok.lt fun d13 h11=>?_
   have:=ae6 d1 p6
   refine Ok.lt fun y15 h12=>?_
   have:=congrArg wt h12
   simp only [aV] at this
   exact K2 (eL y15) fun x18 h13 h13B=>oS
  refine Ok.lt fun d19 h14=>?_
  have:=DS.below_lt d1 (n:=20) (by decide)
  have:=dU ((d1.below 20:Int)-5)
  exact K2 (eF (aY ((d1.below 20:Int)-5)) bF) fun x22 h15 h15B=>oS
 refine oD (fun g16=>?_) fun g16=>?_
 ·have:s_f.size=1:=rfl
  have:s_g.size=1:=rfl
  have:=iJ s_f s_g
  have:=aV s_f
  have:=aV s_g
  refine Ok.lt fun d24 h17=>Ok.lt fun y26 h18=>?_
  have:=congrArg wt h18
  simp only [aV] at this
  have:y26.size≤1:=by rw [h18];exact DS.pick_size _ (by decide) (by decide)
  have:=dU (p0-1)
  refine rT (p1 d24 p6 (aY (p0-1)) bF bF) fun x29 x30 h19=>?_
  dsimp only at h19
  have:=bU x29
  exact oB (lE 4 y26 ([x29]:List aG) bF) fun x32 h20=>oS
 refine oD (fun g21=>?_) fun g21=>?_
 ·have:a4.size=4:=rfl
  have:cX.size=3:=rfl
  have:=iJ a4 cX
  have:=aV a4
  have:=aV cX
  refine Ok.lt fun d34 h22=>Ok.lt fun y36 h23=>?_
  have:=congrArg wt h23
  simp only [aV] at this
  have:y36.size≤4:=by rw [h23];exact DS.pick_size _ (by decide) (by decide)
  have:=dU (p0-1)
  refine rT (p1 d34 p6 (aY (p0-1)) bF bF) fun x39 x40 h24=>?_
  dsimp only at h24
  refine rT (p1 x40 p6 (aY (p0-1)) bF bF) fun x42 x43 h25=>?_
  dsimp only at h25
  have:dY.size=1:=rfl
  have:s_.size=0:=rfl
  have:=(aT:wl ([]:List aA)=0∧_)
  have:=aA.wt_mk 0 s_ []
  have:=iJ x39 x42
  have:=(aT:wl ([]:List bH)=0∧_)
  have:=aG.wt_mk 5 y36 dY 0 (aA.mk 0 s_ []) ([x39,x42]:List aG) []
  exact oS
 refine oD (fun g26=>?_) fun g26=>?_
 ·have:=dU (p0-1)
  refine rT (p1 d1 p6 (aY (p0-1)) bF bF) fun x46 x47 h27=>?_
  dsimp only at h27
  refine rT (p1 x47 p6 (aY (p0-1)) bF bF) fun x49 x50 h28=>?_
  dsimp only at h28
  have:bZ.size=4:=rfl
  have:=iJ x46 x49
  exact oB (lE 6 bZ ([x46,x49]:List aG) bF) fun x52 h29=>oS
 refine oD (fun g30=>?_) fun g30=>?_
 ·have:=(aT:wl ([]:LB)=0∧_)
  have:=aZ (p6)
  refine oG fun z31=>?_
  have:=bN ([]:LB) p6
  have:Y2.size=1:=rfl
  have:Y3.size=1:=rfl
  have:=iJ Y2 Y3
  have:=aV Y2
  have:=aV Y3
  refine oG fun z32=>?_
  have:=dU (p0-1)
  refine rT (p1 d1 p6 (aY (p0-1)) bF bF) fun x57 x58 h33=>?_
  dsimp only at h33
  refine rT (p1 x58 p6 (aY (p0-1)) bF bF) fun x60 x61 h34=>?_
  dsimp only at h34
  have:=bN (([])++p6) ([Y2,Y3]:LB)
  refine rT (p1 x61 ((([])++p6)++([Y2,Y3]:LB)) (aY (p0-1)) bF bF) fun x63 x64 h35=>?_
  dsimp only at h35
  have:s_.size=0:=rfl
  have:=(aT:wl ([]:List aA)=0∧_)
  have:=aA.wt_mk 0 s_ []
  have:=bU x57
  have:eV.size=3:=rfl
  have:=bH.wt_mk eV [] x60
  have:bZ.size=4:=rfl
  have:=bH.wt_mk bZ ([Y2,Y3]:LB) x63
  have:=iJ (bH.mk eV [] x60) (bH.mk bZ ([Y2,Y3]:LB) x63)
  have:=aG.wt_mk 7 s_ s_ 0 (aA.mk 0 s_ []) ([x57]:List aG) ([(bH.mk eV [] x60),(bH.mk bZ ([Y2,Y3]:LB) x63)]:List bH)
  exact oS
 refine oD (fun g36=>?_) fun g36=>?_
 ·have:=dU (p0-1)
  refine rT (p1 d1 p6 (aY (p0-1)) bF bF) fun x67 x68 h37=>?_
  dsimp only at h37
  have:=(aT:wl ([]:LB)=0∧_)
  have:=aZ (p6)
  refine oG fun z38=>?_
  have:=bN ([]:LB) p6
  have:nP.size=1:=rfl
  have:=bU nP
  have:=aV nP
  refine oG fun z39=>?_
  have:=bN (([])++p6) ([nP]:LB)
  refine rT (p1 x68 ((([])++p6)++([nP]:LB)) (aY (p0-1)) bF bF) fun x72 x73 h40=>?_
  dsimp only at h40
  have:=iJ x67 x72
  exact oB (lE 8 nP ([x67,x72]:List aG) bF) fun x75 h41=>oS
 refine oD (fun g42=>?_) fun g42=>?_
 ·have:=dU (p0-1)
  refine rT (p1 d1 p6 (aY (p0-1)) bF bF) fun x78 x79 h43=>?_
  dsimp only at h43
  refine rT (p1 x79 p6 (aY (p0-1)) bF bF) fun x81 x82 h44=>?_
  dsimp only at h44
  refine rT (p1 x82 p6 (aY (p0-1)) bF bF) fun x84 x85 h45=>?_
  dsimp only at h45
  have:s_.size=0:=rfl
  have:=zR x78 x81 x84
  exact oB (lE 9 s_ ([x78,x81,x84]:List aG) bF) fun x87 h46=>oS
 refine oD (fun g47=>?_) fun g47=>?_
 ·have:wH.size=1:=rfl
  have:A5.size=1:=rfl
  have:IQ.size=1:=rfl
  have:IR.size=1:=rfl
  have:IS.size=1:=rfl
  have:=ahE wH A5 IQ IR IS
  have:=aV wH
  have:=aV A5
  have:=aV IQ
  have:=aV IR
  have:=aV IS
  refine Ok.lt fun d89 h48=>Ok.lt fun y91 h49=>?_
  have:=congrArg wt h49
  simp only [aV] at this
  have:y91.size≤1:=by rw [h49];exact DS.pick_size _ (by decide) (by decide)
  have:=dU (p0-1)
  refine rT (p1 d89 p6 (aY (p0-1)) bF bF) fun x94 x95 h50=>?_
  dsimp only at h50
  refine rT (p1 x95 p6 (aY (p0-1)) bF bF) fun x97 x98 h51=>?_
  dsimp only at h51
  have:=iJ x94 x97
  exact oB (lE 10 y91 ([x94,x97]:List aG) bF) fun x100 h52=>oS
 refine oD (fun g53=>?_) fun g53=>?_
 ·have:=dU (p0-1)
  refine rT (p1 d1 p6 (aY (p0-1)) bF bF) fun x103 x104 h54=>?_
  dsimp only at h54
  have:a4.size=4:=rfl
  have:s_.size=0:=rfl
  have:=(aT:wl ([]:List aA)=0∧_)
  have:=aA.wt_mk 0 s_ []
  have:=bU x103
  have:=(aT:wl ([]:List bH)=0∧_)
  have:=aG.wt_mk 11 a4 s_ 0 (aA.mk 0 s_ []) ([x103]:List aG) []
  exact oS
 refine oD (fun g55=>?_) fun g55=>?_
 ·have:eQ.size=1:=rfl
  have:=bU eQ
  have:=aV eQ
  refine rT (mV d1 ([eQ]:LB) 1 bF) fun x107 x108 h56=>?_
  dsimp only at h56
  have:=dU (p0-1)
  refine rT (p1 x108 p6 (aY (p0-1)) bF bF) fun x110 x111 h57=>?_
  dsimp only at h57
  have:s_.size=0:=rfl
  have:=bU x110
  have:=(aT:wl ([]:List bH)=0∧_)
  have:=aG.wt_mk 12 s_ s_ 0 x107 ([x110]:List aG) []
  exact oS
 refine Ok.lt fun d112 h58=>?_
 have:=DS.below_lt d1 (n:=20) (by decide)
 have:=dU ((d1.below 20:Int)-5)
 exact K2 (eF (aY ((d1.below 20:Int)-5)) bF) fun x115 h59 h59B=>oS
theorem Y4(n:Nat):bL fun fu=>EW n (jL fu):=by
 induction n with
 |zero=>exact .all fun fu=>fun _ _ _ h=>absurd h (Nat.not_lt_zero _)
 |succ n ih=>exact bL.succ ((ih.and (((((bL.ge 2147483648).and eL).and eF).and lE).and mV)).imp fun fu ⟨h,⟨⟨⟨⟨hfu,eL⟩,eF⟩,lE⟩,mV⟩⟩=>fun pF p6 p0=>by rw [jL];exact V1 hfu eL eF lE mV h pF p6 p0)
theorem sA:bL XM:=(Y4 100).imp fun fu h pF p6 p0 hpre=>h pF p6 p0 bF hpre
def ac0(fu:Nat):Prop:=Ok (wB fu) (fun r=>wt r≤3)
theorem n8:bL ac0:=((bL.ge 2147483648).and cU).imp fun fu ⟨hfu,cU⟩=>by
 have:dK.size=3:=rfl
 have:=(aT:wl ([]:List aA)=0∧_)
 exact oB (cU dK ([]:List aA) bF) fun x2 h1=>oS
def XT(fu:Nat):Prop:= ∀(pF:DS),Ok (vX fu pF) (fun r=>wt r.1≤1000000)
theorem FP:bL XT:=((((((((bL.ge 2147483648).and eF).and n8).and dJ).and cU).and mV).and iK).and sA).imp fun fu ⟨⟨⟨⟨⟨⟨⟨hfu,eF⟩,n8⟩,dJ⟩,cU⟩,mV⟩,iK⟩,sA⟩ pF=>by
 have:=SA
 have:=X2
 have:=afX
 have:a4.size=4:=rfl
 have:iC.size=2:=rfl
 have:cX.size=3:=rfl
 have:=zR a4 iC cX
 have:=aV a4
 have:=aV iC
 have:=aV cX
 refine Ok.lt fun d1 h1=>Ok.lt fun y3 h2=>?_
 have:=congrArg wt h2
 simp only [aV] at this
 have:y3.size≤4:=by rw [h2];exact DS.pick_size _ (by decide) (by decide)
 refine Ok.lt fun d5 h3=>?_
 have:=DS.below_lt d1 (n:=9) (by decide)
 refine K2 (eF (d1.below 9:Int) bF) fun x8 h4 h4B=>?_;refine Ok.sok (E:=fun(v9,v10,v11,v12,v13,v14)=>wl v9≤10∧v11.size+wl v12≤100∧wl v13≤100) ?_ ?_
 ·refine Ok.lt fun d15 h6=>?_;refine oC (fun g7=>?_) fun g7=>?_
  ·refine oB (n8) fun x19 h8=>?_
   have:=aA.wt_eq x19
   have:=(aT:wl ([]:LB)=0∧_)
   have:=(aT:wl ([]:List aE)=0∧_)
   exact oI
  refine oC (fun g9=>?_) fun g9=>?_
  ·have:eQ.size=1:=rfl
   refine oB (dJ eQ) fun x22 h10=>?_
   have:b0.size=4:=rfl
   have:=bU x22
   refine oB (cU b0 ([x22]:List aA) bF) fun x24 h11=>?_
   have:=bU eQ
   have:=aV eQ
   have:=aA.wt_eq x24
   have:=aE.wt_mk y3 x22
   have:=bU (aE.mk y3 x22)
   exact oI
  refine oC (fun g12=>?_) fun g12=>?_
  ·have:eQ.size=1:=rfl
   refine oB (dJ eQ) fun x27 h13=>?_
   have:t2.size=1:=rfl
   refine oB (dJ t2) fun x29 h14=>?_
   have:pW.size=4:=rfl
   have:=iJ x27 x29
   refine oB (cU pW ([x27,x29]:List aA) bF) fun x31 h15=>?_
   have:=iJ eQ t2
   have:=aV eQ
   have:=aV t2
   have:=aA.wt_eq x31
   have:=(aT:wl ([]:List aE)=0∧_)
   exact oI
  have:eQ.size=1:=rfl
  refine oB (dJ eQ) fun x33 h16=>?_
  have:=bU eQ
  have:=aV eQ
  have:=aA.wt_eq x33
  have:c3.size=3:=rfl
  have:=aE.wt_mk c3 x33
  have:=bU (aE.mk c3 x33)
  exact oI
 rintro⟨v9,v10,v11,v12,v13,v14⟩ h5
 dsimp only at h5
 refine Ok.sok (E:=fun(v38,v35,v36,v37,v34)=>wl v38+v37.size≤5000) ?_ ?_
 ·refine Ok.lt fun d39 h18=>?_;refine oC (fun g19=>?_) fun g19=>?_
  ·refine rT (mV d39 v9 1 bF) fun x43 x44 h20=>?_
   dsimp only at h20
   have:=aA.wt_eq x43
   exact oI
  have:s_.size=0:=rfl
  have:=(aT:wl ([]:List aA)=0∧_)
  exact oI
 rintro⟨v38,v35,v36,v37,v34⟩ h17
 dsimp only at h17
 refine Ok.lt fun d45 h21=>Ok.lt fun d47 h22=>?_;refine oC (fun g23=>?_) fun g23=>?_
 ·refine rT (iK d47 2 bF) fun x51 x52 h24=>?_
  dsimp only at h24
  have:=DS.below_lt v34 (n:=4) (by decide)
  have:=aA.wt_mk v36 v37 v38
  have:dY.size=1:=rfl
  have:dT.size=1:=rfl
  have:=bU dT
  have:=aV dT
  have:=aM.wt_mk dY ([dT]:LB) x8
  have:=bU (aM.mk dY ([dT]:LB) x8)
  have:=aJ.wt_mk y3 v9 x51 v13 (decide (v34.below 4=0)) v35 (aA.mk v36 v37 v38) ([(aM.mk dY ([dT]:LB) x8)]:List aM)
  exact oS
 refine oC (fun g25=>?_) fun g25=>?_
 ·have:eQ.size=1:=rfl
  have:s_c.size=1:=rfl
  have:=iJ eQ s_c
  have:=aV eQ
  have:=aV s_c
  refine Ok.lt fun d54 h26=>Ok.lt fun y56 h27=>?_
  have:=congrArg wt h27
  simp only [aV] at this
  have:y56.size≤1:=by rw [h27];exact DS.pick_size _ (by decide) (by decide)
  have:=aZ (v9)
  have:=bU y56
  have:=aV y56
  refine oG fun z28=>?_
  have:=bN v9 ([y56]:LB)
  have:=aA.wt_mk v10 v11 v12
  have:=DS.below_lt v34 (n:=4) (by decide)
  have:=aA.wt_mk v36 v37 v38
  have:dY.size=1:=rfl
  have:dT.size=1:=rfl
  have:=bU dT
  have:=aV dT
  have:=aM.wt_mk dY ([dT]:LB) x8
  have:=bU (aM.mk dY ([dT]:LB) x8)
  have:=aJ.wt_mk y3 (v9++([y56]:LB)) (aA.mk v10 v11 v12) v13 (decide (v34.below 4=0)) v35 (aA.mk v36 v37 v38) ([(aM.mk dY ([dT]:LB) x8)]:List aM)
  exact oS
 refine oC (fun g29=>?_) fun g29=>?_
 ·refine rT (iK d47 1 bF) fun x61 x62 h30=>?_
  dsimp only at h30
  have:=aZ (v13)
  have:=aE.wt_mk iC x61
  have:=bU (aE.mk iC x61)
  refine oG fun z31=>?_
  have:=aA.wt_mk v10 v11 v12
  have:=bN v13 ([(aE.mk iC x61)]:List aE)
  have:=DS.below_lt v34 (n:=4) (by decide)
  have:=aA.wt_mk v36 v37 v38
  have:dY.size=1:=rfl
  have:dT.size=1:=rfl
  have:=bU dT
  have:=aV dT
  have:=aM.wt_mk dY ([dT]:LB) x8
  have:=bU (aM.mk dY ([dT]:LB) x8)
  have:=aJ.wt_mk y3 v9 (aA.mk v10 v11 v12) (v13++([(aE.mk iC x61)]:List aE)) (decide (v34.below 4=0)) v35 (aA.mk v36 v37 v38) ([(aM.mk dY ([dT]:LB) x8)]:List aM)
  exact oS
 refine oC (fun g32=>?_) fun g32=>?_
 ·have:dT.size=1:=rfl
  have:nP.size=1:=rfl
  have:=iJ dT nP
  have:=aV dT
  have:=aV nP
  refine rT (sA d47 ([dT,nP]:LB) 2 bF) fun x66 x67 h33=>?_
  dsimp only at h33
  have:=aA.wt_mk v10 v11 v12
  have:=DS.below_lt v34 (n:=4) (by decide)
  have:=aA.wt_mk v36 v37 v38
  have:dY.size=1:=rfl
  have:=bU dT
  have:=aM.wt_mk dY ([dT]:LB) x66
  have:=bU (aM.mk dY ([dT]:LB) x66)
  have:=aJ.wt_mk y3 v9 (aA.mk v10 v11 v12) v13 (decide (v34.below 4=0)) v35 (aA.mk v36 v37 v38) ([(aM.mk dY ([dT]:LB) x66)]:List aM)
  exact oS
 refine oC (fun g34=>?_) fun g34=>?_
 ·refine oB (n8) fun x70 h35=>?_
  have:=aA.wt_mk v10 v11 v12
  have:=DS.below_lt v34 (n:=4) (by decide)
  have:dY.size=1:=rfl
  have:dT.size=1:=rfl
  have:=bU dT
  have:=aV dT
  have:=aM.wt_mk dY ([dT]:LB) x8
  have:=bU (aM.mk dY ([dT]:LB) x8)
  have:=aJ.wt_mk y3 v9 (aA.mk v10 v11 v12) v13 (decide (v34.below 4=0)) v35 x70 ([(aM.mk dY ([dT]:LB) x8)]:List aM)
  exact oS
 refine oC (fun g36=>?_) fun g36=>?_
 ·have:=aA.wt_mk v10 v11 v12
  have:=DS.below_lt v34 (n:=4) (by decide)
  have:=aA.wt_mk v36 v37 v38
  have:dY.size=1:=rfl
  have:=(aT:wl ([]:LB)=0∧_)
  have:=aM.wt_mk dY ([]) x8
  have:=bU (aM.mk dY ([]) x8)
  have:=aJ.wt_mk y3 v9 (aA.mk v10 v11 v12) v13 (decide (v34.below 4=0)) v35 (aA.mk v36 v37 v38) ([(aM.mk dY ([]) x8)]:List aM)
  exact oS
 have:=aA.wt_mk v10 v11 v12
 have:=DS.below_lt v34 (n:=4) (by decide)
 have:=aA.wt_mk v36 v37 v38
 have:dY.size=1:=rfl
 have:dT.size=1:=rfl
 have:=bU dT
 have:=aV dT
 have:=aM.wt_mk dY ([dT]:LB) x8
 have:=bU (aM.mk dY ([dT]:LB) x8)
 have:=aJ.wt_mk y3 v9 (aA.mk v10 v11 v12) v13 (decide (v34.below 4=0)) v35 (aA.mk v36 v37 v38) ([(aM.mk dY ([dT]:LB) x8)]:List aM)
 exact oS
def acX(fu:Nat):Prop:= ∀(pc:DS),Ok (OE fu pc) (fun r=>wt r.1≤2000000)
theorem NG:bL acX:=((((((bL.ge 2147483648).and dJ).and n8).and eL).and iK).and sA).imp fun fu ⟨⟨⟨⟨⟨hfu,dJ⟩,n8⟩,eL⟩,iK⟩,sA⟩ pc=>by
 have:=SA
 have:=X2
 have:=afM 3 (by decide)
 have:s_f.size=1:=rfl
 have:s_g.size=1:=rfl
 have:=iJ s_f s_g
 have:=aV s_f
 have:=aV s_g
 refine Ok.lt fun d1 h1=>Ok.lt fun y3 h2=>?_
 have:=congrArg wt h2
 simp only [aV] at this
 have:y3.size≤1:=by rw [h2];exact DS.pick_size _ (by decide) (by decide)
 have:eQ.size=1:=rfl
 refine oB (dJ eQ) fun x6 h3=>oB (n8) fun x8 h4=>?_
 have:dT.size=1:=rfl
 refine K2 (eL dT) fun x10 h5 h5B=>Ok.lt fun d11 h6=>?_;refine oC (fun g7=>?_) fun g7=>?_
 ·refine rT (iK d11 2 bF) fun x15 x16 h8=>?_
  dsimp only at h8
  have:=bU eQ
  have:=aV eQ
  have:a4.size=4:=rfl
  have:=aE.wt_mk a4 x6
  have:=bU (aE.mk a4 x6)
  have:=aR.wt_mk dT x6
  have:=bU (aR.mk dT x6)
  have:dY.size=1:=rfl
  have:s_.size=0:=rfl
  have:=(aT:wl ([]:List aA)=0∧_)
  have:=aA.wt_mk 0 s_ []
  have:=bU x10
  have:=(aT:wl ([]:List bH)=0∧_)
  have:=aG.wt_mk 5 a4 dY 0 (aA.mk 0 s_ []) ([x10]:List aG) []
  have:=aL.wt_mk y3 ([eQ]:LB) ([(aE.mk a4 x6)]:List aE) ([(aR.mk dT x6)]:List aR) x15 (aG.mk 5 a4 dY 0 (aA.mk 0 s_ []) ([x10]:List aG) [])
  exact oS
 refine oC (fun g9=>?_) fun g9=>?_
 ·have:nP.size=1:=rfl
  have:=iJ dT nP
  have:=aV dT
  have:=aV nP
  refine Ok.lt fun d18 h10=>Ok.lt fun y20 h11=>?_
  have:=congrArg wt h11
  simp only [aV] at this
  have:y20.size≤1:=by rw [h11];exact DS.pick_size _ (by decide) (by decide)
  have:=aR.wt_mk dT x6
  have:=bU (aR.mk dT x6)
  have:=aR.wt_mk y20 x8
  have:=bU (aR.mk y20 x8)
  refine oG fun z12=>?_
  have:=bU eQ
  have:=aV eQ
  have:a4.size=4:=rfl
  have:=aE.wt_mk a4 x6
  have:=bU (aE.mk a4 x6)
  have:=bN ([(aR.mk dT x6)]:List aR) ([(aR.mk y20 x8)]:List aR)
  have:dY.size=1:=rfl
  have:s_.size=0:=rfl
  have:=(aT:wl ([]:List aA)=0∧_)
  have:=aA.wt_mk 0 s_ []
  have:=bU x10
  have:=(aT:wl ([]:List bH)=0∧_)
  have:=aG.wt_mk 5 a4 dY 0 (aA.mk 0 s_ []) ([x10]:List aG) []
  have:=aL.wt_mk y3 ([eQ]:LB) ([(aE.mk a4 x6)]:List aE) (([(aR.mk dT x6)]:List aR)++([(aR.mk y20 x8)]:List aR)) x8 (aG.mk 5 a4 dY 0 (aA.mk 0 s_ []) ([x10]:List aG) [])
  exact oS
 refine oC (fun g13=>?_) fun g13=>?_
 ·have:nP.size=1:=rfl
  have:=iJ dT nP
  have:=aV dT
  have:=aV nP
  refine rT (sA d11 ([dT,nP]:LB) 3 bF) fun x25 x26 h14=>?_
  dsimp only at h14
  have:=bU eQ
  have:=aV eQ
  have:a4.size=4:=rfl
  have:=aE.wt_mk a4 x6
  have:=bU (aE.mk a4 x6)
  have:=aR.wt_mk dT x6
  have:=bU (aR.mk dT x6)
  have:=aL.wt_mk y3 ([eQ]:LB) ([(aE.mk a4 x6)]:List aE) ([(aR.mk dT x6)]:List aR) x8 x25
  exact oS
 refine oC (fun g15=>?_) fun g15=>?_
 ·refine rT (iK d11 1 bF) fun x29 x30 h16=>?_
  dsimp only at h16
  have:=bU eQ
  have:=aV eQ
  have:a4.size=4:=rfl
  have:=aE.wt_mk a4 x29
  have:=bU (aE.mk a4 x29)
  have:=aR.wt_mk dT x6
  have:=bU (aR.mk dT x6)
  have:dY.size=1:=rfl
  have:s_.size=0:=rfl
  have:=(aT:wl ([]:List aA)=0∧_)
  have:=aA.wt_mk 0 s_ []
  have:=bU x10
  have:=(aT:wl ([]:List bH)=0∧_)
  have:=aG.wt_mk 5 a4 dY 0 (aA.mk 0 s_ []) ([x10]:List aG) []
  have:=aL.wt_mk y3 ([eQ]:LB) ([(aE.mk a4 x29)]:List aE) ([(aR.mk dT x6)]:List aR) x8 (aG.mk 5 a4 dY 0 (aA.mk 0 s_ []) ([x10]:List aG) [])
  exact oS
 refine oC (fun g17=>?_) fun g17=>?_
 ·have:s_.size=0:=rfl
  have:z0.size=2:=rfl
  have:=iJ s_ z0
  have:=aV s_
  have:=aV z0
  refine Ok.lt fun d32 h18=>Ok.lt fun y34 h19=>?_
  have:=congrArg wt h19
  simp only [aV] at this
  have:y34.size≤2:=by rw [h19];exact DS.pick_size _ (by decide) (by decide)
  have:=bU eQ
  have:=aV eQ
  have:a4.size=4:=rfl
  have:=aE.wt_mk a4 x6
  have:=bU (aE.mk a4 x6)
  have:=aR.wt_mk dT x6
  have:=bU (aR.mk dT x6)
  have:dY.size=1:=rfl
  have:=(aT:wl ([]:List aA)=0∧_)
  have:=aA.wt_mk 0 s_ []
  have:=bU x10
  have:=(aT:wl ([]:List bH)=0∧_)
  have:=aG.wt_mk 5 a4 dY 0 (aA.mk 0 s_ []) ([x10]:List aG) []
  have:=aL.wt_mk y34 ([eQ]:LB) ([(aE.mk a4 x6)]:List aE) ([(aR.mk dT x6)]:List aR) x8 (aG.mk 5 a4 dY 0 (aA.mk 0 s_ []) ([x10]:List aG) [])
  exact oS
 have:=bU eQ
 have:=aV eQ
 have:a4.size=4:=rfl
 have:=aE.wt_mk a4 x6
 have:=bU (aE.mk a4 x6)
 have:=aR.wt_mk dT x6
 have:=bU (aR.mk dT x6)
 have:dY.size=1:=rfl
 have:s_.size=0:=rfl
 have:=(aT:wl ([]:List aA)=0∧_)
 have:=aA.wt_mk 0 s_ []
 have:=bU x10
 have:=(aT:wl ([]:List bH)=0∧_)
 have:=aG.wt_mk 5 a4 dY 0 (aA.mk 0 s_ []) ([x10]:List aG) []
 have:=aL.wt_mk y3 ([eQ]:LB) ([(aE.mk a4 x6)]:List aE) ([(aR.mk dT x6)]:List aR) x8 (aG.mk 5 a4 dY 0 (aA.mk 0 s_ []) ([x10]:List aG) [])
 exact oS
def UR(fu:Nat):Prop:= ∀(pF:DS),Ok (CC fu pF) (fun r=>wt r.1≤10000)
theorem BP:bL UR:=((((((bL.ge 2147483648).and dJ).and n8).and eL).and eF).and lE).imp fun fu ⟨⟨⟨⟨⟨hfu,dJ⟩,n8⟩,eL⟩,eF⟩,lE⟩ pF=>by
 have:g0.size=4:=rfl
 refine oB (dJ g0) fun x2 h1=>?_
 have:a4.size=4:=rfl
 have:iC.size=2:=rfl
 have:cX.size=3:=rfl
 have:=zR a4 iC cX
 have:=aV a4
 have:=aV iC
 have:=aV cX
 refine Ok.lt fun d3 h2=>Ok.lt fun y5 h3=>?_
 have:=congrArg wt h3
 simp only [aV] at this
 have:y5.size≤4:=by rw [h3];exact DS.pick_size _ (by decide) (by decide)
 refine Ok.lt fun d7 h4=>oB (n8) fun x10 h5=>?_;refine oC (fun g6=>?_) fun g6=>?_
 ·refine oC (fun g7=>?_) fun g7=>?_
  ·refine Ok.lt fun d13 h8=>?_
   have:dT.size=1:=rfl
   refine K2 (eL dT) fun x17 h9 h9B=>K2 (eF 1 bF) fun x19 h10 h10B=>?_
   have:wH.size=1:=rfl
   have:dY.size=1:=rfl
   have:s_.size=0:=rfl
   have:=(aT:wl ([]:List aA)=0∧_)
   have:=aA.wt_mk 0 s_ []
   have:=bU x17
   have:=(aT:wl ([]:List bH)=0∧_)
   have:=aG.wt_mk 5 y5 dY 0 (aA.mk 0 s_ []) ([x17]:List aG) []
   have:=iJ (aG.mk 5 y5 dY 0 (aA.mk 0 s_ []) ([x17]:List aG) []) x19
   refine oB (lE 10 wH ([(aG.mk 5 y5 dY 0 (aA.mk 0 s_ []) ([x17]:List aG) []),x19]:List aG) bF) fun x21 h11=>?_
   have:=(aT:wl ([]:List aG)=0∧_)
   have:=aG.wt_mk 0 s_ s_ 0 (aA.mk 0 s_ []) [] []
   have:=(aT:wl ([]:LB)=0∧_)
   have:=aD.wt_mk dY [] x10 false [] (aG.mk 0 s_ s_ 0 (aA.mk 0 s_ []) [] [])
   have:=bU (aD.mk dY [] x10 false [] (aG.mk 0 s_ s_ 0 (aA.mk 0 s_ []) [] []))
   have:eK.size=5:=rfl
   have:=bU x2
   have:nP.size=1:=rfl
   have:=iJ dT nP
   have:=aV dT
   have:=aV nP
   have:=aD.wt_mk eK ([x2]:List aA) x10 true ([dT,nP]:LB) x21
   have:=bU (aD.mk eK ([x2]:List aA) x10 true ([dT,nP]:LB) x21)
   refine oG fun z12=>?_;refine Ok.sok (E:=fun v23=>wl v23≤10) ?_ ?_
   ·refine Ok.lt fun d24 h14=>?_;refine oC (fun g15=>?_) fun g15=>?_
    ·have:c3.size=3:=rfl
     have:=bU c3
     have:=aV c3
     exact oI
    exact oI
   intro v23 h13
   refine Ok.lt fun d28 h16=>?_;refine oC (fun g17=>?_) fun g17=>?_
   ·have:t2.size=1:=rfl
    have:=iJ g0 t2
    have:=aV g0
    have:=aV t2
    refine Ok.lt fun d31 h18=>Ok.lt fun y33 h19=>?_
    have:=congrArg wt h19
    simp only [aV] at this
    have:y33.size≤4:=by rw [h19];exact DS.pick_size _ (by decide) (by decide)
    refine oB (dJ y33) fun x36 h20=>?_
    have:=DS.below_lt d3 (n:=3) (by decide)
    have:=aA.wt_mk 0 s_ ([])
    have:=aG.wt_mk 0 s_ s_ 0 (aA.mk 0 s_ ([])) ([]) ([])
    have:=aD.wt_mk dY ([]) x36 false ([]) (aG.mk 0 s_ s_ 0 (aA.mk 0 s_ ([])) ([]) ([]))
    have:=iJ (aD.mk dY ([]) x36 false ([]) (aG.mk 0 s_ s_ 0 (aA.mk 0 s_ ([])) ([]) ([]))) (aD.mk eK ([x2]:List aA) x10 true ([dT,nP]:LB) x21)
    have:=aQ.wt_mk y5 v23 false (decide (d3.below 3=0)) ([(aD.mk dY ([]) x36 false ([]) (aG.mk 0 s_ s_ 0 (aA.mk 0 s_ ([])) ([]) ([]))),(aD.mk eK ([x2]:List aA) x10 true ([dT,nP]:LB) x21)]:List aD)
    exact oS
   have:=DS.below_lt d3 (n:=3) (by decide)
   have:=aA.wt_mk 0 s_ ([])
   have:=aG.wt_mk 0 s_ s_ 0 (aA.mk 0 s_ ([])) ([]) ([])
   have:=aD.wt_mk dY ([]) x10 true ([]) (aG.mk 0 s_ s_ 0 (aA.mk 0 s_ ([])) ([]) ([]))
   have:=iJ (aD.mk dY ([]) x10 true ([]) (aG.mk 0 s_ s_ 0 (aA.mk 0 s_ ([])) ([]) ([]))) (aD.mk eK ([x2]:List aA) x10 true ([dT,nP]:LB) x21)
   have:=aQ.wt_mk y5 v23 false (decide (d3.below 3=0)) ([(aD.mk dY ([]) x10 true ([]) (aG.mk 0 s_ s_ 0 (aA.mk 0 s_ ([])) ([]) ([]))),(aD.mk eK ([x2]:List aA) x10 true ([dT,nP]:LB) x21)]:List aD)
   exact oS
  refine Ok.lt fun d37 h21=>?_;refine Ok.sok (E:=fun v40=>wl v40≤10) ?_ ?_
  ·refine Ok.lt fun d41 h23=>?_;refine oC (fun g24=>?_) fun g24=>?_
   ·have:c3.size=3:=rfl
    have:=bU c3
    have:=aV c3
    exact oI
   have:=(aT:wl ([]:LB)=0∧_)
   exact oI
  intro v40 h22
  refine Ok.lt fun d45 h25=>?_;refine oC (fun g26=>?_) fun g26=>?_
  ·have:t2.size=1:=rfl
   have:=iJ g0 t2
   have:=aV g0
   have:=aV t2
   refine Ok.lt fun d48 h27=>Ok.lt fun y50 h28=>?_
   have:=congrArg wt h28
   simp only [aV] at this
   have:y50.size≤4:=by rw [h28];exact DS.pick_size _ (by decide) (by decide)
   refine oB (dJ y50) fun x53 h29=>?_
   have:=DS.below_lt d3 (n:=3) (by decide)
   have:dY.size=1:=rfl
   have:s_.size=0:=rfl
   have:=(aT:wl ([]:List aA)=0∧_)
   have:=aA.wt_mk 0 s_ []
   have:=(aT:wl ([]:List aG)=0∧_)
   have:=(aT:wl ([]:List bH)=0∧_)
   have:=aG.wt_mk 0 s_ s_ 0 (aA.mk 0 s_ []) [] []
   have:=(aT:wl ([]:LB)=0∧_)
   have:=aD.wt_mk dY [] x53 false [] (aG.mk 0 s_ s_ 0 (aA.mk 0 s_ []) [] [])
   have:=bU (aD.mk dY [] x53 false [] (aG.mk 0 s_ s_ 0 (aA.mk 0 s_ []) [] []))
   have:=aQ.wt_mk y5 v40 false (decide (d3.below 3=0)) ([(aD.mk dY [] x53 false [] (aG.mk 0 s_ s_ 0 (aA.mk 0 s_ []) [] []))]:List aD)
   exact oS
  have:=DS.below_lt d3 (n:=3) (by decide)
  have:dY.size=1:=rfl
  have:s_.size=0:=rfl
  have:=(aT:wl ([]:List aA)=0∧_)
  have:=aA.wt_mk 0 s_ []
  have:=(aT:wl ([]:List aG)=0∧_)
  have:=(aT:wl ([]:List bH)=0∧_)
  have:=aG.wt_mk 0 s_ s_ 0 (aA.mk 0 s_ []) [] []
  have:=(aT:wl ([]:LB)=0∧_)
  have:=aD.wt_mk dY [] x10 true [] (aG.mk 0 s_ s_ 0 (aA.mk 0 s_ []) [] [])
  have:=bU (aD.mk dY [] x10 true [] (aG.mk 0 s_ s_ 0 (aA.mk 0 s_ []) [] []))
  have:=aQ.wt_mk y5 v40 false (decide (d3.below 3=0)) ([(aD.mk dY [] x10 true [] (aG.mk 0 s_ s_ 0 (aA.mk 0 s_ []) [] []))]:List aD)
  exact oS
 refine Ok.sok (E:=fun v55=>wl v55≤1000∧0<v55.length) ?_ ?_
 ·refine Ok.lt fun d56 h31=>?_;refine oC (fun g32=>?_) fun g32=>?_
  ·have:dT.size=1:=rfl
   refine K2 (eL dT) fun x61 h33 h33B=>K2 (eF 1 bF) fun x63 h34 h34B=>?_
   have:wH.size=1:=rfl
   have:dY.size=1:=rfl
   have:s_.size=0:=rfl
   have:=(aT:wl ([]:List aA)=0∧_)
   have:=aA.wt_mk 0 s_ []
   have:=bU x61
   have:=(aT:wl ([]:List bH)=0∧_)
   have:=aG.wt_mk 5 y5 dY 0 (aA.mk 0 s_ []) ([x61]:List aG) []
   have:=iJ (aG.mk 5 y5 dY 0 (aA.mk 0 s_ []) ([x61]:List aG) []) x63
   refine oB (lE 10 wH ([(aG.mk 5 y5 dY 0 (aA.mk 0 s_ []) ([x61]:List aG) []),x63]:List aG) bF) fun x65 h35=>?_
   have:=(aT:wl ([]:List aG)=0∧_)
   have:=aG.wt_mk 0 s_ s_ 0 (aA.mk 0 s_ []) [] []
   have:=(aT:wl ([]:LB)=0∧_)
   have:=aD.wt_mk dY [] x10 false [] (aG.mk 0 s_ s_ 0 (aA.mk 0 s_ []) [] [])
   have:=bU (aD.mk dY [] x10 false [] (aG.mk 0 s_ s_ 0 (aA.mk 0 s_ []) [] []))
   have:eK.size=5:=rfl
   have:=bU x2
   have:nP.size=1:=rfl
   have:=iJ dT nP
   have:=aV dT
   have:=aV nP
   have:=aD.wt_mk eK ([x2]:List aA) x10 true ([dT,nP]:LB) x65
   have:=bU (aD.mk eK ([x2]:List aA) x10 true ([dT,nP]:LB) x65)
   refine oG fun z36=>?_
   have:=bN ([(aD.mk dY [] x10 false [] (aG.mk 0 s_ s_ 0 (aA.mk 0 s_ []) [] []))]:List aD) ([(aD.mk eK ([x2]:List aA) x10 true ([dT,nP]:LB) x65)]:List aD)
   exact oI
  have:dY.size=1:=rfl
  have:s_.size=0:=rfl
  have:=(aT:wl ([]:List aA)=0∧_)
  have:=aA.wt_mk 0 s_ []
  have:=(aT:wl ([]:List aG)=0∧_)
  have:=(aT:wl ([]:List bH)=0∧_)
  have:=aG.wt_mk 0 s_ s_ 0 (aA.mk 0 s_ []) [] []
  have:=(aT:wl ([]:LB)=0∧_)
  have:=aD.wt_mk dY [] x10 false [] (aG.mk 0 s_ s_ 0 (aA.mk 0 s_ []) [] [])
  have:=bU (aD.mk dY [] x10 false [] (aG.mk 0 s_ s_ 0 (aA.mk 0 s_ []) [] []))
  exact oI
 intro v55 h30
 refine Ok.sok (E:=fun v67=>wl v67≤10) ?_ ?_
 ·refine Ok.lt fun d68 h38=>?_;refine oC (fun g39=>?_) fun g39=>?_
  ·have:c3.size=3:=rfl
   have:=bU c3
   have:=aV c3
   exact oI
  have:=(aT:wl ([]:LB)=0∧_)
  exact oI
 intro v67 h37
 refine Ok.lt fun d72 h40=>?_;refine oC (fun g41=>?_) fun g41=>?_
 ·have:=DS.below_lt d3 (n:=3) (by decide)
  have:=aQ.wt_mk y5 v67 true (decide (d3.below 3=0)) v55
  exact oS
 refine oC (fun g42=>?_) fun g42=>?_
 ·have:s_.size=0:=rfl
  have:dK.size=3:=rfl
  have:s_A.size=1:=rfl
  have:=zR s_ dK s_A
  have:=aV s_
  have:=aV dK
  have:=aV s_A
  refine Ok.lt fun d76 h43=>Ok.lt fun y78 h44=>?_
  have:=congrArg wt h44
  simp only [aV] at this
  have:y78.size≤3:=by rw [h44];exact DS.pick_size _ (by decide) (by decide)
  have:=DS.below_lt d3 (n:=3) (by decide)
  have:=aQ.wt_mk y78 v67 false (decide (d3.below 3=0)) v55
  exact oS
 refine oC (fun g45=>?_) fun g45=>?_
 ·have:=aZ (v67)
  have:c3.size=3:=rfl
  have:=bU c3
  have:=aV c3
  refine oG fun z46=>?_
  have:=bN v67 ([c3]:LB)
  have:=DS.below_lt d3 (n:=3) (by decide)
  have:=aQ.wt_mk y5 (v67++([c3]:LB)) false (decide (d3.below 3=0)) v55
  exact oS
 refine oC (fun g47=>?_) fun g47=>?_
 ·have:=aZ (v55)
  refine oG fun z48=>?_
  have:=cD v55 0 z48
  have:wl (List.take 1 v55)=wl (List.take 0 v55)+wt (aP v55 0)+1:=EU v55 0 z48
  refine Ok.lt fun y84 h49=>?_
  have:=congrArg wt h49
  have:=bU y84
  refine oG fun z50=>?_
  have:=DS.below_lt d3 (n:=3) (by decide)
  have:=bN v55 ([y84]:List aD)
  have:=aQ.wt_mk y5 v67 false (decide (d3.below 3=0)) (v55++([y84]:List aD))
  exact oS
 have:=DS.below_lt d3 (n:=3) (by decide)
 have:=aQ.wt_mk y5 v67 false (decide (d3.below 3=0)) v55
 exact oS
def XS(fu:Nat):Prop:= ∀(pc:DS),Ok (vW fu pc) (fun r=>wt r.1≤10000)
theorem FN:bL XS:=((((bL.ge 2147483648).and dJ).and cU).and iK).imp fun fu ⟨⟨⟨hfu,dJ⟩,cU⟩,iK⟩ pc=>by
 have:=SA
 have:=X2
 have:eQ.size=1:=rfl
 refine oB (dJ eQ) fun x2 h1=>?_
 have:b0.size=4:=rfl
 have:=bU x2
 refine oB (cU b0 ([x2]:List aA) bF) fun x4 h2=>Ok.lt fun d5 h3=>?_;refine oC (fun g4=>?_) fun g4=>?_
 ·have:t2.size=1:=rfl
  have:=iJ eQ t2
  have:=aV eQ
  have:=aV t2
  refine Ok.lt fun d8 h5=>Ok.lt fun y10 h6=>?_
  have:=congrArg wt h6
  simp only [aV] at this
  have:y10.size≤1:=by rw [h6];exact DS.pick_size _ (by decide) (by decide)
  have:=bU eQ
  have:=bU y10
  have:=aV y10
  refine oG fun z7=>?_
  have:=bN ([eQ]:LB) ([y10]:LB)
  have:eV.size=3:=rfl
  have:=(aT:wl ([]:List aA)=0∧_)
  have:=aC.wt_mk eV []
  have:bZ.size=4:=rfl
  have:=iJ x2 x4
  have:=aC.wt_mk bZ ([x2,x4]:List aA)
  have:=iJ (aC.mk eV []) (aC.mk bZ ([x2,x4]:List aA))
  have:=aI.wt_mk b0 (([eQ]:LB)++([y10]:LB)) ([(aC.mk eV []),(aC.mk bZ ([x2,x4]:List aA))]:List aC)
  exact oS
 refine oC (fun g8=>?_) fun g8=>?_
 ·refine Ok.lt fun d14 h9=>?_
  have:=DS.below_lt d5 (n:=2) (by decide)
  have:eV.size=3:=rfl
  have:=(aT:wl ([]:List aA)=0∧_)
  have:=aC.wt_mk eV []
  have:bZ.size=4:=rfl
  have:=iJ x2 x4
  have:=aC.wt_mk bZ ([x2,x4]:List aA)
  have:=iJ (aC.mk eV []) (aC.mk bZ ([x2,x4]:List aA))
  refine oG fun z10=>?_
  have:=bU eQ
  have:=aV eQ
  have:=MN (0:Int).toNat (d5.below 2:Int).toNat ([(aC.mk eV []),(aC.mk bZ ([x2,x4]:List aA))]:List aC)
  have:=aI.wt_mk b0 ([eQ]:LB) (List.drop (0:Int).toNat (List.take (d5.below 2:Int).toNat ([(aC.mk eV []),(aC.mk bZ ([x2,x4]:List aA))]:List aC)))
  exact oS
 refine oC (fun g11=>?_) fun g11=>?_
 ·refine rT (iK d5 2 bF) fun x19 x20 h12=>?_
  dsimp only at h12
  have:=bU eQ
  have:=aV eQ
  have:eV.size=3:=rfl
  have:=bU x19
  have:=aC.wt_mk eV ([x19]:List aA)
  have:bZ.size=4:=rfl
  have:=iJ x2 x4
  have:=aC.wt_mk bZ ([x2,x4]:List aA)
  have:=iJ (aC.mk eV ([x19]:List aA)) (aC.mk bZ ([x2,x4]:List aA))
  have:=aI.wt_mk b0 ([eQ]:LB) ([(aC.mk eV ([x19]:List aA)),(aC.mk bZ ([x2,x4]:List aA))]:List aC)
  exact oS
 refine oC (fun g13=>?_) fun g13=>?_
 ·have:bZ.size=4:=rfl
  have:s_.size=0:=rfl
  have:N8.size=3:=rfl
  have:=zR bZ s_ N8
  have:=aV bZ
  have:=aV s_
  have:=aV N8
  refine Ok.lt fun d22 h14=>Ok.lt fun y24 h15=>?_
  have:=congrArg wt h15
  simp only [aV] at this
  have:y24.size≤4:=by rw [h15];exact DS.pick_size _ (by decide) (by decide)
  have:=bU eQ
  have:=aV eQ
  have:=(aT:wl ([]:List aA)=0∧_)
  have:=aC.wt_mk y24 []
  have:=iJ x2 x4
  have:=aC.wt_mk bZ ([x2,x4]:List aA)
  have:=iJ (aC.mk y24 []) (aC.mk bZ ([x2,x4]:List aA))
  have:=aI.wt_mk b0 ([eQ]:LB) ([(aC.mk y24 []),(aC.mk bZ ([x2,x4]:List aA))]:List aC)
  exact oS
 have:=bU eQ
 have:=aV eQ
 have:eV.size=3:=rfl
 have:=(aT:wl ([]:List aA)=0∧_)
 have:=aC.wt_mk eV []
 have:bZ.size=4:=rfl
 have:=iJ x2 x4
 have:=aC.wt_mk bZ ([x2,x4]:List aA)
 have:=iJ (aC.mk eV []) (aC.mk bZ ([x2,x4]:List aA))
 have:=aI.wt_mk b0 ([eQ]:LB) ([(aC.mk eV []),(aC.mk bZ ([x2,x4]:List aA))]:List aC)
 exact oS
def aa7(fu:Nat):Prop:= ∀(pF:DS),Ok (yX fu pF) (fun r=>wt r.1≤12000000)
theorem JH:bL aa7:=(((((bL.ge 2147483648).and BP).and FN).and FP).and NG).imp fun fu ⟨⟨⟨⟨hfu,BP⟩,FN⟩,FP⟩,NG⟩ pF=>by
 refine Ok.lt fun d1 h1=>?_
 have:=DS.below_lt pF (n:=5) (by decide)
 have:=(aT:wl ([]:List aQ)=0∧_)
 have:=(aT:wl ([]:List aI)=0∧_)
 have:=(aT:wl ([]:List aJ)=0∧_)
 have:=(aT:wl ([]:List aL)=0∧_)
 refine Ok.sok (E:=fun(v9,v10,v11,v12,v4)=>wl v9+wl v10+wl v11+wl v12≤10000005) ?_ ?_
 ·refine Ok.loop0 (fun i3 (v9,v10,v11,v12,v4)=>wl v9+wl v10+wl v11+wl v12≤2000001*i3∧i3≤5) (by exact bF) (by rintro i3 ⟨v9,v10,v11,v12,v4⟩-hI;(try dsimp only at hI ⊢);omega) ?_;rintro i3 ⟨v9,v10,v11,v12,v4⟩ hl3 hI4
  dsimp only at hI4
  refine Ok.lt fun d15 h5=>?_;refine oC (fun g6=>?_) fun g6=>?_
  ·refine rT (BP d15) fun x19 x20 h7=>?_
   dsimp only at h7
   have:=aZ (v9)
   have:=bU x19
   refine oG fun z8=>?_
   have:=bN v9 ([x19]:List aQ)
   exact mF
  refine oC (fun g9=>?_) fun g9=>?_
  ·refine rT (FN d15) fun x24 x25 h10=>?_
   dsimp only at h10
   have:=aZ (v10)
   have:=bU x24
   refine oG fun z11=>?_
   have:=bN v10 ([x24]:List aI)
   exact mF
  refine oC (fun g12=>?_) fun g12=>?_
  ·refine rT (FP d15) fun x29 x30 h13=>?_
   dsimp only at h13
   have:=aZ (v11)
   have:=bU x29
   refine oG fun z14=>?_
   have:=bN v11 ([x29]:List aJ)
   exact mF
  refine rT (NG d15) fun x33 x34 h15=>?_
  dsimp only at h15
  have:=aZ (v12)
  have:=bU x33
  refine oG fun z16=>?_
  have:=bN v12 ([x33]:List aL)
  exact mF
 rintro⟨v9,v10,v11,v12,v4⟩ h2
 dsimp only at h2
 refine Ok.lt fun d36 h17=>?_;refine oC (fun g18=>?_) fun g18=>?_
 ·have:s_.size=0:=rfl
  have:e9.size=4:=rfl
  have:=iJ s_ e9
  have:=aV s_
  have:=aV e9
  refine Ok.lt fun d39 h19=>Ok.lt fun y41 h20=>?_
  have:=congrArg wt h20
  simp only [aV] at this
  have:y41.size≤4:=by rw [h20];exact DS.pick_size _ (by decide) (by decide)
  have:=bU e9
  have:=aK.wt_mk y41 ([e9]:LB) v9 v10 v11 v12
  exact oS
 refine oC (fun g21=>?_) fun g21=>?_
 ·have:e9.size=4:=rfl
  have:s_q.size=1:=rfl
  have:XK.size=1:=rfl
  have:=zR e9 s_q XK
  have:=aV e9
  have:=aV s_q
  have:=aV XK
  refine Ok.lt fun d44 h22=>Ok.lt fun y46 h23=>?_
  have:=congrArg wt h23
  simp only [aV] at this
  have:y46.size≤4:=by rw [h23];exact DS.pick_size _ (by decide) (by decide)
  have:=bU e9
  have:=bU y46
  have:=aV y46
  refine oG fun z24=>?_
  have:=bN ([e9]:LB) ([y46]:LB)
  have:=aK.wt_mk XK (([e9]:LB)++([y46]:LB)) v9 v10 v11 v12
  exact oS
 have:XK.size=1:=rfl
 have:e9.size=4:=rfl
 have:=bU e9
 have:=aV e9
 have:=aK.wt_mk XK ([e9]:LB) v9 v10 v11 v12
 exact oS
def KS(fu:Nat):Prop:= ∀(pc:DS),Ok (tH fu pc) (fun r=>wt r.1≤13000000)
theorem VK:bL KS:=(((bL.ge 2147483648).and FU).and JH).imp fun fu ⟨⟨hfu,FU⟩,JH⟩ pc=>by
 refine rT (FU pc) fun x2 x3 h1=>?_
 dsimp only at h1
 refine Ok.lt fun d4 h2=>?_;refine oC (fun g3=>?_) fun g3=>?_
 ·refine rT (JH d4) fun x8 x9 h4=>?_
  dsimp only at h4
  have:=aF.wt_eq x2
  have:=aZ (x2.asE)
  have:=bU x8
  refine oG fun z5=>?_
  have:=bN x2.asE ([x8]:List aK)
  have:=aF.wt_mk (x2.asE++([x8]:List aK))
  exact oS
 have:=aF.wt_eq x2
 have:=aF.wt_mk x2.asE
 exact oS
end Go.Proofs.YtfcoaagbccmahaaGreat.W
