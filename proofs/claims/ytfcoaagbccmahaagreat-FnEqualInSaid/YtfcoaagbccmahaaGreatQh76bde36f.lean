/- Words, rules and walks of several kinds, laid together. No conditions but those that each theorem states. -/
import Derived.Test.YtfcoaagbccmahaaGreatQh2ac0b367
set_option linter.unusedSimpArgs false
set_option linter.unusedVariables false
namespace Go.Proofs.YtfcoaagbccmahaaGreat.W
set_option maxRecDepth 20000
set_option maxHeartbeats 4000000
open Go.RowKit Go.WalkArith Go.IntWalk
def ZV(fu:Nat):Prop:= ∀(px:UInt8),Ok (JZ fu px) (fun _=>True)
theorem JM:bQ ZV:=(bQ.ge 2147483648).imp fun fu hfu px=>by
 refine oD (fun g1=>?_) fun g1=>?_
 ·refine oD (fun _=>oS) fun g2=>?_;refine oD (fun g3=>?_) fun g3=>?_
  ·exact oD (fun _=>oS) fun g4=>oD (fun _=>oS) fun g5=>oD (fun _=>oS) fun g6=>oD (fun _=>oS) fun g7=>oD (fun _=>oS) fun g8=>oD (fun _=>oS) fun g9=>oD (fun _=>oS) fun g10=>oS
  exact oD (fun _=>oS) fun g11=>oD (fun _=>oS) fun g12=>oD (fun _=>oS) fun g13=>oD (fun _=>oS) fun g14=>oD (fun _=>oS) fun g15=>oD (fun _=>oS) fun g16=>oS
 refine oD (fun g17=>?_) fun g17=>?_
 ·exact oD (fun _=>oS) fun g18=>oD (fun _=>oS) fun g19=>oD (fun _=>oS) fun g20=>oD (fun _=>oS) fun g21=>oD (fun _=>oS) fun g22=>oD (fun _=>oS) fun g23=>oD (fun _=>oS) fun g24=>oS
 exact oD (fun _=>oS) fun g25=>oD (fun _=>oS) fun g26=>oD (fun _=>oS) fun g27=>oD (fun _=>oS) fun g28=>oD (fun _=>oS) fun g29=>oD (fun _=>oS) fun g30=>oS
def akJ(fu:Nat):Prop:= ∀(px pC pD:Int),Ok (sK fu px pC pD) (fun _=>True)
theorem sC:bQ akJ:=(bQ.ge 2147483648).imp fun fu hfu px pC pD=>by
 exact oD (fun _=>oS) fun g1=>oS
def HQ(fu:Nat):Prop:= ∀(ps:ByteArray),ps.size≤1073741824→Ok (BM fu ps) (fun _=>True)
theorem rL:bQ HQ:=(((bQ.ge 2147483648).and JM).and sC).imp fun fu ⟨⟨hfu,JM⟩,sC⟩ ps hpre=>by
 refine G8 ?_ ?_
 ·refine Ok.loop1 ?_;rintro i1 ⟨⟩ hl2
  exact oG fun z4=>oB (JM (FL ps i1)) fun x6 _=>oW (fun _=>oR) fun g6=>nT
 rintro⟨⟩-
 exact oB (sC (ps.size:Int) 1 12) fun x9 _=>oS
def alI(fu:Nat):Prop:= ∀(px:aB) (p3:Int),wt px≤1073741824→Ok (qB fu px p3) (fun _=>True)
def PT(n:Nat)(m:AT):Prop:= ∀(px:aB) (p3:Int),wt px<n→wt px≤1073741824→Ok (m px p3) (fun _=>True)
theorem ajU{n fu:Nat}(hfu:2147483648≤fu){p6:AT}(p8:PT n p6):PT (n+1) (SB fu p6):=by
 intro px p3 hm hpre
 refine oEN (fun i1 v2 hl2=>?_) ?_
 ·have:=aB.wt_eq px
  have:=aZ px.aB6
  refine oD (fun g4=>?_) fun g4=>?_
  ·have:=cP px.aB6 i1 hl2
   exact oB (p8 (aT px.aB6 i1) v2 bP bP) fun x7 _=>nT
  exact oK
 intro v2 _
 exact oS
theorem amS(n:Nat):bQ fun fu=>PT n (qB fu):=by
 induction n with
 |zero=>exact .all fun fu=>fun _ _ h=>absurd h (Nat.not_lt_zero _)
 |succ n ih=>exact bQ.succ ((ih.and (bQ.ge 2147483648)).imp fun fu ⟨h,hfu⟩=>fun px p3=>by rw [qB];exact ajU hfu h px p3)
theorem QU:bQ alI:=(amS 8589934592).imp fun fu h px p3 hpre=>h px p3 bP hpre
def alH(fu:Nat):Prop:= ∀(px:aB),wt px≤1073741824→Ok (qA fu px) (fun _=>True)
def PR(n:Nat)(m:AR):Prop:= ∀(px:aB),wt px<n→wt px≤1073741824→Ok (m px) (fun _=>True)
theorem ajR{n fu:Nat}(hfu:2147483648≤fu)(rL:HQ fu){p7:AR}(p9:PR n p7):PR (n+1) (SA fu p7):=by
 intro px hm hpre
 have:=aB.wt_eq px
 have:s_.size=0:=rfl
 refine oN (fun g1=>?_) fun g1=>?_
 ·have:=HY g1
  exact oB (rL px.aB9 bP) fun x3 _=>oC (fun _=>oS) fun g3=>oS
 refine G8 ?_ ?_
 ·refine Ok.loop1 ?_;rintro i5 ⟨⟩ hl5
  have:=aZ px.aB6
  have:=cP px.aB6 i5 hl5
  exact oB (p9 (aT px.aB6 i5) bP bP) fun x9 _=>oW (fun _=>oR) fun g8=>nT
 rintro⟨⟩-
 exact oS
theorem amR(n:Nat):bQ fun fu=>PR n (qA fu):=by
 induction n with
 |zero=>exact .all fun fu=>fun _ h=>absurd h (Nat.not_lt_zero _)
 |succ n ih=>exact bQ.succ ((ih.and ((bQ.ge 2147483648).and rL)).imp fun fu ⟨h,⟨hfu,rL⟩⟩=>fun px=>by rw [qA];exact ajR hfu rL h px)
theorem QT:bQ alH:=(amR 8589934592).imp fun fu h px hpre=>h px bP hpre
def UW(fu:Nat):Prop:= ∀(pa pb:Int),Ok (PF fu pa pb) (fun _=>True)
theorem tA:bQ UW:=(bQ.ge 2147483648).imp fun fu hfu pa pb=>by
 exact oD (fun _=>oS) fun g1=>oS
def X7(fu:Nat):Prop:= ∀(px:aB),wt px≤1073741824→Ok (jA fu px) (fun _=>True)
def DC(n:Nat)(m:pY):Prop:= ∀(px:aB),wt px<n→wt px≤1073741824→Ok (m px) (fun _=>True)
theorem WU{n fu:Nat}(hfu:2147483648≤fu)(tA:UW fu){p1:pY}(p4:DC n p1):DC (n+1) (DQ fu p1):=by
 intro px hm hpre
 have:=aB.wt_eq px
 have:s_.size=0:=rfl
 refine oN (fun _=>oS) fun g1=>?_;refine oEN (fun i2 v3 hl3=>?_) ?_
 ·have:=aZ px.aB6
  have:=cP px.aB6 i2 hl3
  exact oB (p4 (aT px.aB6 i2) bP bP) fun x7 _=>oB (tA v3 x7) fun x9 _=>nT
 intro v3 _
 exact oS
theorem Y2(n:Nat):bQ fun fu=>DC n (jA fu):=by
 induction n with
 |zero=>exact .all fun fu=>fun _ h=>absurd h (Nat.not_lt_zero _)
 |succ n ih=>exact bQ.succ ((ih.and ((bQ.ge 2147483648).and tA)).imp fun fu ⟨h,⟨hfu,tA⟩⟩=>fun px=>by rw [jA];exact WU hfu tA h px)
theorem DJ:bQ X7:=(Y2 8589934592).imp fun fu h px hpre=>h px bP hpre
def S9(fu:Nat):Prop:= ∀(px:aB),wt px≤1073741824→Ok (iJ fu px) (fun _=>True)
theorem cL:bQ S9:=((((bQ.ge 2147483648).and QU).and QT).and DJ).imp fun fu ⟨⟨⟨hfu,QU⟩,QT⟩,DJ⟩ px hpre=>by
 refine oB (QU px 900 bP) fun x2 _=>?_;refine oD (fun g2=>?_) fun g2=>?_
 ·refine oB (QT px bP) fun x5 _=>?_;refine oC (fun g4=>?_) fun g4=>?_
  ·exact oB (DJ px bP) fun x8 _=>oS
  exact oS
 exact oS
def FJ(fu:Nat):Prop:= ∀(p0:List aB),wl p0≤1073741824→Ok (B5 fu p0) (fun r=>wl r.1≤wl p0)
theorem iL:bQ FJ:=(bQ.ge 2147483648).imp fun fu hfu p0 hpre=>by
 have:=(aW:wl ([]:LB)=0∧_)
 refine Q5 p0 1 (fun i1 v3 hl2 hI3 _ _=>?_) ?_
 ·have:=aZ p0
  have:=cP p0 i1 hl2
  have:=aB.wt_eq (aT p0 i1)
  have:s_.size=0:=rfl
  refine oD (fun _=>oR) fun g4=>?_
  have:=HY g4
  have:=aZ (v3)
  have:=cA ((aT p0 i1).aB9)
  have:=bA ((aT p0 i1).aB9)
  refine oG fun z5=>?_
  have:=b4 v3 ([((aT p0 i1).aB9)]:LB)
  exact nT
 intro v3 h1
 exact oS
def JB(fu:Nat):Prop:= ∀(ps:ByteArray),Ok (cB fu ps) (fun r=>wt r=ps.size)
theorem bN:bQ JB:=(bQ.ge 2147483648).imp fun fu hfu ps=>by
 have:=(aW:wl ([]:List aB)=0∧_)
 have:=aB.wt_mk ps []
 exact oS
def LV(fu:Nat):Prop:= ∀(p0:LB),wl p0≤1073741824→Ok (GP fu p0) (fun r=>wl r≤wl p0)
theorem m9:bQ LV:=((bQ.ge 2147483648).and bN).imp fun fu ⟨hfu,bN⟩ p0 hpre=>by
 have:=(aW:wl ([]:List aB)=0∧_)
 refine Q5 p0 1 (fun i1 v3 hl2 hI3 _ _=>?_) ?_
 ·have:=aZ p0
  have:=cP p0 i1 hl2
  have:=bA (aT p0 i1)
  refine oB (bN (aT p0 i1)) fun x7 h4=>?_
  have:=aZ (v3)
  have:=cA x7
  refine oG fun z5=>?_
  have:=b4 v3 ([x7]:List aB)
  exact nT
 intro v3 h1
 exact oS
def ZW(fu:Nat):Prop:= ∀(p0:List aB),wl p0≤1073741824→Ok (mI fu p0) (fun r=>wt r=wl p0)
theorem eL:bQ ZW:=(bQ.ge 2147483648).imp fun fu hfu p0 hpre=>by
 have:=(aW:wl ([]:List aB)=0∧_)
 have:=aZ (p0)
 refine oG fun z1=>?_
 have:s_.size=0:=rfl
 have:=b4 ([]:List aB) p0
 have:=aB.wt_mk s_ (([])++p0)
 exact oS
def X4(fu:Nat):Prop:= ∀(pa pb:aB),wt pa≤1073741824→Ok (fN fu pa pb) (fun _=>True)
def DB(n:Nat)(m:pX):Prop:= ∀(pa pb:aB),wt pa<n→wt pa≤1073741824→Ok (m pa pb) (fun _=>True)
theorem WH{n fu:Nat}(hfu:2147483648≤fu){p2:pX}(p5:DB n p2):DB (n+1) (DO fu p2):=by
 intro pa pb hm hpre
 have:=aB.wt_eq pa
 have:=aB.wt_eq pb
 refine oN (fun _=>oS) fun g1=>?_
 have:=aZ pa.aB6
 have:=aZ pb.aB6
 refine oN (fun _=>oS) fun g2=>?_;refine G8 ?_ ?_
 ·refine Ok.loop1 ?_;rintro i3 ⟨⟩ hl4
  have:=aZ (pb.aB6)
  refine oG fun z6=>?_
  have:=cP pa.aB6 i3 hl4
  have:=cP pb.aB6 i3 z6
  exact oB (p5 (aT pa.aB6 i3) (aT pb.aB6 i3) bP bP) fun x8 _=>oW (fun _=>oR) fun g8=>nT
 rintro⟨⟩-
 exact oS
theorem YY(n:Nat):bQ fun fu=>DB n (fN fu):=by
 induction n with
 |zero=>exact .all fun fu=>fun _ _ h=>absurd h (Nat.not_lt_zero _)
 |succ n ih=>exact bQ.succ ((ih.and (bQ.ge 2147483648)).imp fun fu ⟨h,hfu⟩=>fun pa pb=>by rw [fN];exact WH hfu h pa pb)
theorem gJ:bQ X4:=(YY 8589934592).imp fun fu h pa pb hpre=>h pa pb bP hpre
end Go.Proofs.YtfcoaagbccmahaaGreat.W

namespace Go.Proofs.YtfcoaagbccmahaaGreat.W
set_option maxRecDepth 20000
set_option maxHeartbeats 4000000
open Go.RowKit Go.WalkArith Go.IntWalk
def UV(fu:Nat):Prop:= ∀(p0:LB) (ps:ByteArray),Ok (lA fu p0 ps) (fun _=>True)
theorem dT:bQ UV:=(bQ.ge 2147483648).imp fun fu hfu p0 ps=>by
 refine G8 ?_ ?_
 ·refine Ok.loop1 ?_;rintro i1 ⟨⟩ hl2
  have:=aZ p0
  exact oD (fun _=>oR) fun g4=>nT
 rintro⟨⟩-
 exact oS
def X5(fu:Nat):Prop:= ∀(ps:ByteArray),Ok (xB fu ps) (fun _=>True)
theorem DH:bQ X5:=((bQ.ge 2147483648).and dT).imp fun fu ⟨hfu,dT⟩ ps=>by
 have:eG.size=3:=rfl
 have:eD.size=4:=rfl
 have:jD.size=5:=rfl
 have:zM.size=3:=rfl
 have:GC.size=2:=rfl
 have:G5.size=3:=rfl
 have:zA.size=4:=rfl
 have:G6.size=3:=rfl
 have:o7.size=6:=rfl
 have:zB.size=4:=rfl
 have:qM.size=4:=rfl
 have:l8.size=5:=rfl
 have:wl ([eG,eD,jD,zM,GC,G5,zA,G6,o7,zB,qM,l8]:LB)=58:=rfl
 exact oB (dT ([eG,eD,jD,zM,GC,G5,zA,G6,o7,zB,qM,l8]:LB) ps) fun x2 _=>oS
def A0(fu:Nat):Prop:= ∀(ps:ByteArray),Ok (c6 fu ps) (fun _=>True)
theorem bL:bQ A0:=(((bQ.ge 2147483648).and sC).and DH).imp fun fu ⟨⟨hfu,sC⟩,DH⟩ ps=>by
 refine oB (sC (ps.size:Int) 1 8) fun x2 _=>oW (fun _=>oS) fun g2=>oB (DH ps) fun x5 _=>oC (fun _=>oS) fun g4=>?_;refine G8 ?_ ?_
 ·refine Ok.loop1 ?_;rintro i7 ⟨⟩ hl6
  refine oG fun z8=>?_;refine oD (fun g9=>?_) fun g9=>?_
  ·refine oW (fun g10=>?_) fun g10=>?_
   ·exact oD (fun _=>oR) fun g11=>oD (fun _=>oR) fun g12=>oD (fun _=>oR) fun g13=>nT
   exact nT
  exact oD (fun _=>oR) fun g14=>oD (fun _=>oR) fun g15=>oD (fun _=>oR) fun g16=>nT
 rintro⟨⟩-
 exact oS
def UX(fu:Nat):Prop:= ∀(p0:LB),Ok (GQ fu p0) (fun _=>True)
theorem rM:bQ UX:=((bQ.ge 2147483648).and bL).imp fun fu ⟨hfu,bL⟩ p0=>by
 refine G8 ?_ ?_
 ·refine Ok.loop1 ?_;rintro i1 ⟨⟩ hl2
  have:=aZ p0
  have:=cP p0 i1 hl2
  have:=bA (aT p0 i1)
  exact oB (bL (aT p0 i1)) fun x5 _=>oW (fun _=>oR) fun g5=>nT
 rintro⟨⟩-
 exact oS
def HN(fu:Nat):Prop:= ∀(p0:LB),Ok (kQ fu p0) (fun _=>True)
theorem eI:bQ HN:=((bQ.ge 2147483648).and dT).imp fun fu ⟨hfu,dT⟩ p0=>by
 refine G8 ?_ ?_
 ·refine Ok.loop1 ?_;rintro i1 ⟨⟩ hl2
  have:=aZ p0
  refine oG fun z4=>?_
  have:=UO (0:Int).toNat (i1:Int).toNat p0
  have:=cP p0 i1 hl2
  have:=bA (aT p0 i1)
  exact oB (dT (List.drop (0:Int).toNat (List.take (i1:Int).toNat p0)) (aT p0 i1)) fun x6 _=>oC (fun _=>oR) fun g6=>nT
 rintro⟨⟩-
 exact oS
def UZ(fu:Nat):Prop:= ∀(ps:ByteArray),Ok (l4 fu ps) (fun r=>wt r=ps.size)
theorem dU:bQ UZ:=(bQ.ge 2147483648).imp fun fu hfu ps=>by
 have:=(aW:wl ([]:List aA)=0∧_)
 have:=aA.wt_mk 1 ps []
 exact oS
def UY(fu:Nat):Prop:= ∀(ps:ByteArray) (pD:List aA),ps.size+wl pD≤1073741824→Ok (eY fu ps pD) (fun r=>wt r=ps.size+wl pD)
theorem cW:bQ UY:=(bQ.ge 2147483648).imp fun fu hfu ps pD hpre=>by
 have:=(aW:wl ([]:List aA)=0∧_)
 have:=aZ (pD)
 refine oG fun z1=>?_
 have:=b4 ([]:List aA) pD
 have:=aA.wt_mk 2 ps (([])++pD)
 exact oS
def abL(fu:Nat):Prop:= ∀(p3:aA),wt p3≤67108864→Ok (m6 fu p3) (fun r=>wt r+1≤8*(wt p3+1))
def abF(n:Nat)(m:C8):Prop:= ∀(p3:aA),wt p3<n→wt p3≤67108864→Ok (m p3) (fun r=>wt r+1≤8*(wt p3+1))
theorem aoM{n fu:Nat}(hfu:2147483648≤fu)(bN:JB fu)(eL:ZW fu){pK:C8}(pP:abF n pK):abF (n+1) (adW fu pK):=by
 intro p3 hm hpre
 refine G8 ?_ ?_
 ·have:=aA.wt_eq p3
  refine oD (fun g2=>?_) fun g2=>?_
  ·have:am5.size=1:=rfl
   refine oG fun z3=>?_
   have:=eV am5 p3.aB3
   exact oB (bN (am5++p3.aB3)) fun x4 h4=>oL
  refine oD (fun g5=>?_) fun g5=>?_
  ·have:zM.size=3:=rfl
   refine oB (bN zM) fun x7 h6=>oB (bN p3.aB3) fun x9 h7=>?_
   have:=kM x7 x9
   exact oB (eL ([x7,x9]:List aB) bP) fun x11 h8=>oL
  refine oD (fun g9=>?_) fun g9=>?_
  ·have:=aZ p3.aB4
   refine oD (fun g10=>?_) fun g10=>?_
   ·exact oB (bN p3.aB3) fun x15 h11=>oL
   exact oI
  exact oI
 rintro⟨⟩-
 refine Ok.sok (E:=fun v17=>wl v17≤6) ?_ ?_
 ·have:=aA.wt_eq p3
  refine oD (fun g13=>?_) fun g13=>?_
  ·have:jD.size=5:=rfl
   refine oB (bN jD) fun x20 h14=>?_
   have:=(aW:wl ([]:List aB)=0∧_)
   have:=cA x20
   refine oG fun z15=>?_
   have:=b4 ([]:List aB) ([x20]:List aB)
   exact oI
  have:=(aW:wl ([]:List aB)=0∧_)
  exact oI
 intro v17 h12
 have:=aA.wt_eq p3
 refine oB (bN p3.aB3) fun x23 h16=>?_
 have:=aZ (v17)
 have:=cA x23
 refine oG fun z17=>?_
 have:=b4 v17 ([x23]:List aB)
 refine Q5 p3.aB4 8 (fun i25 v27 hl19 hI20 _ _=>?_) ?_
 ·have:=aZ p3.aB4
  have:=cP p3.aB4 i25 hl19
  refine oB (pP (aT p3.aB4 i25) bP bP) fun x31 h21=>?_
  have:=aZ (v27)
  have:=cA x31
  refine oG fun z22=>?_
  have:=b4 v27 ([x31]:List aB)
  exact nT
 intro v27 h18
 have:s_.size=0:=rfl
 have:=aB.wt_mk s_ v27
 exact oS
theorem ap5(n:Nat):bQ fun fu=>abF n (m6 fu):=by
 induction n with
 |zero=>exact .all fun fu=>fun _ h=>absurd h (Nat.not_lt_zero _)
 |succ n ih=>exact bQ.succ ((ih.and (((bQ.ge 2147483648).and bN).and eL)).imp fun fu ⟨h,⟨⟨hfu,bN⟩,eL⟩⟩=>fun p3=>by rw [m6];exact aoM hfu bN eL h p3)
theorem iW:bQ abL:=(ap5 8589934592).imp fun fu h p3 hpre=>h p3 bP hpre
def alM(fu:Nat):Prop:= ∀(pt:aA) (pC:Int),wt pt≤1073741824→Ok (qC fu pt pC) (fun _=>True)
def PW(n:Nat)(m:AX):Prop:= ∀(pt:aA) (pC:Int),wt pt<n→wt pt≤1073741824→Ok (m pt pC) (fun _=>True)
theorem aj3{n fu:Nat}(hfu:2147483648≤fu){pE:AX}(pL:PW n pE):PW (n+1) (SC fu pE):=by
 intro pt pC hm hpre
 refine oEN (fun i1 v2 hl2=>?_) ?_
 ·have:=aA.wt_eq pt
  have:=aZ pt.aB4
  refine oD (fun g4=>?_) fun g4=>?_
  ·have:=cP pt.aB4 i1 hl2
   exact oB (pL (aT pt.aB4 i1) v2 bP bP) fun x7 _=>nT
  exact oK
 intro v2 _
 exact oS
theorem amW(n:Nat):bQ fun fu=>PW n (qC fu):=by
 induction n with
 |zero=>exact .all fun fu=>fun _ _ h=>absurd h (Nat.not_lt_zero _)
 |succ n ih=>exact bQ.succ ((ih.and (bQ.ge 2147483648)).imp fun fu ⟨h,hfu⟩=>fun pt pC=>by rw [qC];exact aj3 hfu h pt pC)
theorem QX:bQ alM:=(amW 8589934592).imp fun fu h pt pC hpre=>h pt pC bP hpre
def abJ(fu:Nat):Prop:= ∀(pt:aA),wt pt≤1073741824→Ok (kH fu pt) (fun _=>True)
def FG(n:Nat)(m:sI):Prop:= ∀(pt:aA),wt pt<n→wt pt≤1073741824→Ok (m pt) (fun _=>True)
theorem Y6{n fu:Nat}(hfu:2147483648≤fu)(tA:UW fu){p8:sI}(pJ:FG n p8):FG (n+1) (GA fu p8):=by
 intro pt hm hpre
 refine oEN (fun i1 v2 hl2=>?_) ?_
 ·have:=aA.wt_eq pt
  have:=aZ pt.aB4
  have:=cP pt.aB4 i1 hl2
  refine oB (pJ (aT pt.aB4 i1) bP bP) fun x6 _=>?_
  have:=eO (1+x6)
  exact oB (tA v2 (aX (1+x6))) fun x8 _=>nT
 intro v2 _
 exact oS
theorem acP(n:Nat):bQ fun fu=>FG n (kH fu):=by
 induction n with
 |zero=>exact .all fun fu=>fun _ h=>absurd h (Nat.not_lt_zero _)
 |succ n ih=>exact bQ.succ ((ih.and ((bQ.ge 2147483648).and tA)).imp fun fu ⟨h,⟨hfu,tA⟩⟩=>fun pt=>by rw [kH];exact Y6 hfu tA h pt)
theorem FX:bQ abJ:=(acP 8589934592).imp fun fu h pt hpre=>h pt bP hpre
def ZY(fu:Nat):Prop:= ∀(ps:ByteArray),Ok (AW fu ps) (fun _=>True)
theorem AN:bQ ZY:=(bQ.ge 2147483648).imp fun fu hfu ps=>by
 exact oD (fun _=>oS) fun g1=>oS
def alK(fu:Nat):Prop:= ∀(p3:aA),wt p3≤1073741824→Ok (lQ fu p3) (fun _=>True)
def PU(n:Nat)(m:uI):Prop:= ∀(p3:aA),wt p3<n→wt p3≤1073741824→Ok (m p3) (fun _=>True)
theorem aj0{n fu:Nat}(hfu:2147483648≤fu)(bL:A0 fu)(AN:ZY fu){pF:uI}(pM:PU n pF):PU (n+1) (J5 fu pF):=by
 intro p3 hm hpre
 have:=aA.wt_eq p3
 refine oB (bL p3.aB3) fun x2 _=>?_;refine G8 ?_ ?_
 ·refine G8 ?_ ?_
  ·exact oD (fun _=>oI) fun g4=>oI
  intro v4 _
  refine oC (fun g5=>?_) fun g5=>?_
  ·exact oC (fun _=>oI) fun g6=>oI
  refine oD (fun g7=>?_) fun g7=>?_
  ·exact oC (fun _=>oI) fun g8=>oI
  refine oD (fun g9=>?_) fun g9=>?_
  ·refine oC (fun g10=>?_) fun g10=>?_
   ·exact oD (fun _=>oI) fun g11=>oB (AN p3.aB3) fun x14 _=>oC (fun _=>oI) fun g13=>oI
   exact oB (AN p3.aB3) fun x17 _=>oC (fun _=>oI) fun g15=>oI
  exact oL
 intro v3 _
 refine oEN (fun i19 v20 hl17=>?_) ?_
 ·have:=aZ p3.aB4
  refine oC (fun g19=>?_) fun g19=>?_
  ·have:=cP p3.aB4 i19 hl17
   exact oB (pM (aT p3.aB4 i19) bP bP) fun x25 _=>nT
  exact nT
 intro v20 _
 exact oS
theorem amV(n:Nat):bQ fun fu=>PU n (lQ fu):=by
 induction n with
 |zero=>exact .all fun fu=>fun _ h=>absurd h (Nat.not_lt_zero _)
 |succ n ih=>exact bQ.succ ((ih.and (((bQ.ge 2147483648).and bL).and AN)).imp fun fu ⟨h,⟨⟨hfu,bL⟩,AN⟩⟩=>fun p3=>by rw [lQ];exact aj0 hfu bL AN h p3)
theorem QW:bQ alK:=(amV 8589934592).imp fun fu h p3 hpre=>h p3 bP hpre
def HU(fu:Nat):Prop:= ∀(pt:aA),wt pt≤1073741824→Ok (iH fu pt) (fun _=>True)
theorem eJ:bQ HU:=((((bQ.ge 2147483648).and QX).and FX).and QW).imp fun fu ⟨⟨⟨hfu,QX⟩,FX⟩,QW⟩ pt hpre=>by
 refine oB (QX pt 60 bP) fun x2 _=>?_;refine oD (fun g2=>?_) fun g2=>?_
 ·refine oB (FX pt bP) fun x5 _=>?_;refine oD (fun g4=>?_) fun g4=>?_
  ·exact oB (QW pt bP) fun x8 _=>oS
  exact oS
 exact oS
def NM(fu:Nat):Prop:= ∀(pa pb:aA),wt pa≤1073741824→Ok (fG fu pa pb) (fun _=>True)
def zN(n:Nat)(m:kG):Prop:= ∀(pa pb:aA),2*wt pa+1<n→wt pa≤1073741824→Ok (m pa pb) (fun _=>True)
def JA(n:Nat)(m:qD):Prop:= ∀(pa pb:List aA),2*wl pa<n→wl pa≤1073741824→Ok (m pa pb) (fun _=>True)
theorem Y0{n fu:Nat}(hfu:2147483648≤fu){p1:kG}(p9:zN n p1){p4:qD}(pG:JA n p4):zN (n+1) (zY fu p1 p4):=by
 intro pa pb hm hpre
 have:=aA.wt_eq pa
 have:=aA.wt_eq pb
 refine oD (fun g1=>?_) fun g1=>?_
 ·refine oD (fun g2=>?_) fun g2=>?_
  ·exact oB (pG pa.aB4 pb.aB4 bP bP) fun x4 _=>oS
  exact oS
 exact oS
theorem aj6{n fu:Nat}(hfu:2147483648≤fu){p1:kG}(p9:zN n p1){p4:qD}(pG:JA n p4):JA (n+1) (FC fu p1 p4):=by
 intro pa pb hm hpre
 have:=aZ pa
 have:=aZ pb
 refine oN (fun _=>oS) fun g1=>?_;refine G8 ?_ ?_
 ·refine Ok.loop1 ?_;rintro i2 ⟨⟩ hl3
  have:=aZ (pb)
  refine oG fun z5=>?_
  have:=cP pa i2 hl3
  have:=cP pb i2 z5
  exact oB (p9 (aT pa i2) (aT pb i2) bP bP) fun x7 _=>oW (fun _=>oR) fun g7=>nT
 rintro⟨⟩-
 exact oS
theorem acI(n:Nat):bQ fun fu=>zN n (fG fu)∧JA n (kY fu):=by
 induction n with
 |zero=>exact .all fun fu=>⟨fun _ _ h=>absurd h (Nat.not_lt_zero _),fun _ _ h=>absurd h (Nat.not_lt_zero _)⟩
 |succ n ih=>exact bQ.succ ((ih.and (bQ.ge 2147483648)).imp fun fu ⟨h,hfu⟩=>⟨fun pa pb=>by rw [fG];exact Y0 hfu h.1 h.2 pa pb,fun pa pb=>by rw [kY];exact aj6 hfu h.1 h.2 pa pb⟩)
theorem uY:bQ NM:=(acI 8589934592).imp fun fu h pa pb hpre=>h.1 pa pb bP hpre
def alO(fu:Nat):Prop:= ∀(pt:aA) (p7:LB),wt pt+wl p7≤268435456→Ok (lR fu pt p7) (fun r=>wl r≤wl p7+wt pt+1)
def PX(n:Nat)(m:wX):Prop:= ∀(pt:aA) (p7:LB),wt pt<n→wt pt+wl p7≤268435456→Ok (m pt p7) (fun r=>wl r≤wl p7+wt pt+1)
theorem aj9{n fu:Nat}(hfu:2147483648≤fu)(dT:UV fu){pH:wX}(pO:PX n pH):PX (n+1) (KA fu pH):=by
 intro pt p7 hm hpre
 have:=aA.wt_eq pt
 refine Ok.sok (E:=fun v2=>wl v2+wl pt.aB4≤wl p7+wt pt+1) ?_ ?_
 ·refine oD (fun g2=>?_) fun g2=>?_
  ·refine oB (dT p7 pt.aB3) fun x5 _=>?_;refine oW (fun g4=>?_) fun g4=>?_
   ·have:=aZ (p7)
    have:=cA pt.aB3
    have:=bA pt.aB3
    refine oG fun z5=>?_
    have:=b4 p7 ([pt.aB3]:LB)
    exact oI
   exact oI
  exact oI
 intro v2 h1
 refine Q5 pt.aB4 1 (fun i8 v10 hl7 hI8 _ _=>?_) ?_
 ·have:=aZ pt.aB4
  have:=cP pt.aB4 i8 hl7
  exact oB (pO (aT pt.aB4 i8) v10 bP bP) fun x14 h9=>nT
 intro v10 h6
 exact oS
theorem amY(n:Nat):bQ fun fu=>PX n (lR fu):=by
 induction n with
 |zero=>exact .all fun fu=>fun _ _ h=>absurd h (Nat.not_lt_zero _)
 |succ n ih=>exact bQ.succ ((ih.and ((bQ.ge 2147483648).and dT)).imp fun fu ⟨h,⟨hfu,dT⟩⟩=>fun pt p7=>by rw [lR];exact aj9 hfu dT h pt p7)
theorem QY:bQ alO:=(amY 8589934592).imp fun fu h pt p7 hpre=>h pt p7 bP hpre
def P0(fu:Nat):Prop:= ∀(pt:aA),wt pt≤268435456→Ok (nP fu pt) (fun r=>wl r≤wt pt+1)
theorem wC:bQ P0:=((bQ.ge 2147483648).and QY).imp fun fu ⟨hfu,QY⟩ pt hpre=>by
 have:=(aW:wl ([]:LB)=0∧_)
 exact oB (QY pt ([]:LB) bP) fun x2 h1=>oS
def PZ(fu:Nat):Prop:= ∀(pt:aA),wt pt≤1073741824→Ok (dM fu pt) (fun _=>True)
def vQ(n:Nat)(m:lO):Prop:= ∀(pt:aA),wt pt<n→wt pt≤1073741824→Ok (m pt) (fun _=>True)
theorem OZ{n fu:Nat}(hfu:2147483648≤fu){p5:lO}(pA:vQ n p5):vQ (n+1) (sG fu p5):=by
 intro pt hm hpre
 refine G8 ?_ ?_
 ·refine Ok.loop1 ?_;rintro i1 ⟨⟩ hl2
  have:=aA.wt_eq pt
  have:=aZ pt.aB4
  have:=cP pt.aB4 i1 hl2
  exact oB (pA (aT pt.aB4 i1) bP bP) fun x5 _=>oC (fun _=>oR) fun g5=>nT
 rintro⟨⟩-
 exact oS
theorem RG(n:Nat):bQ fun fu=>vQ n (dM fu):=by
 induction n with
 |zero=>exact .all fun fu=>fun _ h=>absurd h (Nat.not_lt_zero _)
 |succ n ih=>exact bQ.succ ((ih.and (bQ.ge 2147483648)).imp fun fu ⟨h,hfu⟩=>fun pt=>by rw [dM];exact OZ hfu h pt)
theorem lN:bQ PZ:=(RG 8589934592).imp fun fu h pt hpre=>h pt bP hpre
def HO(fu:Nat):Prop:= ∀(pt:aA) (pv:ByteArray),wt pt+pv.size≤1073741824→Ok (eA fu pt pv) (fun _=>True)
def q8(n:Nat)(m:gD):Prop:= ∀(pt:aA) (pv:ByteArray),wt pt<n→wt pt+pv.size≤1073741824→Ok (m pt pv) (fun _=>True)
theorem HF{n fu:Nat}(hfu:2147483648≤fu){p2:gD}(p6:q8 n p2):q8 (n+1) (rP fu p2):=by
 intro pt pv hm hpre
 refine G8 ?_ ?_
 ·refine oD (fun g2=>?_) fun g2=>?_
  ·exact oD (fun _=>oI) fun g3=>oI
  exact oI
 intro v1 _
 refine oEN (fun i4 v5 hl5=>?_) ?_
 ·have:=aA.wt_eq pt
  have:=aZ pt.aB4
  have:=cP pt.aB4 i4 hl5
  exact oB (p6 (aT pt.aB4 i4) pv bP bP) fun x9 _=>nT
 intro v5 _
 exact oS
theorem IP(n:Nat):bQ fun fu=>q8 n (eA fu):=by
 induction n with
 |zero=>exact .all fun fu=>fun _ _ h=>absurd h (Nat.not_lt_zero _)
 |succ n ih=>exact bQ.succ ((ih.and (bQ.ge 2147483648)).imp fun fu ⟨h,hfu⟩=>fun pt pv=>by rw [eA];exact HF hfu h pt pv)
theorem rK:bQ HO:=(IP 8589934592).imp fun fu h pt pv hpre=>h pt pv bP hpre
def aeC(fu:Nat):Prop:= ∀(pv:ByteArray) (pt:aA),pv.size+wt pt≤1073741824→Ok (IQ fu pv pt) (fun _=>True)
theorem IC:bQ aeC:=((bQ.ge 2147483648).and rK).imp fun fu ⟨hfu,rK⟩ pv pt hpre=>by
 exact oB (rK pt pv bP) fun x2 _=>oS
end Go.Proofs.YtfcoaagbccmahaaGreat.W

namespace Go.Proofs.YtfcoaagbccmahaaGreat.W
open Go.RowKit Go.WalkArith Go.IntWalk
theorem apU(d:DS)(l:LB):0<l.length→(d.pick l).size+1≤wl l:=fun h=>by
 have:=CB (d.pick_mem h)
 exact this
theorem alT(d:DS)(n:Nat):0<n→d.below n<n:=fun h=>d.below_lt h
theorem aoZ(E:Int): -9223372036854775808≤aX E∧aX E≤9223372036854775807:=by
 unfold aX IntKind.wrap
 simp [IntKind.bits,IntKind.signed]
 omega
inductive LF:aL→Prop
 |mk {k:Int} {t n:ByteArray} {i:Int} {ty:aA} {args:List aL} {arms:List bS} (h:(k=2→0≤i∧i≤1)∧(k=1→i.natAbs≤9223372036854775808)) (ha: ∀a∈args,LF a) (hm: ∀m∈arms,LF m.aCd):LF (.mk k t n i ty args arms)
theorem LF.num{e:aL}(h:LF e):(e.aB5=2→0≤e.aCL∧e.aCL≤1)∧(e.aB5=1→e.aCL.natAbs≤9223372036854775808):=by cases h;assumption
theorem LF.arg{e:aL}(h:LF e): ∀a∈e.aB4,LF a:=by cases h;assumption
theorem LF.arm{e:aL}(h:LF e): ∀m∈e.aCo,LF m.aCd:=by cases h;assumption
theorem LF.zero:LF (aL.mk 0 s_ s_ 0 (aA.mk 0 s_ []) [] []):= .mk ⟨by omega,by omega⟩ (by simp) (by simp)
section
variable {α:Type}
theorem akL{P:α→Prop}: ∀a∈([]:List α),P a:=by simp
theorem anH{P:α→Prop}{l:List α}{x:α}(h: ∀a∈l,P a)(hx:P x): ∀a∈l++ [x],P a:=by
 intro a ha
 rcases List.mem_append.1 ha with ha|ha
 ·exact h a ha
 ·obtain rfl:=List.mem_singleton.1 ha
  exact hx
theorem abO [Inhabited α]{P:α→Prop}{l:List α}{i:Nat}(h: ∀a∈l,P a)(hi:i<l.length):P (aT l i):=h _ (cD hi)
variable [Wt α]
theorem aiC(a:List α)(x:α):(a.length=0→wl (List.drop 1 (a++ [x]))=0)∧(0<a.length→wl (List.drop 1 (a++ [x]))=wl (List.drop 1 a)+wt x+1):=by
 cases a with
 |nil=>exact⟨fun _=>rfl,fun h=>by simp at h⟩
 |cons b a=>exact⟨fun h=>by simp at h,fun _=>by simp only [List.cons_append,List.drop_succ_cons,List.drop_zero];rw [(b4 _ _).1,(cA _).1];omega⟩
theorem as1(v:List α):wl (List.drop (1:Int).toNat (List.take (((v.length:Nat):Int):Int).toNat v))=wl (List.drop 1 v):=by
 have:List.take (((v.length:Nat):Int):Int).toNat v=v:=by simp
 rw [this]
 rfl
theorem zV(L:List α)(x:Int)(k:Nat):(((k:Int)≤((L.length:Nat):Int)∧x=k)∨(((L.length:Nat):Int)≤k∧x=((L.length:Nat):Int)))→wl (List.drop (x:Int).toNat (List.take (((L.length:Nat):Int):Int).toNat L))+wl (List.take k L)≤wl L:=by
 have e:List.take (((L.length:Nat):Int):Int).toNat L=L:=by simp
 rw [e]
 rintro(⟨h,rfl⟩|⟨h,rfl⟩)
 ·have:=I7 k L
  simp only [Int.toNat_natCast]
  omega
 ·simp only [Int.toNat_natCast,List.drop_length]
  have:=oM L k
  show 0+_≤_
  omega
theorem apT(L:List α)(x:Int):(((2:Int)≤((L.length:Nat):Int)∧x=2)∨(((L.length:Nat):Int)≤2∧x=((L.length:Nat):Int)))→wl (List.drop (1:Int).toNat (List.take (x:Int).toNat L))+wl (List.take 1 L)≤wl (List.take 2 L):=by
 have key: ∀M:List α,wl (List.drop (1:Int).toNat M)+wl (List.take 1 M)=wl M:=fun M=>by
  have:=I7 1 M
  show wl (List.drop 1 M)+_=_
  omega
 rintro(⟨h,rfl⟩|⟨h,rfl⟩)
 ·have:=key (L.take 2)
  rw [List.take_take] at this
  exact Nat.le_of_eq this
 ·have h2:L.length≤2:=by omega
  have:=key L
  rw [show List.take (((L.length:Nat):Int):Int).toNat L=L by simp,List.take_of_length_le h2]
  exact Nat.le_of_eq this
variable [Inhabited α]
theorem aiV(L:List α)(a b c:α)(k k1:Nat)(hk:k+1=k1):(k<L.length→wt (aT ((([])++L)++([a,b,c]:List α)) k)+1+wl (List.take k L)=wl (List.take k1 L))∧(L.length≤k→k<L.length+3→wt (aT ((([])++L)++([a,b,c]:List α)) k)≤wt a+wt b+wt c∧wl (List.take k L)=wl L∧wl (List.take k1 L)=wl L)∧wl (List.take k1 L)≤wl L:=by
 subst hk
 rw [List.nil_append]
 refine⟨fun h=>?_,fun h h3=>⟨?_,by rw [List.take_of_length_le h],by rw [List.take_of_length_le (by omega)]⟩,oM L _⟩
 ·have h2:=oO L k h
  have e:aT (L++ [a,b,c]) k=aT L k:=by
   unfold aT
   rw [List.getElem?_append_left h]
  rw [e]
  omega
 ·have e:aT (L++ [a,b,c]) k=aT [a,b,c] (k-L.length):=by
   unfold aT
   rw [List.getElem?_append_right h]
  rw [e]
  have:k-L.length=0∨k-L.length=1∨k-L.length=2:=by omega
  rcases this with h|h|h<;>rw [h]<;>simp [aT]<;>omega
end
theorem oX{α β:Type}[Wt α]{v:List α}{x:α}{PA:α→Prop}{E:List α→Prop}{Q:β→Prop}{m:List α→Prop}(hB: ∀a∈v,PA a)(h:m (v++ [x]):=by first|omega|(dsimp only;omega))(hx:PA x:=by first|assumption|exact LF.zero):Ok (some (LR.next (v++ [x]))) (PL Q (fun v=>m v∧ ∀a∈v,PA a) E):=⟨_,rfl,h,anH hB hx⟩
theorem oS2{α:Type}{P1 P2:α→Prop}{a:α}(h:P1 a:=by first|omega|(dsimp only;omega))(k:P2 a:=by first|assumption|exact LF.zero|exact .mk ⟨by omega,by omega⟩ (by first|assumption|exact akL) (by first|assumption|exact akL)):Ok (some a) (fun a=>P1 a∧P2 a):=⟨a,rfl,h,k⟩
def asG(p r:dG):Prop:=r.aCM=p.aCM∧p.aCB≤r.aCB∧r.aCB≤((p.aCM.size:Nat):Int)∧r.aCw=p.aCw∧r.aCD=p.aCD
def ZX(fu:Nat):Prop:= ∀p:dG,0≤p.aCB→p.aCB≤((p.aCM.size:Nat):Int)→p.aCM.size≤1048576→Ok (AV fu p) (asG p)
theorem aaE:bQ ZX:=(bQ.ge 2147483648).imp fun fu hfu p h0 h1 h2=>by
 unfold AV
 refine Ok.sok (E:=fun v1=>p.aCB≤v1∧v1≤((p.aCM.size:Nat):Int)) ?_ (fun v1 h=>Ok.some ⟨rfl,h.1,h.2,rfl,rfl⟩)
 refine Ok.loopW (fun v1=>p.aCB≤v1∧v1≤((p.aCM.size:Nat):Int)) (fun v1=>(((p.aCM.size:Nat):Int)-v1).toNat) ?_ _ _ bP bP
 intro v1 hI
 have:=eO (v1+1)
 unfold XI
 refine Ok.swd (fun g=>?_) (fun g=>Ok.brk hI)
 refine Ok.gdk bP (fun z=>?_)
 refine Ok.swd (fun _=>Ok.next bP) (fun _=>?_)
 refine Ok.swd (fun _=>Ok.next bP) (fun _=>Ok.brk hI)
def aeQ(p:dG)(r:aB×dG):Prop:=r.2.aCM=p.aCM∧p.aCB≤r.2.aCB∧r.2.aCB≤((p.aCM.size:Nat):Int)∧(r.2.aCD=false→r.2.aCw=p.aCw∧(wt r.1:Int)+1≤2*(r.2.aCB-p.aCB))
def anE(n:Nat)(r:dG→Option (aB×dG)):Prop:= ∀p:dG,(14-p.aCw).toNat<n→0≤p.aCB→p.aCB≤((p.aCM.size:Nat):Int)→p.aCM.size≤1048576→0≤p.aCw→p.aCw≤14→p.aCD=false→Ok (r p) (aeQ p)
theorem ajW(n fu:Nat)(hfu:2147483648≤fu)(k1:ZX fu)(k2:ZV fu)(r:AU)(hr:anE n r):anE (n+1) (J2 fu r):=by
 intro p hn h0 h1 h2 hd hd2 hb
 unfold J2
 refine Ok.bd (k1 p h0 h1 h2) ?_;rintro x ⟨e1,e2,e3,e4,e5⟩
 have e3':x.aCB≤((x.aCM.size:Nat):Int):=by rw [e1];exact e3
 have bad: ∀v:Int,p.aCB≤v→v≤((p.aCM.size:Nat):Int)→Ok (some ((aB.mk s_ []),(dG.mk x.aCM v x.aCw (aX (x.aCz+1)) true))) (aeQ p):=fun v hv hv2=>Ok.some ⟨e1,hv,hv2,fun h=>by cases h⟩
 refine Ok.swd (fun _=>bad _ e2 e3) (fun g1=>?_)
 refine Ok.swd (fun _=>bad _ e2 e3) (fun g2=>?_)
 refine Ok.sok (E:=fun v=>x.aCB≤v∧v≤((x.aCM.size:Nat):Int)) ?_ ?_
 ·have hz:x.aCM.size≤1048576:=by rw [e1];exact h2
  refine Ok.loopW (fun v1=>x.aCB≤v1∧v1≤((x.aCM.size:Nat):Int)) (fun v1=>(((x.aCM.size:Nat):Int)-v1).toNat) ?_ _ _ bP bP
  intro v1 hI
  have:=eO (v1+1)
  unfold XG
  refine Ok.swd (fun g=>?_) (fun g=>Ok.brk hI)
  refine Ok.gdk bP (fun z=>?_)
  refine Ok.bd (k2 _) ?_;rintro b-
  exact Ok.sw (fun _=>Ok.next bP) (fun _=>Ok.brk hI)
 intro v hv
 refine Ok.swd (fun g3=>?_) (fun g3=>?_)
 ·refine Ok.gdk bP (fun z=>Ok.some ⟨e1,by show _≤v;omega,by show v≤_;rw [← e1];exact hv.2,fun _=>⟨e4,?_⟩⟩)
  show(wt (aB.mk _ []):Int)+1≤2*(v-p.aCB)
  rw [aB.wt_mk,FM]
  have:wl ([]:List aB)=0:=rfl
  omega
 ·refine Ok.gdk bP (fun z=>?_)
  have hvp:v≤((p.aCM.size:Nat):Int):=by rw [← e1];exact hv.2
  refine Ok.swn (fun _=>bad _ (by omega) hvp) (fun g4=>?_)
  refine Ok.swd (fun _=>bad _ (by omega) hvp) (fun g5=>?_)
  have w1:=eO (v+1)
  have w2:=eO (x.aCw+1)
  have hz:x.aCM.size≤1048576:=by rw [e1];exact h2
  refine Ok.sok (E:=fun(q:ByteArray×Int×Int×Int×Bool×List aB)=>q.1=p.aCM∧p.aCB≤q.2.1∧q.2.1≤((p.aCM.size:Nat):Int)∧q.2.2.2.2.1=true) ?_ ?_
  ·refine Ok.loopW (fun(q:ByteArray×Int×Int×Int×Bool×List aB)=>q.1=p.aCM∧v+1≤q.2.1∧q.2.1≤((p.aCM.size:Nat):Int)∧(q.2.2.2.2.1=false→q.2.2.1=p.aCw+1∧(wl q.2.2.2.2.2:Int)≤2*(q.2.1-(v+1)))) (fun q=>(2*(((p.aCM.size:Nat):Int)-q.2.1)).toNat+(if q.2.2.2.2.1 then 0 else 1)) ?_ _ _ ?_ ?_
   ·rintro⟨v17,v18,v19,v20,v21,v23⟩ ⟨i1,i2,i3,i4⟩
    dsimp only at i1 i2 i3 i4
    subst i1
    unfold XH
    refine Ok.swb (fun g6=>?_) (fun g6=>Ok.brk ⟨rfl,by show p.aCB≤v18;omega,i3,g6⟩)
    subst g6
    obtain⟨i5,i6⟩:=i4 rfl
    subst i5
    refine Ok.bd (k1 _ (by show 0≤v18;omega) i3 h2) ?_;rintro y ⟨f1,f2,f3,f4,f5⟩
    replace f1:y.aCM=p.aCM:=f1
    replace f2:v18≤y.aCB:=f2
    replace f3:y.aCB≤((p.aCM.size:Nat):Int):=f3
    replace f4:y.aCw=p.aCw+1:=f4
    replace f5:y.aCD=false:=f5
    have hl:=aZ v23
    have step: ∀q:aB×dG,aeQ y q→Ok (gd ((v23).length+(([q.1]:List aB)).length≤68719476736) (some (LR.next (q.2.aCM,q.2.aCB,q.2.aCw,q.2.aCz,q.2.aCD,(v23++([q.1]:List aB)))))) (PL (aeQ p) (fun s'=>(fun(q:ByteArray×Int×Int×Int×Bool×List aB)=>q.1=p.aCM∧v+1≤q.2.1∧q.2.1≤((p.aCM.size:Nat):Int)∧(q.2.2.2.2.1=false→q.2.2.1=p.aCw+1∧(wl q.2.2.2.2.2:Int)≤2*(q.2.1-(v+1)))) s'∧(fun(q:ByteArray×Int×Int×Int×Bool×List aB)=>(2*(((p.aCM.size:Nat):Int)-q.2.1)).toNat+(if q.2.2.2.2.1 then 0 else 1)) s'<(fun(q:ByteArray×Int×Int×Int×Bool×List aB)=>(2*(((p.aCM.size:Nat):Int)-q.2.1)).toNat+(if q.2.2.2.2.1 then 0 else 1)) (p.aCM,v18,p.aCw+1,v20,false,v23)) (fun(q:ByteArray×Int×Int×Int×Bool×List aB)=>q.1=p.aCM∧p.aCB≤q.2.1∧q.2.1≤((p.aCM.size:Nat):Int)∧q.2.2.2.2.1=true)):=by
     rintro⟨a,b⟩ ⟨j1,j2,j3,j4⟩
     dsimp only at j1 j2 j3 j4
     have j3':b.aCB≤((p.aCM.size:Nat):Int):=by rw [← f1];exact j3
     have l1:=cA a
     refine Ok.gdk (by dsimp only;omega) (fun _=>Ok.next ⟨⟨j1.trans f1,by show v+1≤b.aCB;omega,j3',fun hb2=>?_⟩,?_⟩)
     ·obtain⟨j5,j6⟩:=j4 hb2
      refine⟨by show b.aCw=_;rw [j5,f4],?_⟩
      show(wl (v23++ [a]):Int)≤2*(b.aCB-(v+1))
      have:=b4 v23 [a]
      omega
     ·dsimp only
      cases hbb:b.aCD with
      |true=>rw [if_pos rfl,if_neg Bool.false_ne_true];omega
      |false=>
       obtain⟨j5,j6⟩:=j4 hbb
       rw [if_neg Bool.false_ne_true]
       omega
    have call:Ok (r y) (aeQ y):=hr y (by rw [f4];omega) (by omega) (by rw [f1];exact f3) (by rw [f1];exact h2) (by rw [f4];omega) (by rw [f4];omega) f5
    have w3:=eO (y.aCB+1)
    have w4:=eO (y.aCw-1)
    have hys:y.aCM.size=p.aCM.size:=by rw [f1]
    refine Ok.swd (fun g7=>?_) (fun g7=>Ok.bd call step)
    refine Ok.gdk (by omega) (fun z2=>?_)
    refine Ok.swd (fun g8=>Ok.ret ⟨f1,by show p.aCB≤aX _;omega,by show aX _≤_;omega,fun _=>⟨by show aX _=_;omega,?_⟩⟩) (fun g8=>Ok.bd call step)
    show(wt (aB.mk s_ v23):Int)+1≤2*(aX (y.aCB+1)-p.aCB)
    rw [aB.wt_mk]
    have:s_.size=0:=rfl
    omega
   ·dsimp only
    have: ∀b:Bool,(if b then 0 else 1)≤1:=by decide
    have:=this x.aCD
    omega
   ·have hxs:x.aCM.size=p.aCM.size:=by rw [e1]
    refine⟨e1,by dsimp only;omega,by dsimp only;omega,fun _=>⟨by dsimp only;omega,?_⟩⟩
    show((wl ([]:List aB):Nat):Int)≤2*(aX (v+1)-(v+1))
    have:wl ([]:List aB)=0:=rfl
    omega
  ·rintro⟨v17,v18,v19,v20,v21,v23⟩ ⟨i1,i2,i3,i4⟩
   dsimp only at i1 i2 i3 i4
   exact Ok.some ⟨i1,i2,i3,fun h=>by rw [show v21=false from h] at i4;cases i4⟩
theorem amT(n:Nat):bQ fun fu=>anE n (sO fu):=by
 induction n with
 |zero=>exact .all fun fu p h=>absurd h (Nat.not_lt_zero _)
 |succ n ih=>
  refine bQ.succ ((ih.and (((bQ.ge 2147483648).and aaE).and JM)).imp fun fu h=>?_)
  intro p
  rw [sO]
  exact ajW n fu h.2.1.1 h.2.1.2 h.2.2 _ h.1 p
def X6(fu:Nat):Prop:= ∀ps:ByteArray,ps.size≤1048576→Ok (xC fu ps) (fun r=>wt r.1≤2*ps.size)
theorem DI:bQ X6:=(((amT 15).and aaE).and cL).imp fun fu hh ps h=>by
 obtain⟨⟨k1,k2⟩,k3⟩:=hh
 have zero: ∀b:Bool,Ok (some ((aB.mk s_ []),b)) (fun r=>wt r.1≤2*ps.size):=fun b=>Ok.some (by
  show wt (aB.mk s_ [])≤_
  rw [aB.wt_mk]
  have:s_.size=0:=rfl
  have:wl ([]:List aB)=0:=rfl
  omega)
 unfold xC
 refine Ok.bd (k1 _ (by show(14-(0:Int)).toNat<15;omega) (Int.le_refl _) (by show(0:Int)≤_;omega) h (Int.le_refl _) (by show(0:Int)≤14;omega) rfl) ?_;rintro⟨x,r⟩ ⟨e1,e2,e3,e4⟩
 dsimp only at e1 e2 e3 e4
 replace e1:r.aCM=ps:=e1
 replace e2:0≤r.aCB:=e2
 replace e3:r.aCB≤((ps.size:Nat):Int):=e3
 refine Ok.bd (k2 r e2 (by rw [e1];exact e3) (by rw [e1];exact h)) ?_;rintro y ⟨f1,f2,f3,f4,f5⟩
 refine Ok.sw (fun _=>zero _) (fun g=>?_)
 obtain⟨-,e5⟩:=e4 (by rw [← f5];exact g)
 replace e5:(wt x:Int)+1≤2*(r.aCB-0):=e5
 refine Ok.swn (fun _=>zero _) (fun _=>?_)
 refine Ok.bd (k3 x (by omega)) ?_;rintro b-
 exact Ok.swb (fun _=>zero _) (fun _=>Ok.some (by show wt x≤_;omega))
theorem ar1{v:Int}{k:Nat}(h:v.natAbs<10^(k+1)):(v.tdiv 10).natAbs<10^k:=by
 rw [Int.natAbs_tdiv,Nat.pow_succ] at*
 show v.natAbs/10<_
 omega
def FI(fu:Nat):Prop:= ∀pn:Int,pn.natAbs≤9223372036854775808→Ok (n7 fu pn) (fun r=>r.size≤21)
theorem mP:bQ FI:=(bQ.ge 18446744073709551616).imp fun fu hfu pn h=>by
 unfold n7
 refine Ok.swd (fun _=>Ok.some (by decide)) (fun _=>?_)
 refine Ok.sok (E:=fun q:Int×ByteArray=>q.2.size≤20) ?_ ?_
 ·refine Ok.loopW (fun q:Int×ByteArray=>q.1.natAbs≤9223372036854775808∧ ∃k,q.2.size+k≤19∧q.1.natAbs<10^k) (fun q=>q.1.natAbs) ?_ _ _ (by dsimp only;omega) ⟨h,19,by show(0:Nat)+19≤19;omega,by dsimp only;omega⟩
  rintro⟨v2,v3⟩ ⟨h1,k,h2,h3⟩
  dsimp only at h1 h2 h3
  unfold K9
  refine Ok.swn (fun g=>?_) (fun _=>Ok.brk (by dsimp only;omega))
  obtain⟨k,rfl⟩: ∃m,k=m+1:=by
   rcases k with _|m
   ·exfalso
    have:(10:Nat)^0=1:=rfl
    omega
   ·exact⟨m,rfl⟩
  have h4:=ar1 h3
  have h5:(v2.tdiv 10).natAbs<v2.natAbs:=by
   rw [Int.natAbs_tdiv]
   show v2.natAbs/10<_
   omega
  have w:=eO (v2.tdiv 10)
  have w:aX (v2.tdiv 10)=v2.tdiv 10:=w (by omega)
  have fin: ∀u:UInt8,Ok (gd ((bytesStr ([u]:List UInt8)).size+(v3).size≤1099511627776) (some (LR.next ((aX ((v2).tdiv 10)),((bytesStr ([u]:List UInt8))++v3))))) (PL (fun r:ByteArray=>r.size≤21) (fun s'=>(fun q:Int×ByteArray=>q.1.natAbs≤9223372036854775808∧ ∃k,q.2.size+k≤19∧q.1.natAbs<10^k) s'∧(fun q:Int×ByteArray=>q.1.natAbs) s'<(fun q:Int×ByteArray=>q.1.natAbs) (v2,v3)) (fun q:Int×ByteArray=>q.2.size≤20)):=fun u=>by
   have e1:=anK [u]
   have e2: [u].length=1:=rfl
   have e3:=eV (bytesStr [u]) v3
   refine Ok.gdk (by omega) (fun _=>Ok.next ⟨⟨by dsimp only;rw [w];omega,k,by dsimp only;omega,by dsimp only;rw [w];exact h4⟩,by dsimp only;rw [w];exact h5⟩)
  exact Ok.swd (fun _=>fin _) (fun _=>fin _)
 ·rintro⟨v2,v3⟩ hv
  dsimp only at hv
  have:HK.size=1:=rfl
  have:=eV HK v3
  exact Ok.swd (fun _=>Ok.gdk (by omega) (fun _=>Ok.some bP)) (fun _=>Ok.some bP)
def CH(fu:Nat):Prop:= ∀ps:ByteArray,Ok (CU fu ps) (fun r=>r.1.natAbs≤9223372036854775808)
theorem mQ:bQ CH:=mP.imp fun fu k ps=>by
 have rng: ∀E:Int,(aX E).natAbs≤9223372036854775808:=fun E=>by have:=aoZ E;omega
 have fin: ∀v:Int,v.natAbs≤9223372036854775808→Ok (bd (n7 fu v) (fun x18=>sw (!decide (x18=ps)) (some ((0:Int),false)) (some (v,true)))) (fun r=>r.1.natAbs≤9223372036854775808):=fun v hv=>by
  refine Ok.bd (k v hv) ?_;rintro x-
  exact Ok.swn (fun _=>Ok.some (by decide)) (fun _=>Ok.some hv)
 have loop: ∀(f:Nat→Int→Option (LR Int (Int×Bool))) (n:Nat),(∀i s,i<n→Ok (f i s) (PL (fun r:Int×Bool=>r.1.natAbs≤9223372036854775808) (fun v:Int=>v.natAbs≤9223372036854775808) (fun v:Int=>v.natAbs≤9223372036854775808)))→Ok (loopN f (n-0) 0 0) (PS (fun r:Int×Bool=>r.1.natAbs≤9223372036854775808) (fun v:Int=>v.natAbs≤9223372036854775808)):=fun f n hf=>Ok.loop0 (fun _ v=>v.natAbs≤9223372036854775808) (by decide) (fun i s _ h=>h) (fun i s hi _=>hf i s hi)
 unfold CU
 refine Ok.bd (Q:=fun r:Int×Bool=>r.1.natAbs≤9223372036854775808) ?_ (fun r hr=>by obtain⟨a,b⟩:=r;exact Ok.some hr)
 unfold R8
 have hps:((ps.size:Nat):Int)=((ps.size:Nat):Int):=rfl
 refine Ok.swd (fun g=>?_) (fun g=>?_)
 ·refine Ok.gdk (by omega) (fun _=>?_)
  refine Ok.sok (E:=fun _=>True) ?_ ?_
  ·unfold W8
   exact Ok.swd (fun _=>Ok.gdk (by omega) (fun _=>Ok.inr trivial)) (fun _=>Ok.inr trivial)
  rintro v3-
  refine Ok.swd (fun _=>Ok.some (by decide)) (fun _=>?_)
  refine Ok.swd (fun _=>Ok.some (by decide)) (fun _=>?_)
  refine Ok.sok (E:=fun v:Int=>v.natAbs≤9223372036854775808) ?_ ?_
  ·refine loop _ _ (fun i s hi=>?_)
   unfold XA
   refine Ok.gdk hi (fun _=>?_)
   exact Ok.swd (fun _=>Ok.ret (by decide)) (fun _=>Ok.swd (fun _=>Ok.ret (by decide)) (fun _=>Ok.next (rng _)))
  intro v9 hv
  refine Ok.sok (E:=fun v:Int=>v.natAbs≤9223372036854775808) ?_ ?_
  ·unfold W9
   exact Ok.swd (fun _=>Ok.inr (rng _)) (fun _=>Ok.inr hv)
  intro v15 hv
  exact fin v15 hv
 ·refine Ok.swd (fun _=>Ok.some (by decide)) (fun _=>?_)
  refine Ok.swd (fun _=>Ok.some (by decide)) (fun _=>?_)
  refine Ok.sok (E:=fun v:Int=>v.natAbs≤9223372036854775808) ?_ (fun v hv=>fin v hv)
  refine loop _ _ (fun i s hi=>?_)
  unfold XB
  refine Ok.gdk hi (fun _=>?_)
  exact Ok.swd (fun _=>Ok.ret (by decide)) (fun _=>Ok.swd (fun _=>Ok.ret (by decide)) (fun _=>Ok.next (rng _)))
end Go.Proofs.YtfcoaagbccmahaaGreat.W

namespace Go.Proofs.YtfcoaagbccmahaaGreat.W
set_option maxRecDepth 20000
set_option maxHeartbeats 4000000
open Go.RowKit Go.WalkArith Go.IntWalk
attribute [local irreducible] wt wl
def T9(fu:Nat):Prop:= ∀(p0:aB),wt p0≤268435456→Ok (m7 fu p0) (fun r=>wt r≤2*wt p0)
def abG(n:Nat)(m:KC):Prop:= ∀(p0:aB),wt p0<n→wt p0≤268435456→Ok (m p0) (fun r=>wt r≤2*wt p0)
theorem aoO{n fu:Nat}(hfu:2147483648≤fu)(dU:UZ fu)(cW:UY fu){pE:KC}(pF:abG n pE):abG (n+1) (adX fu pE):=by
 intro p0 hm hpre
 have:=aB.wt_eq p0
 have:s_.size=0:=rfl
 refine oN (fun g1=>?_) fun g1=>?_
 ·have:=HY g1
  refine oG fun z2=>?_;refine oD (fun g3=>?_) fun g3=>?_
  ·refine oG fun z4=>?_
   have:=FM p0.aB9 (1:Int).toNat (p0.aB9.size:Int).toNat
   exact oB (dU (p0.aB9.extract (1:Int).toNat (p0.aB9.size:Int).toNat)) fun x6 h5=>oS
  have:=(aW:wl ([]:List aA)=0∧_)
  exact oB (cW p0.aB9 ([]:List aA) bP) fun x8 h6=>oS
 have:=aZ p0.aB6
 refine oD (fun g7=>?_) fun g7=>?_
 ·have:=(aW:wl ([]:List aA)=0∧_)
  have:=aA.wt_mk 0 s_ []
  exact oS
 have:=aZ (p0.aB6)
 refine oG fun z8=>?_
 have:=(aW:wl ([]:List aA)=0∧_)
 refine Ok.sok (E:=fun v13=>wl v13+2*wl (List.take 1 p0.aB6)≤wl ([]:List aA)+2*wl p0.aB6∧(v13.length=0∨wl (List.drop 1 v13)+2*wl (List.take 2 p0.aB6)≤2*wl p0.aB6)) ?_ ?_
 ·refine Ok.loop0 (fun i11 v13=>wl v13+2*wl (List.take 1 p0.aB6)≤wl ([]:List aA)+2*wl (List.take i11 p0.aB6)∧((i11=1∧v13.length=0)∨(2≤i11∧1≤v13.length∧wl (List.drop 1 v13)+2*wl (List.take 2 p0.aB6)≤2*wl (List.take i11 p0.aB6)))) (by exact bP) (by rintro i11 v13-hI;have:=oM p0.aB6 i11;(try dsimp only at hI ⊢);omega) ?_;rintro i11 v13 hl10 hI11
  have:=oO p0.aB6 i11 hl10
  have:=oM p0.aB6 (i11+1)
  have:=cP p0.aB6 i11 hl10
  refine oB (pF (aT p0.aB6 i11) bP bP) fun x17 h12=>?_
  have:=aZ (v13)
  have:=cA x17
  refine oG fun z13=>?_
  have:=b4 v13 ([x17]:List aA)
  have:=aiC v13 x17
  have:=ad5 p0.aB6 2 (i11+1)
  exact Ok.next bP
 intro v13 h9
 have:=cP p0.aB6 0 z8
 have:wl (List.take 1 p0.aB6)=wl (List.take 0 p0.aB6)+wt (aT p0.aB6 0)+1:=LE p0.aB6 0 z8
 have:=aB.wt_eq (aT p0.aB6 0)
 have:jD.size=5:=rfl
 refine oD (fun g14=>?_) fun g14=>?_
 ·have:=congrArg ByteArray.size g14
  have:=aZ v13
  refine oD (fun g15=>?_) fun g15=>?_
  ·refine oG fun z16=>?_
   have:=cP p0.aB6 1 z16
   have:wl (List.take 2 p0.aB6)=wl (List.take 1 p0.aB6)+wt (aT p0.aB6 1)+1:=LE p0.aB6 1 z16
   have:=aB.wt_eq (aT p0.aB6 1)
   refine oN (fun g17=>?_) fun g17=>?_
   ·have:=HY g17
    refine oG fun z18=>?_
    have:=zV v13 1 1
    have:=as1 v13
    have:=aA.wt_mk 3 ((aT p0.aB6 1).aB9) (List.drop (1:Int).toNat (List.take (v13.length:Int).toNat v13))
    exact oS
   have:zM.size=3:=rfl
   refine oD (fun g19=>?_) fun g19=>?_
   ·have:=congrArg ByteArray.size g19
    have:=aA.wt_mk 2 ((aT p0.aB6 0).aB9) v13
    exact oS
   have:=aA.wt_mk 2 ((aT p0.aB6 0).aB9) v13
   exact oS
  have:zM.size=3:=rfl
  refine oD (fun g20=>?_) fun g20=>?_
  ·have:=congrArg ByteArray.size g20
   refine oD (fun g21=>?_) fun g21=>?_
   ·refine oG fun z22=>?_
    have:=cP p0.aB6 1 z22
    have:wl (List.take 2 p0.aB6)=wl (List.take 1 p0.aB6)+wt (aT p0.aB6 1)+1:=LE p0.aB6 1 z22
    have:=aB.wt_eq (aT p0.aB6 1)
    refine oN (fun g23=>?_) fun g23=>?_
    ·have:=HY g23
     have:=aA.wt_mk 4 ((aT p0.aB6 1).aB9) []
     exact oS
    have:=aA.wt_mk 2 ((aT p0.aB6 0).aB9) v13
    exact oS
   have:=aA.wt_mk 2 ((aT p0.aB6 0).aB9) v13
   exact oS
  have:=aA.wt_mk 2 ((aT p0.aB6 0).aB9) v13
  exact oS
 have:zM.size=3:=rfl
 refine oD (fun g24=>?_) fun g24=>?_
 ·have:=congrArg ByteArray.size g24
  have:=aZ v13
  refine oD (fun g25=>?_) fun g25=>?_
  ·refine oG fun z26=>?_
   have:=cP p0.aB6 1 z26
   have:wl (List.take 2 p0.aB6)=wl (List.take 1 p0.aB6)+wt (aT p0.aB6 1)+1:=LE p0.aB6 1 z26
   have:=aB.wt_eq (aT p0.aB6 1)
   refine oN (fun g27=>?_) fun g27=>?_
   ·have:=HY g27
    have:=aA.wt_mk 4 ((aT p0.aB6 1).aB9) []
    exact oS
   have:=aA.wt_mk 2 ((aT p0.aB6 0).aB9) v13
   exact oS
  have:=aA.wt_mk 2 ((aT p0.aB6 0).aB9) v13
  exact oS
 have:=aA.wt_mk 2 ((aT p0.aB6 0).aB9) v13
 exact oS
theorem ap6(n:Nat):bQ fun fu=>abG n (m7 fu):=by
 induction n with
 |zero=>exact .all fun fu=>fun _ h=>absurd h (Nat.not_lt_zero _)
 |succ n ih=>exact bQ.succ ((ih.and (((bQ.ge 2147483648).and dU).and cW)).imp fun fu ⟨h,⟨⟨hfu,dU⟩,cW⟩⟩=>fun p0=>by rw [m7];exact aoO hfu dU cW h p0)
theorem hZ:bQ T9:=(ap6 8589934592).imp fun fu h p0 hpre=>h p0 bP hpre
def DZ(fu:Nat):Prop:= ∀(pn:Int),pn.natAbs≤9223372036854775808→Ok (uF fu pn) (fun r=>wt r=0∧LF r)
theorem fD:bQ DZ:=(bQ.ge 2147483648).imp fun fu hfu pn hpre=>by
 have:s_.size=0:=rfl
 have:=(aW:wl ([]:List aA)=0∧_)
 have:=aA.wt_mk 0 s_ []
 have:=(aW:wl ([]:List aL)=0∧_)
 have:=(aW:wl ([]:List bS)=0∧_)
 have:=aL.wt_mk 1 s_ s_ pn (aA.mk 0 s_ []) [] []
 exact oS2
def D0(fu:Nat):Prop:= ∀(ps:ByteArray),Ok (wR fu ps) (fun r=>wt r=ps.size∧LF r)
theorem fL:bQ D0:=(bQ.ge 2147483648).imp fun fu hfu ps=>by
 have:s_.size=0:=rfl
 have:=(aW:wl ([]:List aA)=0∧_)
 have:=aA.wt_mk 0 s_ []
 have:=(aW:wl ([]:List aL)=0∧_)
 have:=(aW:wl ([]:List bS)=0∧_)
 have:=aL.wt_mk 3 s_ ps 0 (aA.mk 0 s_ []) [] []
 exact oS2
def NP(fu:Nat):Prop:= ∀(pa pb:Int),Ok (rT fu pa pb) (fun r=>(pa≤pb∧r=pa)∨(pb≤pa∧r=pb))
theorem jC:bQ NP:=(bQ.ge 2147483648).imp fun fu hfu pa pb=>by
 exact oD (fun _=>oS) fun g1=>oS
def ahW(fu:Nat):Prop:= ∀(p0:aB),wt p0≤67108864→Ok (gZ fu p0) (fun r=>wt r≤2*wt p0∧LF r)
def AZ(n:Nat)(m:kA):Prop:= ∀(p0:aB),2*wt p0+1<n→wt p0≤67108864→Ok (m p0) (fun r=>wt r≤2*wt p0∧LF r)
def xI(n:Nat)(m:iQ):Prop:= ∀(p4:List aB),2*wl p4<n→wl p4≤67108864→Ok (m p4) (fun r=>wl r≤2*wl p4∧ ∀a∈r,LF a)
def DY(n:Nat)(m:lP):Prop:= ∀(px:aB),2*wt px+1<n→wt px≤67108864→Ok (m px) (fun r=>wt r≤2*wt px∧LF r.aCd)
theorem agS{n fu:Nat}(hfu:2147483648≤fu)(mQ:CH fu)(fD:DZ fu)(fL:D0 fu)(jC:NP fu)(hZ:T9 fu)(iL:FJ fu){p5:kA}(p8:AZ n p5){p3:iQ}(p1:xI n p3){p6:lP}(pA:DY n p6):AZ (n+1) (M0 fu p5 p3 p6):=by
 intro p0 hm hpre
 have:=aB.wt_eq p0
 have:s_.size=0:=rfl
 refine oN (fun g1=>?_) fun g1=>?_
 ·have:=HY g1
  refine wL (mQ p0.aB9) fun x3 x4 h2=>?_
  dsimp only at h2
  refine oC (fun g3=>?_) fun g3=>?_
  ·exact SU (fD x3 bP) fun x7 h4 h4B=>oS2
  have:qM.size=4:=rfl
  refine oD (fun g5=>?_) fun g5=>?_
  ·have:=congrArg ByteArray.size g5
   have:=(aW:wl ([]:List aA)=0∧_)
   have:=aA.wt_mk 0 s_ []
   have:=(aW:wl ([]:List aL)=0∧_)
   have:=(aW:wl ([]:List bS)=0∧_)
   have:=aL.wt_mk 2 s_ s_ 1 (aA.mk 0 s_ []) [] []
   exact oS2
  have:l8.size=5:=rfl
  refine oD (fun g6=>?_) fun g6=>?_
  ·have:=congrArg ByteArray.size g6
   have:=(aW:wl ([]:List aA)=0∧_)
   have:=aA.wt_mk 0 s_ []
   have:=(aW:wl ([]:List aL)=0∧_)
   have:=(aW:wl ([]:List bS)=0∧_)
   have:=aL.wt_mk 2 s_ s_ 0 (aA.mk 0 s_ []) [] []
   exact oS2
  exact SU (fL p0.aB9) fun x11 h7 h7B=>oS2
 have:=(aW:wl ([]:List aB)=0∧_)
 have:=aZ (p0.aB6)
 refine oG fun z8=>?_
 have:=b4 ([]:List aB) p0.aB6
 have:=aB.wt_mk s_ []
 have:=F0 (aB.mk s_ []) (aB.mk s_ []) (aB.mk s_ [])
 refine oG fun z9=>?_
 have:=b4 (([])++p0.aB6) ([(aB.mk s_ []),(aB.mk s_ []),(aB.mk s_ [])]:List aB)
 refine oG fun z10=>?_
 have:=aiV p0.aB6 (aB.mk s_ []) (aB.mk s_ []) (aB.mk s_ []) 1 2 rfl
 refine Ok.lt fun y15 h11=>?_
 have:=congrArg wt h11
 refine oG fun z12=>?_
 have:=aiV p0.aB6 (aB.mk s_ []) (aB.mk s_ []) (aB.mk s_ []) 0 1 rfl
 refine Ok.lt fun y18 h13=>?_
 have:=congrArg wt h13
 have:=aB.wt_eq y18
 have:RY.size=4:=rfl
 refine oD (fun g14=>?_) fun g14=>?_
 ·have:=congrArg ByteArray.size g14
  have:=aZ p0.aB6
  refine oB (jC 2 (p0.aB6.length:Int)) fun x22 h15=>oG fun z16=>?_
  have:=zV p0.aB6 x22 2
  refine SU (p1 (List.drop (x22:Int).toNat (List.take (p0.aB6.length:Int).toNat p0.aB6)) bP bP) fun x25 h17 h17B=>?_
  have:=aB.wt_eq y15
  have:=(aW:wl ([]:List aA)=0∧_)
  have:=aA.wt_mk 0 s_ []
  have:=(aW:wl ([]:List bS)=0∧_)
  have:=aL.wt_mk 4 s_ y15.aB9 0 (aA.mk 0 s_ []) x25 []
  exact oS2
 have:o7.size=6:=rfl
 refine oD (fun g18=>?_) fun g18=>?_
 ·have:=congrArg ByteArray.size g18
  refine oG fun z19=>?_
  have:=aiV p0.aB6 (aB.mk s_ []) (aB.mk s_ []) (aB.mk s_ []) 2 3 rfl
  refine Ok.lt fun y28 h20=>?_
  have:=congrArg wt h20
  have:=aZ p0.aB6
  refine oB (jC 3 (p0.aB6.length:Int)) fun x31 h21=>oG fun z22=>?_
  have:=zV p0.aB6 x31 3
  refine SU (p1 (List.drop (x31:Int).toNat (List.take (p0.aB6.length:Int).toNat p0.aB6)) bP bP) fun x34 h23 h23B=>?_
  have:=aB.wt_eq y15
  have:=aB.wt_eq y28
  have:=(aW:wl ([]:List aA)=0∧_)
  have:=aA.wt_mk 0 s_ []
  have:=(aW:wl ([]:List bS)=0∧_)
  have:=aL.wt_mk 5 y15.aB9 y28.aB9 0 (aA.mk 0 s_ []) x34 []
  exact oS2
 have:G6.size=3:=rfl
 refine oD (fun g24=>?_) fun g24=>?_
 ·have:=congrArg ByteArray.size g24
  have:=aZ p0.aB6
  refine oB (jC 2 (p0.aB6.length:Int)) fun x37 h25=>oG fun z26=>?_
  have:=zV p0.aB6 x37 2
  refine SU (p1 (List.drop (x37:Int).toNat (List.take (p0.aB6.length:Int).toNat p0.aB6)) bP bP) fun x40 h27 h27B=>?_
  have:=aB.wt_eq y15
  have:=(aW:wl ([]:List aA)=0∧_)
  have:=aA.wt_mk 0 s_ []
  have:=(aW:wl ([]:List bS)=0∧_)
  have:=aL.wt_mk 6 s_ y15.aB9 0 (aA.mk 0 s_ []) x40 []
  exact oS2
 have:G5.size=3:=rfl
 refine oD (fun g28=>?_) fun g28=>?_
 ·have:=congrArg ByteArray.size g28
  have:=aZ p0.aB6
  refine oB (jC 2 (p0.aB6.length:Int)) fun x43 h29=>oG fun z30=>?_
  have:=zV p0.aB6 x43 2
  refine SU (p1 (List.drop (x43:Int).toNat (List.take (p0.aB6.length:Int).toNat p0.aB6)) bP bP) fun x46 h31 h31B=>?_
  have:=aB.wt_eq y15
  have:=(aW:wl ([]:List aA)=0∧_)
  have:=aA.wt_mk 0 s_ []
  have:=(aW:wl ([]:List bS)=0∧_)
  have:=aL.wt_mk 8 s_ y15.aB9 0 (aA.mk 0 s_ []) x46 []
  exact oS2
 have:GC.size=2:=rfl
 refine oD (fun g32=>?_) fun g32=>?_
 ·have:=congrArg ByteArray.size g32
  have:=aZ p0.aB6
  refine oG fun z33=>?_
  have:=zV p0.aB6 1 1
  refine SU (p1 (List.drop (1:Int).toNat (List.take (p0.aB6.length:Int).toNat p0.aB6)) bP bP) fun x50 h34 h34B=>?_
  have:=(aW:wl ([]:List aA)=0∧_)
  have:=aA.wt_mk 0 s_ []
  have:=(aW:wl ([]:List bS)=0∧_)
  have:=aL.wt_mk 9 s_ s_ 0 (aA.mk 0 s_ []) x50 []
  exact oS2
 have:zB.size=4:=rfl
 refine oD (fun g35=>?_) fun g35=>?_
 ·have:=congrArg ByteArray.size g35
  have:=aZ p0.aB6
  refine oB (jC 2 (p0.aB6.length:Int)) fun x53 h36=>oG fun z37=>?_
  have:=zV p0.aB6 x53 2
  refine SU (p1 (List.drop (x53:Int).toNat (List.take (p0.aB6.length:Int).toNat p0.aB6)) bP bP) fun x56 h38 h38B=>?_
  have:=aB.wt_eq y15
  have:=(aW:wl ([]:List aA)=0∧_)
  have:=aA.wt_mk 0 s_ []
  have:=(aW:wl ([]:List bS)=0∧_)
  have:=aL.wt_mk 11 y15.aB9 s_ 0 (aA.mk 0 s_ []) x56 []
  exact oS2
 have:aaV.size=3:=rfl
 refine oD (fun g39=>?_) fun g39=>?_
 ·have:=congrArg ByteArray.size g39
  refine oB (hZ y15 bP) fun x59 h40=>?_
  have:=aZ p0.aB6
  refine oB (jC 2 (p0.aB6.length:Int)) fun x61 h41=>oG fun z42=>?_
  have:=zV p0.aB6 x61 2
  refine SU (p1 (List.drop (x61:Int).toNat (List.take (p0.aB6.length:Int).toNat p0.aB6)) bP bP) fun x64 h43 h43B=>?_
  have:=(aW:wl ([]:List bS)=0∧_)
  have:=aL.wt_mk 12 s_ s_ 0 x59 x64 []
  exact oS2
 have:zA.size=4:=rfl
 refine oD (fun g44=>?_) fun g44=>?_
 ·have:=congrArg ByteArray.size g44
  have:=aZ p0.aB6
  refine oB (jC 2 (p0.aB6.length:Int)) fun x67 h45=>oG fun z46=>?_
  have:=apT p0.aB6 x67
  refine SU (p1 (List.drop (1:Int).toNat (List.take (x67:Int).toNat p0.aB6)) bP bP) fun x70 h47 h47B=>?_
  have:=(aW:wl ([]:List bS)=0∧_)
  refine apN (PA:=fun a=>LF a.aCd) p0.aB6 2 (fun i71 v73 hl49 hI50 hI50B _ _=>?_) ?_
  ·have:=cP p0.aB6 i71 hl49
   refine SU (pA (aT p0.aB6 i71) bP bP) fun x77 h51 h51B=>?_
   have:=aZ (v73)
   have:=cA x77
   refine oG fun z52=>?_
   have:=b4 v73 ([x77]:List bS)
   exact oX hI50B
  rintro v73 ⟨h48,h48B⟩
  have:=(aW:wl ([]:List aA)=0∧_)
  have:=aA.wt_mk 0 s_ []
  have:=aL.wt_mk 7 s_ s_ 0 (aA.mk 0 s_ []) x70 v73
  exact oS2
 have:=aZ p0.aB6
 refine oB (jC 1 (p0.aB6.length:Int)) fun x80 h53=>oG fun z54=>?_
 have:=zV p0.aB6 x80 1
 refine SU (p1 (List.drop (x80:Int).toNat (List.take (p0.aB6.length:Int).toNat p0.aB6)) bP bP) fun x83 h55 h55B=>?_
 have:=(aW:wl ([]:List aA)=0∧_)
 have:=aA.wt_mk 0 s_ []
 have:=(aW:wl ([]:List bS)=0∧_)
 have:=aL.wt_mk 10 s_ y18.aB9 0 (aA.mk 0 s_ []) x83 []
 exact oS2
theorem acY{n fu:Nat}(hfu:2147483648≤fu)(mQ:CH fu)(fD:DZ fu)(fL:D0 fu)(jC:NP fu)(hZ:T9 fu)(iL:FJ fu){p5:kA}(p8:AZ n p5){p3:iQ}(p1:xI n p3){p6:lP}(pA:DY n p6):xI (n+1) (IU fu p5 p3 p6):=by
 intro p4 hm hpre
 have:=(aW:wl ([]:List aL)=0∧_)
 refine apN (PA:=fun a=>LF a) p4 2 (fun i1 v3 hl2 hI3 hI3B _ _=>?_) ?_
 ·have:=aZ p4
  have:=cP p4 i1 hl2
  refine SU (p8 (aT p4 i1) bP bP) fun x7 h4 h4B=>?_
  have:=aZ (v3)
  have:=cA x7
  refine oG fun z5=>?_
  have:=b4 v3 ([x7]:List aL)
  exact oX hI3B
 rintro v3 ⟨h1,h1B⟩
 exact oS2
theorem ajE{n fu:Nat}(hfu:2147483648≤fu)(mQ:CH fu)(fD:DZ fu)(fL:D0 fu)(jC:NP fu)(hZ:T9 fu)(iL:FJ fu){p5:kA}(p8:AZ n p5){p3:iQ}(p1:xI n p3){p6:lP}(pA:DY n p6):DY (n+1) (R2 fu p5 p3 p6):=by
 intro px hm hpre
 have:=aB.wt_eq px
 have:=aZ px.aB6
 refine oD (fun g1=>?_) fun g1=>?_
 ·have:s_.size=0:=rfl
  have:=(aW:wl ([]:List aA)=0∧_)
  have:=aA.wt_mk 0 s_ []
  have:=(aW:wl ([]:List aL)=0∧_)
  have:=(aW:wl ([]:List bS)=0∧_)
  have:=aL.wt_mk 0 s_ s_ 0 (aA.mk 0 s_ []) [] []
  have:=(aW:wl ([]:LB)=0∧_)
  have:=bS.wt_mk s_ [] (aL.mk 0 s_ s_ 0 (aA.mk 0 s_ []) [] [])
  exact oS2
 have:=eO ((px.aB6.length:Int)-1)
 refine oG fun z2=>?_
 have:=UO (1:Int).toNat (aX ((px.aB6.length:Int)-1):Int).toNat px.aB6
 have:=arN px.aB6 (aX ((px.aB6.length:Int)-1):Int).toNat
 have:=LE px.aB6 (aX ((px.aB6.length:Int)-1):Int).toNat
 have:=oM px.aB6 ((aX ((px.aB6.length:Int)-1):Int).toNat+1)
 refine wL (iL (List.drop (1:Int).toNat (List.take (aX ((px.aB6.length:Int)-1):Int).toNat px.aB6)) bP) fun x4 x5 h3=>?_
 dsimp only at h3
 have:=aZ (px.aB6)
 refine oG fun z4=>oG fun z5=>?_
 have:=cP px.aB6 ((aX ((px.aB6.length:Int)-1)).toNat) z5.2
 refine Ok.lt fun y8 h6=>?_
 have:=congrArg wt h6
 refine SU (p8 y8 bP bP) fun x11 h7 h7B=>?_
 have:=cP px.aB6 0 z4
 have:wl (List.take 1 px.aB6)=wl (List.take 0 px.aB6)+wt (aT px.aB6 0)+1:=LE px.aB6 0 z4
 have:=aB.wt_eq (aT px.aB6 0)
 have:=bS.wt_mk ((aT px.aB6 0).aB9) x4 x11
 exact oS2
theorem ajF(n:Nat):bQ fun fu=>AZ n (gZ fu)∧xI n (kR fu)∧DY n (nQ fu):=by
 induction n with
 |zero=>exact .all fun fu=>⟨fun _ h=>absurd h (Nat.not_lt_zero _),fun _ h=>absurd h (Nat.not_lt_zero _),fun _ h=>absurd h (Nat.not_lt_zero _)⟩
 |succ n ih=>exact bQ.succ ((ih.and (((((((bQ.ge 2147483648).and mQ).and fD).and fL).and jC).and hZ).and iL)).imp fun fu ⟨h,⟨⟨⟨⟨⟨⟨hfu,mQ⟩,fD⟩,fL⟩,jC⟩,hZ⟩,iL⟩⟩=>⟨fun p0=>by rw [gZ];exact agS hfu mQ fD fL jC hZ iL h.1 h.2.1 h.2.2 p0,fun p4=>by rw [kR];exact acY hfu mQ fD fL jC hZ iL h.1 h.2.1 h.2.2 p4,fun px=>by rw [nQ];exact ajE hfu mQ fD fL jC hZ iL h.1 h.2.1 h.2.2 px⟩)
theorem n0:bQ ahW:=(ajF 8589934592).imp fun fu h p0 hpre=>h.1 p0 bP hpre
def am7(fu:Nat):Prop:= ∀(p0:aL),wt p0≤2097152→(LF p0)→Ok (mZ fu p0) (fun r=>wt r+8≤32*(wt p0+1))
def NL(n:Nat)(m:tD):Prop:= ∀(p0:aL),2*wt p0+1<n→wt p0≤2097152→(LF p0)→Ok (m p0) (fun r=>wt r+8≤32*(wt p0+1))
def FH(n:Nat)(m:nD):Prop:= ∀(pD:List aB) (p4:List aL),2*wl p4<n→wl pD≤33554432∧wl p4≤2097152→(∀a∈p4,LF a)→Ok (m pD p4) (fun r=>wt r≤wl pD+32*wl p4)
theorem amP{n fu:Nat}(hfu:2147483648≤fu)(mP:FI fu)(bN:JB fu)(iW:abL fu)(m9:LV fu){p9:tD}(pC:NL n p9){p7:nD}(p2:FH n p7):NL (n+1) (W0 fu p9 p7):=by
 intro p0 hm hpre hB
 have hN:=hB.num
 have:=aL.wt_eq p0
 refine oD (fun g1=>?_) fun g1=>?_
 ·exact oB (mP p0.aCL bP) fun x3 h2=>oB (bN x3) fun x5 h3=>oS
 refine oD (fun g4=>?_) fun g4=>?_
 ·have:l8.size=5:=rfl
  have:qM.size=4:=rfl
  have:=kM l8 qM
  have:=bA l8
  have:=bA qM
  refine oG fun z5=>?_
  have:=cP ([l8,qM]:LB) ((p0.aCL).toNat) z5.2
  have:=bA (aT ([l8,qM]:LB) ((p0.aCL).toNat))
  exact oB (bN (aT ([l8,qM]:LB) ((p0.aCL).toNat))) fun x9 h6=>oS
 refine oD (fun g7=>?_) fun g7=>?_
 ·exact oB (bN p0.aB3) fun x12 h8=>oS
 refine oD (fun g9=>?_) fun g9=>?_
 ·have:RY.size=4:=rfl
  refine oB (bN RY) fun x15 h10=>oB (bN p0.aB3) fun x17 h11=>?_
  have:=kM x15 x17
  refine oB (p2 ([x15,x17]:List aB) p0.aB4 bP bP (by exact hB.arg)) fun x19 h12=>?_
  have:=aB.wt_eq x19
  have:=aB.wt_mk x19.aB9 x19.aB6
  exact oS
 refine oD (fun g13=>?_) fun g13=>?_
 ·have:o7.size=6:=rfl
  refine oB (bN o7) fun x22 h14=>oB (bN p0.aCa) fun x24 h15=>oB (bN p0.aB3) fun x26 h16=>?_
  have:=F0 x22 x24 x26
  refine oB (p2 ([x22,x24,x26]:List aB) p0.aB4 bP bP (by exact hB.arg)) fun x28 h17=>?_
  have:=aB.wt_eq x28
  have:=aB.wt_mk x28.aB9 x28.aB6
  exact oS
 refine oD (fun g18=>?_) fun g18=>?_
 ·have:G6.size=3:=rfl
  refine oB (bN G6) fun x31 h19=>oB (bN p0.aB3) fun x33 h20=>?_
  have:=kM x31 x33
  refine oB (p2 ([x31,x33]:List aB) p0.aB4 bP bP (by exact hB.arg)) fun x35 h21=>?_
  have:=aB.wt_eq x35
  have:=aB.wt_mk x35.aB9 x35.aB6
  exact oS
 refine oD (fun g22=>?_) fun g22=>?_
 ·have:G5.size=3:=rfl
  refine oB (bN G5) fun x38 h23=>oB (bN p0.aB3) fun x40 h24=>?_
  have:=kM x38 x40
  refine oB (p2 ([x38,x40]:List aB) p0.aB4 bP bP (by exact hB.arg)) fun x42 h25=>?_
  have:=aB.wt_eq x42
  have:=aB.wt_mk x42.aB9 x42.aB6
  exact oS
 refine oD (fun g26=>?_) fun g26=>?_
 ·have:GC.size=2:=rfl
  refine oB (bN GC) fun x45 h27=>?_
  have:=cA x45
  refine oB (p2 ([x45]:List aB) p0.aB4 bP bP (by exact hB.arg)) fun x47 h28=>?_
  have:=aB.wt_eq x47
  have:=aB.wt_mk x47.aB9 x47.aB6
  exact oS
 refine oD (fun g29=>?_) fun g29=>?_
 ·refine oB (bN p0.aB3) fun x50 h30=>?_
  have:=cA x50
  refine oB (p2 ([x50]:List aB) p0.aB4 bP bP (by exact hB.arg)) fun x52 h31=>?_
  have:=aB.wt_eq x52
  have:=aB.wt_mk x52.aB9 x52.aB6
  exact oS
 refine oD (fun g32=>?_) fun g32=>?_
 ·have:zB.size=4:=rfl
  refine oB (bN zB) fun x55 h33=>oB (bN p0.aCa) fun x57 h34=>?_
  have:=kM x55 x57
  refine oB (p2 ([x55,x57]:List aB) p0.aB4 bP bP (by exact hB.arg)) fun x59 h35=>?_
  have:=aB.wt_eq x59
  have:=aB.wt_mk x59.aB9 x59.aB6
  exact oS
 refine oD (fun g36=>?_) fun g36=>?_
 ·have:aaV.size=3:=rfl
  refine oB (bN aaV) fun x62 h37=>oB (iW p0.aB7 bP) fun x64 h38=>?_
  have:=kM x62 x64
  refine oB (p2 ([x62,x64]:List aB) p0.aB4 bP bP (by exact hB.arg)) fun x66 h39=>?_
  have:=aB.wt_eq x66
  have:=aB.wt_mk x66.aB9 x66.aB6
  exact oS
 have:zA.size=4:=rfl
 refine oB (bN zA) fun x68 h40=>?_
 have:=cA x68
 refine oB (p2 ([x68]:List aB) p0.aB4 bP bP (by exact hB.arg)) fun x70 h41=>?_
 have:=aB.wt_eq x70
 refine Q5 p0.aCo 32 (fun i71 v73 hl43 hI44 _ _=>?_) ?_
 ·have:=aZ p0.aCo
  have:=cP p0.aCo i71 hl43
  refine Ok.lt fun y76 h45=>?_
  have:=congrArg wt h45
  have:=bS.wt_eq y76
  refine oB (bN y76.aCs) fun x79 h46=>oB (m9 y76.aCg bP) fun x81 h47=>?_
  have:=cA x79
  have:=aZ (x81)
  refine oG fun z48=>oB (pC y76.aCd bP bP (by rw [show y76=aT p0.aCo i71 by assumption];exact abO hB.arm (by assumption))) fun x84 h49=>?_
  have:=b4 ([x79]:List aB) x81
  have:=cA x84
  refine oG fun z50=>?_
  have:=aZ (v73)
  have:s_.size=0:=rfl
  have:=b4 (([x79]:List aB)++x81) ([x84]:List aB)
  have:=aB.wt_mk s_ ((([x79]:List aB)++x81)++([x84]:List aB))
  have:=cA (aB.mk s_ ((([x79]:List aB)++x81)++([x84]:List aB)))
  refine oG fun z51=>?_
  have:=b4 v73 ([(aB.mk s_ ((([x79]:List aB)++x81)++([x84]:List aB)))]:List aB)
  exact nT
 intro v73 h42
 have:=aB.wt_mk x70.aB9 v73
 exact oS
theorem agQ{n fu:Nat}(hfu:2147483648≤fu)(mP:FI fu)(bN:JB fu)(iW:abL fu)(m9:LV fu){p9:tD}(pC:NL n p9){p7:nD}(p2:FH n p7):FH (n+1) (MZ fu p9 p7):=by
 intro pD p4 hm hpre hB
 refine Q5 p4 32 (fun i1 v3 hl2 hI3 _ _=>?_) ?_
 ·have:=aZ p4
  have:=cP p4 i1 hl2
  refine Ok.lt fun y6 h4=>?_
  have:=congrArg wt h4
  refine oB (pC y6 bP bP (by rw [show y6=aT p4 i1 by assumption];exact abO hB (by assumption))) fun x9 h5=>?_
  have:=aZ (v3)
  have:=cA x9
  refine oG fun z6=>?_
  have:=b4 v3 ([x9]:List aB)
  exact nT
 intro v3 h1
 have:s_.size=0:=rfl
 have:=aB.wt_mk s_ v3
 exact oS
theorem aoH(n:Nat):bQ fun fu=>NL n (mZ fu)∧FH n (oA fu):=by
 induction n with
 |zero=>exact .all fun fu=>⟨fun _ h=>absurd h (Nat.not_lt_zero _),fun _ _ h=>absurd h (Nat.not_lt_zero _)⟩
 |succ n ih=>exact bQ.succ ((ih.and (((((bQ.ge 2147483648).and mP).and bN).and iW).and m9)).imp fun fu ⟨h,⟨⟨⟨⟨hfu,mP⟩,bN⟩,iW⟩,m9⟩⟩=>⟨fun p0=>by rw [mZ];exact amP hfu mP bN iW m9 h.1 h.2 p0,fun pD p4=>by rw [oA];exact agQ hfu mP bN iW m9 h.1 h.2 pD p4⟩)
theorem u4:bQ am7:=(aoH 8589934592).imp fun fu h p0 hpre hB=>h.1 p0 bP hpre hB
end Go.Proofs.YtfcoaagbccmahaaGreat.W

namespace Go.Proofs.YtfcoaagbccmahaaGreat.W
set_option maxRecDepth 20000
set_option maxHeartbeats 4000000
open Go.RowKit Go.WalkArith Go.IntWalk
attribute [local irreducible] wt wl
def ahV(fu:Nat):Prop:= ∀(pe:aL) (p7:Int),wt pe≤1073741824→Ok (nC fu pe p7) (fun _=>True)
def LJ(n:Nat)(m:t4):Prop:= ∀(pe:aL) (p7:Int),wt pe<n→wt pe≤1073741824→Ok (m pe p7) (fun _=>True)
theorem agM{n fu:Nat}(hfu:2147483648≤fu){p8:t4}(p9:LJ n p8):LJ (n+1) (MX fu p8):=by
 intro pe p7 hm hpre
 refine oEN (fun i1 v2 hl2=>?_) ?_
 ·have:=aL.wt_eq pe
  have:=aZ pe.aB4
  refine oD (fun g4=>?_) fun g4=>?_
  ·have:=cP pe.aB4 i1 hl2
   refine Ok.lt fun y6 h5=>?_
   have:=congrArg wt h5
   exact oB (p9 y6 v2 bP bP) fun x9 _=>nT
  exact oK
 intro v2 _
 refine oEN (fun i10 v11 hl8=>?_) ?_
 ·have:=aL.wt_eq pe
  have:=aZ pe.aCo
  refine oD (fun g10=>?_) fun g10=>?_
  ·have:=cP pe.aCo i10 hl8
   refine Ok.lt fun y15 h11=>?_
   have:=congrArg wt h11
   have:=bS.wt_eq y15
   exact oB (p9 y15.aCd v11 bP bP) fun x18 _=>nT
  exact oK
 intro v11 _
 exact oS
theorem ajD(n:Nat):bQ fun fu=>LJ n (nC fu):=by
 induction n with
 |zero=>exact .all fun fu=>fun _ _ h=>absurd h (Nat.not_lt_zero _)
 |succ n ih=>exact bQ.succ ((ih.and (bQ.ge 2147483648)).imp fun fu ⟨h,hfu⟩=>fun pe p7=>by rw [nC];exact agM hfu h pe p7)
theorem MD:bQ ahV:=(ajD 8589934592).imp fun fu h pe p7 hpre=>h pe p7 bP hpre
def ZU(fu:Nat):Prop:= ∀(pk:Int),Ok (R1 fu pk) (fun _=>True)
theorem EQ:bQ ZU:=(bQ.ge 2147483648).imp fun fu hfu pk=>by
 refine G8 ?_ ?_
 ·exact oD (fun _=>oI) fun g2=>oI
 intro v1 _
 refine oC (fun _=>oS) fun g3=>oD (fun _=>oS) fun g4=>?_;refine G8 ?_ ?_
 ·exact oD (fun _=>oI) fun g6=>oI
 intro v5 _
 refine oC (fun _=>oS) fun g7=>oD (fun _=>oS) fun g8=>oD (fun _=>oS) fun g9=>?_;refine G8 ?_ ?_
 ·exact oD (fun _=>oI) fun g11=>oI
 intro v10 _
 exact oC (fun _=>oS) fun g12=>oD (fun _=>oS) fun g13=>oD (fun _=>oS) fun g14=>oS
def UT(fu:Nat):Prop:= ∀(ps:ByteArray),Ok (MY fu ps) (fun _=>True)
theorem BG:bQ UT:=((bQ.ge 2147483648).and dT).imp fun fu ⟨hfu,dT⟩ ps=>by
 have:CE.size=1:=rfl
 have:HK.size=1:=rfl
 have:PM.size=1:=rfl
 have:PN.size=1:=rfl
 have:PO.size=1:=rfl
 have:=asT CE HK PM PN PO
 have:=bA CE
 have:=bA HK
 have:=bA PM
 have:=bA PN
 have:=bA PO
 exact oB (dT ([CE,HK,PM,PN,PO]:LB) ps) fun x2 _=>oS
def UU(fu:Nat):Prop:= ∀(pt:aA),Ok (n9 fu pt) (fun _=>True)
theorem lV:bQ UU:=(bQ.ge 2147483648).imp fun fu hfu pt=>by
 refine oD (fun g1=>?_) fun g1=>?_
 ·exact oD (fun _=>oS) fun g2=>oS
 exact oS
def ahT(fu:Nat):Prop:= ∀(p0:aL),wt p0≤1073741824→Ok (nA fu p0) (fun _=>True)
def LH(n:Nat)(m:l0):Prop:= ∀(p0:aL),wt p0<n→wt p0≤1073741824→Ok (m p0) (fun _=>True)
theorem agD{n fu:Nat}(hfu:2147483648≤fu)(EQ:ZU fu)(sC:akJ fu)(bL:A0 fu)(BG:UT fu)(eJ:HU fu)(lV:UU fu)(rM:UX fu)(eI:HN fu){pA:l0}(pC:LH n pA):LH (n+1) (MV fu pA):=by
 intro p0 hm hpre
 have:=aL.wt_eq p0
 refine oB6 (EQ p0.aB5) fun x2 x3 x4 x5 x6 x7 _=>?_;refine G8 ?_ ?_
 ·refine oB (sC p0.aB5 1 12) fun x9 _=>oW (fun _=>oL) fun g4=>oB (bL p0.aCa) fun x12 _=>oN (fun _=>oL) fun g6=>?_;refine oW (fun g7=>?_) fun g7=>?_
  ·refine oN (fun _=>oL) fun g8=>?_;refine oW (fun g9=>?_) fun g9=>?_
   ·exact oN (fun _=>oL) fun g10=>oN (fun _=>oL) fun g11=>oI
   exact oN (fun _=>oL) fun g12=>oI
  refine oW (fun g13=>?_) fun g13=>?_
  ·exact oN (fun _=>oL) fun g14=>oN (fun _=>oL) fun g15=>oI
  exact oN (fun _=>oL) fun g16=>oI
 rintro⟨⟩-
 refine G8 ?_ ?_
 ·refine oD (fun g18=>?_) fun g18=>?_
  ·refine oB (BG p0.aB3) fun x26 _=>oW (fun _=>oL) fun g20=>?_;refine oN (fun g21=>?_) fun g21=>?_
   ·refine oB (bL p0.aB3) fun x30 _=>oN (fun _=>oL) fun g23=>?_;refine oW (fun g24=>?_) fun g24=>?_
    ·exact oN (fun _=>oL) fun g25=>oI
    exact oI
   exact oI
  refine oN (fun g26=>?_) fun g26=>?_
  ·refine oB (bL p0.aB3) fun x36 _=>oN (fun _=>oL) fun g28=>?_;refine oW (fun g29=>?_) fun g29=>?_
   ·exact oN (fun _=>oL) fun g30=>oI
   exact oI
  exact oI
 rintro⟨⟩-
 refine G8 ?_ ?_
 ·refine oD (fun g32=>?_) fun g32=>?_
  ·have:=aZ p0.aB4
   refine oN (fun _=>oL) fun g33=>?_;refine oD (fun g34=>?_) fun g34=>?_
   ·refine oD (fun _=>oL) fun g35=>?_;refine oC (fun g36=>?_) fun g36=>?_
    ·exact oB (eJ p0.aB7 bP) fun x46 _=>oW (fun _=>oL) fun g38=>oI
    exact oB (lV p0.aB7) fun x49 _=>oW (fun _=>oL) fun g40=>oI
   refine oC (fun g41=>?_) fun g41=>?_
   ·exact oB (eJ p0.aB7 bP) fun x53 _=>oW (fun _=>oL) fun g43=>oI
   exact oB (lV p0.aB7) fun x56 _=>oW (fun _=>oL) fun g45=>oI
  refine oD (fun g46=>?_) fun g46=>?_
  ·have:=aZ p0.aB4
   refine oD (fun _=>oL) fun g47=>?_;refine oC (fun g48=>?_) fun g48=>?_
   ·exact oB (eJ p0.aB7 bP) fun x62 _=>oW (fun _=>oL) fun g50=>oI
   exact oB (lV p0.aB7) fun x65 _=>oW (fun _=>oL) fun g52=>oI
  refine oC (fun g53=>?_) fun g53=>?_
  ·exact oB (eJ p0.aB7 bP) fun x69 _=>oW (fun _=>oL) fun g55=>oI
  exact oB (lV p0.aB7) fun x72 _=>oW (fun _=>oL) fun g57=>oI
 rintro⟨⟩-
 refine G8 ?_ ?_
 ·refine oD (fun g59=>?_) fun g59=>?_
  ·exact oB (sC p0.aCL (-999999) 999999) fun x76 _=>oW (fun _=>oL) fun g61=>oI
  refine oD (fun g62=>?_) fun g62=>?_
  ·exact oB (sC p0.aCL 0 1) fun x80 _=>oW (fun _=>oL) fun g64=>oI
  exact oI
 rintro⟨⟩-
 refine G8 ?_ ?_
 ·refine Ok.loop1 ?_;rintro i82 ⟨⟩ hl66
  have:=aZ p0.aB4
  have:=cP p0.aB4 i82 hl66
  refine Ok.lt fun y85 h68=>?_
  have:=congrArg wt h68
  exact oB (pC y85 bP bP) fun x88 _=>oW (fun _=>oR) fun g70=>nT
 rintro⟨⟩-
 refine G8 ?_ ?_
 ·refine Ok.loop1 ?_;rintro i90 ⟨⟩ hl72
  have:=aZ p0.aCo
  have:=cP p0.aCo i90 hl72
  refine Ok.lt fun y93 h74=>?_
  have:=congrArg wt h74
  have:=bS.wt_eq y93
  exact oB (bL y93.aCs) fun x96 _=>oW (fun _=>oR) fun g76=>oB (rM y93.aCg) fun x99 _=>oW (fun _=>oR) fun g78=>oB (eI y93.aCg) fun x102 _=>oW (fun _=>oR) fun g80=>oB (pC y93.aCd bP bP) fun x105 _=>oW (fun _=>oR) fun g82=>nT
 rintro⟨⟩-
 exact oS
theorem ai7(n:Nat):bQ fun fu=>LH n (nA fu):=by
 induction n with
 |zero=>exact .all fun fu=>fun _ h=>absurd h (Nat.not_lt_zero _)
 |succ n ih=>exact bQ.succ ((ih.and (((((((((bQ.ge 2147483648).and EQ).and sC).and bL).and BG).and eJ).and lV).and rM).and eI)).imp fun fu ⟨h,⟨⟨⟨⟨⟨⟨⟨⟨hfu,EQ⟩,sC⟩,bL⟩,BG⟩,eJ⟩,lV⟩,rM⟩,eI⟩⟩=>fun p0=>by rw [nA];exact agD hfu EQ sC bL BG eJ lV rM eI h p0)
theorem MB:bQ ahT:=(ai7 8589934592).imp fun fu h p0 hpre=>h p0 bP hpre
def US(fu:Nat):Prop:= ∀(pe:aL),wt pe≤1073741824→Ok (BN fu pe) (fun _=>True)
theorem BF:bQ US:=(((bQ.ge 2147483648).and MD).and MB).imp fun fu ⟨⟨hfu,MD⟩,MB⟩ pe hpre=>by
 refine oB (MD pe 300 bP) fun x2 _=>?_;refine oD (fun g2=>?_) fun g2=>?_
 ·exact oB (MB pe bP) fun x5 _=>oS
 exact oS
def SL(fu:Nat):Prop:= ∀(pa pb:LB),Ok (IS fu pa pb) (fun _=>True)
theorem xR:bQ SL:=(bQ.ge 2147483648).imp fun fu hfu pa pb=>by
 have:=aZ pa
 have:=aZ pb
 refine oN (fun _=>oS) fun g1=>?_;refine G8 ?_ ?_
 ·refine Ok.loop1 ?_;rintro i2 ⟨⟩ hl3
  have:=aZ (pb)
  exact oG fun z5=>oN (fun _=>oR) fun g6=>nT
 rintro⟨⟩-
 exact oS
def abH(fu:Nat):Prop:= ∀(p0 p4:aL),wt p0≤536870912→Ok (kF fu p0 p4) (fun _=>True)
def FF(n:Nat)(m:n6):Prop:= ∀(p0 p4:aL),wt p0<n→wt p0≤536870912→Ok (m p0 p4) (fun _=>True)
theorem YV{n fu:Nat}(hfu:2147483648≤fu)(uY:NM fu)(xR:SL fu){p5:n6}(p6:FF n p5):FF (n+1) (F8 fu p5):=by
 intro p0 p4 hm hpre
 have:=aL.wt_eq p0
 have:=aL.wt_eq p4
 refine oN (fun _=>oS) fun g1=>oN (fun _=>oS) fun g2=>oN (fun _=>oS) fun g3=>oN (fun _=>oS) fun g4=>oB (uY p0.aB7 p4.aB7 bP) fun x6 _=>oW (fun _=>oS) fun g6=>?_
 have:=aZ p0.aB4
 have:=aZ p4.aB4
 refine oN (fun _=>oS) fun g7=>?_
 have:=aZ p0.aCo
 have:=aZ p4.aCo
 refine oN (fun _=>oS) fun g8=>?_;refine G8 ?_ ?_
 ·refine Ok.loop1 ?_;rintro i10 ⟨⟩ hl10
  have:=cP p0.aB4 i10 hl10
  refine Ok.lt fun y13 h12=>?_
  have:=congrArg wt h12
  have:=aZ (p4.aB4)
  refine oG fun z13=>?_
  have:=cP p4.aB4 i10 z13
  refine Ok.lt fun y16 h14=>?_
  have:=congrArg wt h14
  exact oB (p6 y13 y16 bP bP) fun x19 _=>oW (fun _=>oR) fun g16=>nT
 rintro⟨⟩-
 refine G8 ?_ ?_
 ·refine Ok.loop1 ?_;rintro i21 ⟨⟩ hl18
  have:=cP p0.aCo i21 hl18
  refine Ok.lt fun y24 h20=>?_
  have:=congrArg wt h20
  have:=aZ (p4.aCo)
  refine oG fun z21=>?_
  have:=cP p4.aCo i21 z21
  refine Ok.lt fun y27 h22=>?_
  have:=congrArg wt h22
  have:=bS.wt_eq y24
  have:=bS.wt_eq y27
  exact oN (fun _=>oR) fun g23=>oB (xR y24.aCg y27.aCg) fun x31 _=>oW (fun _=>oR) fun g25=>oB (p6 y24.aCd y27.aCd bP bP) fun x34 _=>oW (fun _=>oR) fun g27=>nT
 rintro⟨⟩-
 exact oS
theorem acH(n:Nat):bQ fun fu=>FF n (kF fu):=by
 induction n with
 |zero=>exact .all fun fu=>fun _ _ h=>absurd h (Nat.not_lt_zero _)
 |succ n ih=>exact bQ.succ ((ih.and (((bQ.ge 2147483648).and uY).and xR)).imp fun fu ⟨h,⟨⟨hfu,uY⟩,xR⟩⟩=>fun p0 p4=>by rw [kF];exact YV hfu uY xR h p0 p4)
theorem FV:bQ abH:=(acH 8589934592).imp fun fu h p0 p4 hpre=>h p0 p4 bP hpre
def ahU(fu:Nat):Prop:= ∀(p0:aL) (p4 pE:LB),wl p4+wl pE+2*wt p0≤134217728→Ok (nB fu p0 p4 pE) (fun r=>wl r≤wl pE+wt p0+1)
def LI(n:Nat)(m:rQ):Prop:= ∀(p0:aL) (p4 pE:LB),wt p0<n→wl p4+wl pE+2*wt p0≤134217728→Ok (m p0 p4 pE) (fun r=>wl r≤wl pE+wt p0+1)
theorem agI{n fu:Nat}(hfu:2147483648≤fu)(dT:UV fu){pD:rQ}(p3:LI n pD):LI (n+1) (MW fu pD):=by
 intro p0 p4 pE hm hpre
 have:=aL.wt_eq p0
 refine Ok.sok (E:=fun v2=>wl v2+wl p0.aB4+wl p0.aCo≤wl pE+wt p0+1) ?_ ?_
 ·refine oD (fun g2=>?_) fun g2=>?_
  ·refine oB (dT p4 p0.aB3) fun x5 _=>?_;refine oW (fun g4=>?_) fun g4=>?_
   ·refine oB (dT pE p0.aB3) fun x8 _=>?_;refine oW (fun g6=>?_) fun g6=>?_
    ·have:=aZ (pE)
     have:=cA p0.aB3
     have:=bA p0.aB3
     refine oG fun z7=>?_
     have:=b4 pE ([p0.aB3]:LB)
     exact oI
    exact oI
   exact oI
  exact oI
 intro v2 h1
 refine Q5 p0.aB4 1 (fun i11 v13 hl9 hI10 _ _=>?_) ?_
 ·have:=aZ p0.aB4
  refine oD (fun g11=>?_) fun g11=>?_
  ·refine oD (fun g12=>?_) fun g12=>?_
   ·have:=(aW:wl ([]:LB)=0∧_)
    have:=aZ (p4)
    refine oG fun z13=>?_
    have:=b4 ([]:LB) p4
    have:=cA p0.aB3
    have:=bA p0.aB3
    refine oG fun z14=>?_
    have:=cP p0.aB4 i11 hl9
    refine Ok.lt fun y20 h15=>?_
    have:=congrArg wt h15
    have:=b4 (([])++p4) ([p0.aB3]:LB)
    exact oB (p3 y20 ((([])++p4)++([p0.aB3]:LB)) v13 bP bP) fun x23 h16=>nT
   have:=cP p0.aB4 i11 hl9
   refine Ok.lt fun y24 h17=>?_
   have:=congrArg wt h17
   exact oB (p3 y24 p4 v13 bP bP) fun x27 h18=>nT
  have:=cP p0.aB4 i11 hl9
  refine Ok.lt fun y28 h19=>?_
  have:=congrArg wt h19
  exact oB (p3 y28 p4 v13 bP bP) fun x31 h20=>nT
 intro v13 h8
 refine Q5 p0.aCo 1 (fun i32 v34 hl22 hI23 _ _=>?_) ?_
 ·have:=aZ p0.aCo
  have:=cP p0.aCo i32 hl22
  refine Ok.lt fun y37 h24=>?_
  have:=congrArg wt h24
  have:=(aW:wl ([]:LB)=0∧_)
  have:=aZ (p4)
  refine oG fun z25=>?_
  have:=b4 ([]:LB) p4
  have:=bS.wt_eq y37
  have:=aZ (y37.aCg)
  refine oG fun z26=>?_
  have:=b4 (([])++p4) y37.aCg
  exact oB (p3 y37.aCd ((([])++p4)++y37.aCg) v34 bP bP) fun x42 h27=>nT
 intro v34 h21
 exact oS
theorem ai8(n:Nat):bQ fun fu=>LI n (nB fu):=by
 induction n with
 |zero=>exact .all fun fu=>fun _ _ _ h=>absurd h (Nat.not_lt_zero _)
 |succ n ih=>exact bQ.succ ((ih.and ((bQ.ge 2147483648).and dT)).imp fun fu ⟨h,⟨hfu,dT⟩⟩=>fun p0 p4 pE=>by rw [nB];exact agI hfu dT h p0 p4 pE)
theorem MC:bQ ahU:=(ai8 8589934592).imp fun fu h p0 p4 pE hpre=>h p0 p4 pE bP hpre
def PY(fu:Nat):Prop:= ∀(pe:aL),wt pe≤67108864→Ok (wN fu pe) (fun r=>wl r≤wt pe+1)
theorem wB:bQ PY:=((bQ.ge 2147483648).and MC).imp fun fu ⟨hfu,MC⟩ pe hpre=>by
 have:=(aW:wl ([]:LB)=0∧_)
 exact oB (MC pe ([]:LB) ([]:LB) bP) fun x2 h1=>oS
def ah1(fu:Nat):Prop:= ∀(pt:aA) (p2:LB),wt pt+wl p2≤67108864→Ok (l3 fu pt p2) (fun _=>True)
theorem gA:bQ ah1:=((((bQ.ge 2147483648).and wC).and dT).and eJ).imp fun fu ⟨⟨⟨hfu,wC⟩,dT⟩,eJ⟩ pt p2 hpre=>by
 refine oB (wC pt bP) fun x2 h1=>?_;refine G8 ?_ ?_
 ·refine Ok.loop1 ?_;rintro i3 ⟨⟩ hl3
  have:=aZ x2
  have:=cP x2 i3 hl3
  have:=bA (aT x2 i3)
  exact oB (dT p2 (aT x2 i3)) fun x7 _=>oW (fun _=>oR) fun g6=>nT
 rintro⟨⟩-
 exact oB (eJ pt bP) fun x10 _=>oS
def alC(fu:Nat):Prop:= ∀(p1:List aA) (p2:LB),wl p1+wl p2≤67108864→Ok (AP fu p1 p2) (fun _=>True)
theorem AK:bQ alC:=((bQ.ge 2147483648).and gA).imp fun fu ⟨hfu,gA⟩ p1 p2 hpre=>by
 refine G8 ?_ ?_
 ·refine Ok.loop1 ?_;rintro i1 ⟨⟩ hl2
  have:=aZ p1
  have:=cP p1 i1 hl2
  exact oB (gA (aT p1 i1) p2 bP) fun x5 _=>oW (fun _=>oR) fun g5=>nT
 rintro⟨⟩-
 exact oS
def ah0(fu:Nat):Prop:= ∀(pe:aL),wt pe≤67108864→Ok (M1 fu pe) (fun _=>True)
theorem MG:bQ ah0:=((bQ.ge 2147483648).and FV).imp fun fu ⟨hfu,FV⟩ pe hpre=>by
 have:s_.size=0:=rfl
 have:=(aW:wl ([]:List aA)=0∧_)
 have:=aA.wt_mk 0 s_ []
 have:=(aW:wl ([]:List aL)=0∧_)
 have:=(aW:wl ([]:List bS)=0∧_)
 have:=aL.wt_mk 0 s_ s_ 0 (aA.mk 0 s_ []) [] []
 exact oB (FV pe (aL.mk 0 s_ s_ 0 (aA.mk 0 s_ []) [] []) bP) fun x2 _=>oS
def aeG(fu:Nat):Prop:= ∀(p1:LB) (pF:Int),Ok (gH fu p1 pF) (fun _=>True)
theorem c4:bQ aeG:=(((bQ.ge 2147483648).and rM).and eI).imp fun fu ⟨⟨hfu,rM⟩,eI⟩ p1 pF=>by
 refine oD (fun g1=>?_) fun g1=>?_
 ·refine oB (rM p1) fun x3 _=>?_;refine oC (fun g3=>?_) fun g3=>?_
  ·exact oB (eI p1) fun x6 _=>oS
  exact oS
 exact oS
def ahX(fu:Nat):Prop:= ∀(pe:aL) (p2:LB),wt pe+wl p2≤67108864→Ok (BW fu pe p2) (fun _=>True)
theorem n3:bQ ahX:=((((bQ.ge 2147483648).and wB).and dT).and BF).imp fun fu ⟨⟨⟨hfu,wB⟩,dT⟩,BF⟩ pe p2 hpre=>by
 refine oB (wB pe bP) fun x2 h1=>?_;refine G8 ?_ ?_
 ·refine Ok.loop1 ?_;rintro i3 ⟨⟩ hl3
  have:=aZ x2
  have:=cP x2 i3 hl3
  have:=bA (aT x2 i3)
  exact oB (dT p2 (aT x2 i3)) fun x7 _=>oW (fun _=>oR) fun g6=>nT
 rintro⟨⟩-
 exact oB (BF pe bP) fun x10 _=>oS
def alD(fu:Nat):Prop:= ∀(ps:aF),wt ps≤33554432→Ok (R4 fu ps) (fun _=>True)
theorem QQ:bQ alD:=(((((((bQ.ge 2147483648).and bL).and AK).and gA).and MG).and c4).and n3).imp fun fu ⟨⟨⟨⟨⟨⟨hfu,bL⟩,AK⟩,gA⟩,MG⟩,c4⟩,n3⟩ ps hpre=>by
 have:=aF.wt_eq ps
 refine oB (bL ps.aB3) fun x2 _=>oW (fun _=>oS) fun g2=>?_
 have:=aZ ps.aCn
 refine oD (fun _=>oS) fun g3=>?_
 have:j9.size=4:=rfl
 have:=cA j9
 have:=bA j9
 refine oB (AK ps.aCn ([j9]:LB) bP) fun x6 _=>oW (fun _=>oS) fun g5=>oB (gA ps.aCl ([j9]:LB) bP) fun x9 _=>oW (fun _=>oS) fun g7=>?_;refine oW (fun g8=>?_) fun g8=>?_
 ·have:=aZ ps.aCg
  refine oD (fun g9=>?_) fun g9=>?_
  ·exact oB (MG ps.aCd bP) fun x14 _=>oS
  exact oS
 refine oB (c4 ps.aCg 5) fun x16 _=>?_;refine oC (fun g12=>?_) fun g12=>?_
 ·have:=aZ ps.aCg
  have:=eO ((ps.aCn.length:Int)+1)
  refine oD (fun g13=>?_) fun g13=>?_
  ·exact oB (n3 ps.aCd ps.aCg bP) fun x20 _=>oS
  exact oS
 exact oS
def TA(fu:Nat):Prop:= ∀(pt:aU),wt pt≤16777216→Ok (tK fu pt) (fun _=>True)
theorem mE:bQ TA:=((((bQ.ge 2147483648).and QQ).and bL).and c4).imp fun fu ⟨⟨⟨hfu,QQ⟩,bL⟩,c4⟩ pt hpre=>by
 have:=(aW:wl ([]:LB)=0∧_)
 have:=aU.wt_eq pt
 refine Q5 pt.aCp 1 (fun i1 v3 hl2 hI3 _ _=>?_) ?_
 ·have:=aZ pt.aCp
  have:=cP pt.aCp i1 hl2
  refine Ok.lt fun y6 h4=>?_
  have:=congrArg wt h4
  refine oB (QQ y6 bP) fun x9 _=>oW (fun _=>oR) fun g6=>?_
  have:=aZ (v3)
  have:=aF.wt_eq y6
  have:=cA y6.aB3
  have:=bA y6.aB3
  refine oG fun z7=>?_
  have:=b4 v3 ([y6.aB3]:LB)
  exact nT
 intro v3 h1
 refine oC (fun g8=>?_) fun g8=>?_
 ·refine oC (fun _=>oS) fun g9=>oD (fun _=>oS) fun g10=>oD (fun _=>oS) fun g11=>oB (bL pt.aB3) fun x17 _=>?_;refine oC (fun g13=>?_) fun g13=>?_
  ·refine oB (c4 pt.aCc 4) fun x20 _=>?_;refine oC (fun g15=>?_) fun g15=>?_
   ·exact oB (c4 v3 6) fun x23 _=>oS
   exact oS
  exact oS
 refine oB (bL pt.aB3) fun x25 _=>?_;refine oC (fun g18=>?_) fun g18=>?_
 ·refine oB (c4 pt.aCc 4) fun x28 _=>?_;refine oC (fun g20=>?_) fun g20=>?_
  ·exact oB (c4 v3 6) fun x31 _=>oS
  exact oS
 exact oS
def LO(fu:Nat):Prop:= ∀(pd:aN),wt pd≤16777216→Ok (j7 fu pd) (fun _=>True)
theorem jX:bQ LO:=((((bQ.ge 2147483648).and AK).and bL).and c4).imp fun fu ⟨⟨⟨hfu,AK⟩,bL⟩,c4⟩ pd hpre=>by
 have:=(aW:wl ([]:LB)=0∧_)
 have:=aN.wt_eq pd
 refine Q5 pd.aB8 1 (fun i1 v3 hl2 hI3 _ _=>?_) ?_
 ·have:=aZ pd.aB8
  have:=cP pd.aB8 i1 hl2
  have:=aD.wt_eq (aT pd.aB8 i1)
  have:=aZ ((aT pd.aB8 i1).aCm)
  refine oD (fun _=>oR) fun g4=>oB (AK ((aT pd.aB8 i1).aCm) pd.aCg bP) fun x8 _=>oW (fun _=>oR) fun g6=>?_
  have:=aZ (v3)
  have:=cA ((aT pd.aB8 i1).aB3)
  have:=bA ((aT pd.aB8 i1).aB3)
  refine oG fun z7=>?_
  have:=b4 v3 ([((aT pd.aB8 i1).aB3)]:LB)
  exact nT
 intro v3 h1
 refine oB (bL pd.aB3) fun x12 _=>?_;refine oC (fun g9=>?_) fun g9=>?_
 ·refine oB (c4 pd.aCg 3) fun x15 _=>?_;refine oC (fun g11=>?_) fun g11=>?_
  ·refine oD (fun g12=>?_) fun g12=>?_
   ·exact oB (c4 v3 5) fun x19 _=>oS
   exact oS
  exact oS
 exact oS
def S8(fu:Nat):Prop:= ∀(pb:aG),wt pb≤33554432→Ok (yZ fu pb) (fun _=>True)
theorem yQ:bQ S8:=(((bQ.ge 2147483648).and bL).and eJ).imp fun fu ⟨⟨hfu,bL⟩,eJ⟩ pb hpre=>by
 have:=aG.wt_eq pb
 refine oB (bL pb.aCa) fun x2 _=>?_;refine oC (fun g2=>?_) fun g2=>?_
 ·exact oB (eJ pb.aB7 bP) fun x5 _=>oS
 exact oS
def aeF(fu:Nat):Prop:= ∀(p1:List aG) (p2:LB),wl p1+wl p2≤33554432→Ok (uG fu p1 p2) (fun _=>True)
theorem uA:bQ aeF:=((((bQ.ge 2147483648).and yQ).and gA).and lN).imp fun fu ⟨⟨⟨hfu,yQ⟩,gA⟩,lN⟩ p1 p2 hpre=>by
 refine G8 ?_ ?_
 ·refine Ok.loop1 ?_;rintro i1 ⟨⟩ hl2
  have:=aZ p1
  have:=cP p1 i1 hl2
  refine oB (yQ (aT p1 i1) bP) fun x5 _=>oW (fun _=>oR) fun g5=>?_
  have:=aG.wt_eq (aT p1 i1)
  exact oB (gA ((aT p1 i1).aB7) p2 bP) fun x8 _=>oW (fun _=>oR) fun g7=>oB (lN ((aT p1 i1).aB7) bP) fun x11 _=>oC (fun _=>oR) fun g9=>nT
 rintro⟨⟩-
 exact oS
def LQ(fu:Nat):Prop:= ∀(p0:aI),wt p0≤16777216→Ok (j8 fu p0) (fun _=>True)
theorem jZ:bQ LQ:=(((((((((bQ.ge 2147483648).and bL).and c4).and gA).and lN).and uA).and IC).and lV).and n3).imp fun fu ⟨⟨⟨⟨⟨⟨⟨⟨hfu,bL⟩,c4⟩,gA⟩,lN⟩,uA⟩,IC⟩,lV⟩,n3⟩ p0 hpre=>by
 have:=aI.wt_eq p0
 refine oB (bL p0.aCa) fun x2 _=>oW (fun _=>oS) fun g2=>oB (c4 p0.aCg 3) fun x5 _=>oW (fun _=>oS) fun g4=>oB (gA p0.aCh p0.aCg bP) fun x8 _=>oW (fun _=>oS) fun g6=>oB (lN p0.aCh bP) fun x11 _=>oC (fun _=>oS) fun g8=>?_
 have:=aA.wt_eq p0.aCh
 refine oD (fun _=>oS) fun g9=>oB (uA p0.aCk p0.aCg bP) fun x15 _=>oW (fun _=>oS) fun g11=>?_;refine G8 ?_ ?_
 ·refine Ok.loop1 ?_;rintro i17 ⟨⟩ hl13
  have:=aZ p0.aCg
  have:=cP p0.aCg i17 hl13
  have:=bA (aT p0.aCg i17)
  exact oB (IC (aT p0.aCg i17) p0.aCh bP) fun x21 _=>oW (fun _=>oR) fun g16=>nT
 rintro⟨⟩-
 refine G8 ?_ ?_
 ·refine oC (fun g18=>?_) fun g18=>?_
  ·exact oB (gA p0.aCj p0.aCg bP) fun x25 _=>oW (fun _=>oL) fun g20=>oI
  exact oB (lV p0.aCj) fun x28 _=>oW (fun _=>oL) fun g22=>oI
 rintro⟨⟩-
 have:=(aW:wl ([]:LB)=0∧_)
 refine Q5 p0.aCu 1 (fun i30 v32 hl24 hI25 _ _=>?_) ?_
 ·have:=aZ p0.aCu
  have:=cP p0.aCu i30 hl24
  refine Ok.lt fun y35 h26=>?_
  have:=congrArg wt h26
  have:=aQ.wt_eq y35
  have:=aZ y35.aCg
  refine oD (fun _=>oR) fun g27=>oB (c4 y35.aCg 5) fun x39 _=>oW (fun _=>oR) fun g29=>oB (n3 y35.aCd y35.aCg bP) fun x42 _=>oW (fun _=>oR) fun g31=>?_
  have:=aZ (v32)
  have:=cA y35.aB3
  have:=bA y35.aB3
  refine oG fun z32=>?_
  have:=b4 v32 ([y35.aB3]:LB)
  exact nT
 intro v32 h23
 exact oB (c4 v32 6) fun x46 _=>oS
def LP(fu:Nat):Prop:= ∀(pf:aP),wt pf≤16777216→Ok (n8 fu pf) (fun _=>True)
theorem jY:bQ LP:=((((((bQ.ge 2147483648).and gA).and bL).and c4).and uA).and n3).imp fun fu ⟨⟨⟨⟨⟨hfu,gA⟩,bL⟩,c4⟩,uA⟩,n3⟩ pf hpre=>by
 have:=(aW:wl ([]:LB)=0∧_)
 have:=aP.wt_eq pf
 refine Q5 pf.aCn 1 (fun i1 v3 hl2 hI3 _ _=>?_) ?_
 ·have:=aZ pf.aCn
  have:=cP pf.aCn i1 hl2
  have:=aV.wt_eq (aT pf.aCn i1)
  refine oB (gA ((aT pf.aCn i1).aB7) pf.aCg bP) fun x7 _=>oW (fun _=>oR) fun g5=>?_
  have:=aZ (v3)
  have:=cA ((aT pf.aCn i1).aB3)
  have:=bA ((aT pf.aCn i1).aB3)
  refine oG fun z6=>?_
  have:=b4 v3 ([((aT pf.aCn i1).aB3)]:LB)
  exact nT
 intro v3 h1
 refine oB (bL pf.aB3) fun x11 _=>?_;refine oC (fun g8=>?_) fun g8=>?_
 ·refine oB (c4 pf.aCg 3) fun x14 _=>?_;refine oC (fun g10=>?_) fun g10=>?_
  ·refine oB (uA pf.aCk pf.aCg bP) fun x17 _=>?_;refine oC (fun g12=>?_) fun g12=>?_
   ·refine oB (c4 v3 5) fun x20 _=>?_;refine oC (fun g14=>?_) fun g14=>?_
    ·refine oB (gA pf.aCl pf.aCg bP) fun x23 _=>?_;refine oC (fun g16=>?_) fun g16=>?_
     ·exact oB (n3 pf.aCd v3 bP) fun x26 _=>oS
     exact oS
    exact oS
   exact oS
  exact oS
 exact oS
end Go.Proofs.YtfcoaagbccmahaaGreat.W

namespace Go.Proofs.YtfcoaagbccmahaaGreat.W
set_option maxRecDepth 20000
set_option maxHeartbeats 4000000
open Go.RowKit Go.WalkArith Go.IntWalk
attribute [local irreducible] wt wl
def am9(fu:Nat):Prop:= ∀(px:aB) (pi:Int),0≤pi∧wt px≤1073741824→Ok (dK fu px pi) (fun r=>wt r≤wt px)
theorem cE:bQ am9:=(bQ.ge 2147483648).imp fun fu hfu px pi hpre=>by
 have:=aB.wt_eq px
 have:=aZ px.aB6
 refine oD (fun g1=>?_) fun g1=>?_
 ·have:s_.size=0:=rfl
  have:=(aW:wl ([]:List aB)=0∧_)
  have:=aB.wt_mk s_ []
  exact oS
 have:=aZ (px.aB6)
 refine oG fun z2=>?_
 have:=cP px.aB6 ((pi).toNat) z2.2
 exact oS
def aeH(fu:Nat):Prop:= ∀(px:aB),wt px≤1073741824→Ok (m3 fu px) (fun r=>wl r≤wt px)
theorem gB:bQ aeH:=((bQ.ge 2147483648).and iL).imp fun fu ⟨hfu,iL⟩ px hpre=>by
 have:=aB.wt_eq px
 refine wL (iL px.aB6 bP) fun x2 x3 h1=>?_
 dsimp only at h1
 exact oS
def ah2(fu:Nat):Prop:= ∀(px:aB) (pi:Int),0≤pi→Ok (wT fu px pi) (fun r=>wl r≤wl px.aB6)
theorem m8:bQ ah2:=((bQ.ge 2147483648).and jC).imp fun fu ⟨hfu,jC⟩ px pi hpre=>by
 have:=aB.wt_eq px
 have:=aZ px.aB6
 refine oB (jC pi (px.aB6.length:Int)) fun x2 h1=>oG fun z2=>?_
 have:=UO (x2:Int).toNat (px.aB6.length:Int).toNat px.aB6
 exact oS
def alE(fu:Nat):Prop:= ∀(p0:List aB),wl p0≤67108864→Ok (JX fu p0) (fun r=>wl r≤2*wl p0)
theorem AM:bQ alE:=((bQ.ge 2147483648).and hZ).imp fun fu ⟨hfu,hZ⟩ p0 hpre=>by
 have:=(aW:wl ([]:List aA)=0∧_)
 refine Q5 p0 2 (fun i1 v3 hl2 hI3 _ _=>?_) ?_
 ·have:=aZ p0
  have:=cP p0 i1 hl2
  refine oB (hZ (aT p0 i1) bP) fun x7 h4=>?_
  have:=aZ (v3)
  have:=cA x7
  refine oG fun z5=>?_
  have:=b4 v3 ([x7]:List aA)
  exact nT
 intro v3 h1
 exact oS
def aeK(fu:Nat):Prop:= ∀(p0:LB),wl p0≤1073741824→Ok (lJ fu p0) (fun r=>wt r≤wl p0)
theorem fR:bQ aeK:=((bQ.ge 2147483648).and m9).imp fun fu ⟨hfu,m9⟩ p0 hpre=>by
 refine oB (m9 p0 bP) fun x2 h1=>?_
 have:s_.size=0:=rfl
 have:=aB.wt_mk s_ x2
 exact oS
def aeI(fu:Nat):Prop:= ∀(p0:List aA),wl p0≤33554432→Ok (C2 fu p0) (fun r=>wl r≤8*wl p0)
theorem uB:bQ aeI:=((bQ.ge 2147483648).and iW).imp fun fu ⟨hfu,iW⟩ p0 hpre=>by
 have:=(aW:wl ([]:List aB)=0∧_)
 refine Q5 p0 8 (fun i1 v3 hl2 hI3 _ _=>?_) ?_
 ·have:=aZ p0
  have:=cP p0 i1 hl2
  refine oB (iW (aT p0 i1) bP) fun x7 h4=>?_
  have:=aZ (v3)
  have:=cA x7
  refine oG fun z5=>?_
  have:=b4 v3 ([x7]:List aB)
  exact nT
 intro v3 h1
 exact oS
def anA(fu:Nat):Prop:= ∀(p3:Bool) (px:aB),wt px≤1073741824→Ok (E7 fu p3 px) (fun r=>wt r≤wt px)
theorem o4:bQ anA:=((bQ.ge 2147483648).and cL).imp fun fu ⟨hfu,cL⟩ p3 px hpre=>by
 refine oW (fun g1=>?_) fun g1=>?_
 ·have:s_.size=0:=rfl
  have:=(aW:wl ([]:List aB)=0∧_)
  have:=aB.wt_mk s_ []
  exact oS
 refine oB (cL px bP) fun x3 _=>?_;refine oW (fun g3=>?_) fun g3=>?_
 ·have:s_.size=0:=rfl
  have:=(aW:wl ([]:List aB)=0∧_)
  have:=aB.wt_mk s_ []
  exact oS
 exact oS
def TF(fu:Nat):Prop:= ∀(p1:aU),wt p1≤1048576→(∀a∈p1.aCp,LF a.aCd)→Ok (y2 fu p1) (fun r=>wt r≤64*wt p1+64)
theorem yV:bQ TF:=(((((((((bQ.ge 2147483648).and mE).and bN).and fR).and eL).and uB).and iW).and u4).and o4).imp fun fu ⟨⟨⟨⟨⟨⟨⟨⟨hfu,mE⟩,bN⟩,fR⟩,eL⟩,uB⟩,iW⟩,u4⟩,o4⟩ p1 hpre hB=>by
 refine oB (mE p1 bP) fun x2 _=>?_;refine oW (fun g2=>?_) fun g2=>?_
 ·have:s_.size=0:=rfl
  have:=(aW:wl ([]:List aB)=0∧_)
  have:=aB.wt_mk s_ []
  exact oS
 refine Ok.sok (E:=fun v5=>wl v5≤5) ?_ ?_
 ·have:=aU.wt_eq p1
  refine oC (fun g4=>?_) fun g4=>?_
  ·have:=(aW:wl ([]:LB)=0∧_)
   have:BU.size=4:=rfl
   have:=cA BU
   have:=bA BU
   refine oG fun z5=>?_
   have:=b4 ([]:LB) ([BU]:LB)
   exact oI
  have:=(aW:wl ([]:LB)=0∧_)
  exact oI
 intro v5 h3
 refine Ok.sok (E:=fun v9=>wl v9≤11) ?_ ?_
 ·have:=aU.wt_eq p1
  refine oC (fun g7=>?_) fun g7=>?_
  ·have:=aZ (v5)
   have:jD.size=5:=rfl
   have:=cA jD
   have:=bA jD
   refine oG fun z8=>?_
   have:=b4 v5 ([jD]:LB)
   exact oI
  exact oI
 intro v9 h6
 have:JU.size=5:=rfl
 refine oB (bN JU) fun x13 h9=>?_
 have:=aU.wt_eq p1
 refine oB (bN p1.aB3) fun x15 h10=>oB (fR p1.aCc bP) fun x17 h11=>oB (fR v9 bP) fun x19 h12=>?_
 have:=av4 x13 x15 x17 x19
 refine oB (eL ([x13,x15,x17,x19]:List aB) bP) fun x21 h13=>?_
 have:=aB.wt_eq x21
 refine Q5 p1.aCp 64 (fun i22 v24 hl15 hI16 _ _=>?_) ?_
 ·have:=aZ p1.aCp
  have:=cP p1.aCp i22 hl15
  refine Ok.lt fun y27 h17=>?_
  have:=congrArg wt h17
  have:=aF.wt_eq y27
  refine oB (bN y27.aB3) fun x30 h18=>oB (uB y27.aCn bP) fun x32 h19=>oB (iW y27.aCl bP) fun x34 h20=>?_
  have:s_.size=0:=rfl
  have:=aB.wt_mk s_ x32
  have:=F0 x30 (aB.mk s_ x32) x34
  refine oB (eL ([x30,(aB.mk s_ x32),x34]:List aB) bP) fun x36 h21=>?_;refine oC (fun g22=>?_) fun g22=>?_
  ·refine oB (fR y27.aCg bP) fun x39 h23=>oB (u4 y27.aCd bP (by rw [show y27=aT p1.aCp i22 by assumption];exact abO hB (by assumption))) fun x41 h24=>?_
   have:=aB.wt_eq x36
   have:=aZ (x36.aB6)
   have:=kM x39 x41
   refine oG fun z25=>?_
   have:=aZ (v24)
   have:=b4 x36.aB6 ([x39,x41]:List aB)
   have:=aB.wt_mk x36.aB9 (x36.aB6++([x39,x41]:List aB))
   have:=cA (aB.mk x36.aB9 (x36.aB6++([x39,x41]:List aB)))
   refine oG fun z26=>?_
   have:=b4 v24 ([(aB.mk x36.aB9 (x36.aB6++([x39,x41]:List aB)))]:List aB)
   exact nT
  have:=aZ (v24)
  have:=aB.wt_eq x36
  have:=aB.wt_mk x36.aB9 x36.aB6
  have:=cA (aB.mk x36.aB9 x36.aB6)
  refine oG fun z27=>?_
  have:=b4 v24 ([(aB.mk x36.aB9 x36.aB6)]:List aB)
  exact nT
 intro v24 h14
 have:=aB.wt_mk x21.aB9 v24
 exact oB (o4 true (aB.mk x21.aB9 v24) bP) fun x46 h28=>oS
def TE(fu:Nat):Prop:= ∀(p1:aB),wt p1≤65536→Ok (y1 fu p1) (fun r=>wt r.1≤16*wt p1)
theorem yU:bQ TE:=(((((((((((bQ.ge 2147483648).and cE).and gB).and dT).and m8).and AM).and hZ).and n0).and cL).and yV).and gJ).imp fun fu ⟨⟨⟨⟨⟨⟨⟨⟨⟨⟨hfu,cE⟩,gB⟩,dT⟩,m8⟩,AM⟩,hZ⟩,n0⟩,cL⟩,yV⟩,gJ⟩ p1 hpre=>by
 refine oB (cE p1 3 bP) fun x2 h1=>oB (gB x2 bP) fun x4 h2=>oB (cE p1 1 bP) fun x6 h3=>oB (cE p1 2 bP) fun x8 h4=>oB (gB x8 bP) fun x10 h5=>?_
 have:BU.size=4:=rfl
 refine oB (dT x4 BU) fun x12 _=>?_
 have:jD.size=5:=rfl
 refine oB (dT x4 jD) fun x14 _=>?_
 have:=aB.wt_eq p1
 refine oB (m8 p1 4 bP) fun x16 h8=>?_
 have:=(aW:wl ([]:List aF)=0∧_)
 refine apN (PA:=fun a=>LF a.aCd) x16 8 (fun i17 v19 hl10 hI11 hI11B _ _=>?_) ?_
 ·have:=aZ x16
  have:=cP x16 i17 hl10
  refine oB (cE (aT x16 i17) 0 bP) fun x23 h12=>oB (cE (aT x16 i17) 1 bP) fun x25 h13=>?_
  have:=aB.wt_eq x25
  refine oB (AM x25.aB6 bP) fun x27 h14=>oB (cE (aT x16 i17) 2 bP) fun x29 h15=>oB (hZ x29 bP) fun x31 h16=>?_
  have:=aB.wt_eq (aT x16 i17)
  have:=aZ ((aT x16 i17).aB6)
  refine oD (fun g17=>?_) fun g17=>?_
  ·refine oB (cE (aT x16 i17) 3 bP) fun x34 h18=>oB (gB x34 bP) fun x36 h19=>oB (cE (aT x16 i17) 4 bP) fun x38 h20=>SU (n0 x38 bP) fun x40 h21 h21B=>?_
   have:=aZ (v19)
   have:=aB.wt_eq x23
   have:=aF.wt_mk x23.aB9 x27 x31 true x36 x40
   have:=cA (aF.mk x23.aB9 x27 x31 true x36 x40)
   refine oG fun z22=>?_
   have:=b4 v19 ([(aF.mk x23.aB9 x27 x31 true x36 x40)]:List aF)
   exact oX hI11B
  have:=aZ (v19)
  have:=aB.wt_eq x23
  have:s_.size=0:=rfl
  have:=(aW:wl ([]:List aA)=0∧_)
  have:=aA.wt_mk 0 s_ []
  have:=(aW:wl ([]:List aL)=0∧_)
  have:=(aW:wl ([]:List bS)=0∧_)
  have:=aL.wt_mk 0 s_ s_ 0 (aA.mk 0 s_ []) [] []
  have:=(aW:wl ([]:LB)=0∧_)
  have:=aF.wt_mk x23.aB9 x27 x31 false [] (aL.mk 0 s_ s_ 0 (aA.mk 0 s_ []) [] [])
  have:=cA (aF.mk x23.aB9 x27 x31 false [] (aL.mk 0 s_ s_ 0 (aA.mk 0 s_ []) [] []))
  refine oG fun z23=>?_
  have:=b4 v19 ([(aF.mk x23.aB9 x27 x31 false [] (aL.mk 0 s_ s_ 0 (aA.mk 0 s_ []) [] []))]:List aF)
  exact oX hI11B
 rintro v19 ⟨h9,h9B⟩
 refine oB (cL p1 bP) fun x44 _=>?_;refine oW (fun g25=>?_) fun g25=>?_
 ·have:s_.size=0:=rfl
  have:=(aW:wl ([]:LB)=0∧_)
  have:=aU.wt_mk s_ [] false false []
  exact oS
 have:=aZ p1.aB6
 refine oD (fun g26=>?_) fun g26=>?_
 ·have:s_.size=0:=rfl
  have:=(aW:wl ([]:LB)=0∧_)
  have:=aU.wt_mk s_ [] false false []
  exact oS
 have:=aB.wt_eq x6
 have:=aU.wt_mk x6.aB9 x10 x12 x14 v19
 refine oB (yV (aU.mk x6.aB9 x10 x12 x14 v19) bP (by first|assumption|trivial)) fun x48 h27=>oB (gJ x48 p1 bP) fun x50 _=>?_;refine oW (fun g29=>?_) fun g29=>?_
 ·have:s_.size=0:=rfl
  have:=(aW:wl ([]:LB)=0∧_)
  have:=aU.wt_mk s_ [] false false []
  exact oS
 exact oS
def LL(fu:Nat):Prop:= ∀(pd:aN),wt pd≤1048576→Ok (tV fu pd) (fun r=>wt r≤64*wt pd+64)
theorem tO:bQ LL:=(((((((bQ.ge 2147483648).and bN).and fR).and eL).and uB).and jX).and o4).imp fun fu ⟨⟨⟨⟨⟨⟨hfu,bN⟩,fR⟩,eL⟩,uB⟩,jX⟩,o4⟩ pd hpre=>by
 have:RZ.size=4:=rfl
 refine oB (bN RZ) fun x2 h1=>?_
 have:=aN.wt_eq pd
 refine oB (bN pd.aB3) fun x4 h2=>oB (fR pd.aCg bP) fun x6 h3=>?_
 have:=F0 x2 x4 x6
 refine oB (eL ([x2,x4,x6]:List aB) bP) fun x8 h4=>?_
 have:=aB.wt_eq x8
 refine Q5 pd.aB8 64 (fun i9 v11 hl6 hI7 _ _=>?_) ?_
 ·have:=aZ pd.aB8
  have:=cP pd.aB8 i9 hl6
  have:=aD.wt_eq (aT pd.aB8 i9)
  refine oB (bN ((aT pd.aB8 i9).aB3)) fun x15 h8=>oB (uB ((aT pd.aB8 i9).aCm) bP) fun x17 h9=>?_
  have:=cA x15
  have:=aZ (x17)
  refine oG fun z10=>?_
  have:=aZ (v11)
  have:s_.size=0:=rfl
  have:=b4 ([x15]:List aB) x17
  have:=aB.wt_mk s_ (([x15]:List aB)++x17)
  have:=cA (aB.mk s_ (([x15]:List aB)++x17))
  refine oG fun z11=>?_
  have:=b4 v11 ([(aB.mk s_ (([x15]:List aB)++x17))]:List aB)
  exact nT
 intro v11 h5
 refine oB (jX pd bP) fun x21 _=>?_
 have:=aB.wt_mk x8.aB9 v11
 exact oB (o4 x21 (aB.mk x8.aB9 v11) bP) fun x23 h13=>oS
def LS(fu:Nat):Prop:= ∀(px:aB),wt px≤65536→Ok (tZ fu px) (fun r=>wt r.1≤16*wt px)
theorem tS:bQ LS:=((((((((bQ.ge 2147483648).and cE).and gB).and m8).and AM).and cL).and tO).and gJ).imp fun fu ⟨⟨⟨⟨⟨⟨⟨hfu,cE⟩,gB⟩,m8⟩,AM⟩,cL⟩,tO⟩,gJ⟩ px hpre=>by
 refine oB (cE px 1 bP) fun x2 h1=>oB (cE px 2 bP) fun x4 h2=>oB (gB x4 bP) fun x6 h3=>?_
 have:=aB.wt_eq px
 refine oB (m8 px 3 bP) fun x8 h4=>?_
 have:=(aW:wl ([]:List aD)=0∧_)
 refine Q5 x8 4 (fun i9 v11 hl6 hI7 _ _=>?_) ?_
 ·have:=aZ x8
  have:=cP x8 i9 hl6
  refine oB (cE (aT x8 i9) 0 bP) fun x15 h8=>?_
  have:=aB.wt_eq (aT x8 i9)
  refine oB (m8 (aT x8 i9) 1 bP) fun x17 h9=>oB (AM x17 bP) fun x19 h10=>?_
  have:=aZ (v11)
  have:=aB.wt_eq x15
  have:=aD.wt_mk x15.aB9 x19
  have:=cA (aD.mk x15.aB9 x19)
  refine oG fun z11=>?_
  have:=b4 v11 ([(aD.mk x15.aB9 x19)]:List aD)
  exact nT
 intro v11 h5
 refine oB (cL px bP) fun x22 _=>?_;refine oW (fun g13=>?_) fun g13=>?_
 ·have:s_.size=0:=rfl
  have:=(aW:wl ([]:LB)=0∧_)
  have:=aN.wt_mk s_ [] []
  exact oS
 have:=aZ px.aB6
 refine oD (fun g14=>?_) fun g14=>?_
 ·have:s_.size=0:=rfl
  have:=(aW:wl ([]:LB)=0∧_)
  have:=aN.wt_mk s_ [] []
  exact oS
 have:=aB.wt_eq x2
 have:=aN.wt_mk x2.aB9 x6 v11
 refine oB (tO (aN.mk x2.aB9 x6 v11) bP) fun x26 h15=>oB (gJ x26 px bP) fun x28 _=>?_;refine oW (fun g17=>?_) fun g17=>?_
 ·have:s_.size=0:=rfl
  have:=(aW:wl ([]:LB)=0∧_)
  have:=aN.wt_mk s_ [] []
  exact oS
 exact oS
def abK(fu:Nat):Prop:= ∀(px:aB),wt px≤33554432→Ok (z0 fu px) (fun r=>wl r≤4*wt px)
theorem sB:bQ abK:=(((bQ.ge 2147483648).and cE).and hZ).imp fun fu ⟨⟨hfu,cE⟩,hZ⟩ px hpre=>by
 have:=(aW:wl ([]:List aG)=0∧_)
 have:=aB.wt_eq px
 refine Q5 px.aB6 4 (fun i1 v3 hl2 hI3 _ _=>?_) ?_
 ·have:=aZ px.aB6
  have:=cP px.aB6 i1 hl2
  refine oB (cE (aT px.aB6 i1) 0 bP) fun x7 h4=>oB (cE (aT px.aB6 i1) 1 bP) fun x9 h5=>oB (hZ x9 bP) fun x11 h6=>?_
  have:=aZ (v3)
  have:=aB.wt_eq x7
  have:=aG.wt_mk x7.aB9 x11
  have:=cA (aG.mk x7.aB9 x11)
  refine oG fun z7=>?_
  have:=b4 v3 ([(aG.mk x7.aB9 x11)]:List aG)
  exact nT
 intro v3 h1
 exact oS
def aeJ(fu:Nat):Prop:= ∀(p0:List aG),wl p0≤16777216→Ok (C3 fu p0) (fun r=>wt r≤16*wl p0)
theorem uC:bQ aeJ:=((((bQ.ge 2147483648).and bN).and iW).and eL).imp fun fu ⟨⟨⟨hfu,bN⟩,iW⟩,eL⟩ p0 hpre=>by
 have:=(aW:wl ([]:List aB)=0∧_)
 refine Q5 p0 16 (fun i1 v3 hl2 hI3 _ _=>?_) ?_
 ·have:=aZ p0
  have:=cP p0 i1 hl2
  have:=aG.wt_eq (aT p0 i1)
  refine oB (bN ((aT p0 i1).aCa)) fun x7 h4=>oB (iW ((aT p0 i1).aB7) bP) fun x9 h5=>?_
  have:=kM x7 x9
  refine oB (eL ([x7,x9]:List aB) bP) fun x11 h6=>?_
  have:=aZ (v3)
  have:=cA x11
  refine oG fun z7=>?_
  have:=b4 v3 ([x11]:List aB)
  exact nT
 intro v3 h1
 have:s_.size=0:=rfl
 have:=aB.wt_mk s_ v3
 exact oS
def LN(fu:Nat):Prop:= ∀(p1:aI),wt p1≤1048576→(∀a∈p1.aCu,LF a.aCd)→Ok (tY fu p1) (fun r=>wt r≤64*wt p1+128)
theorem tR:bQ LN:=(((((((((bQ.ge 2147483648).and jZ).and iW).and eL).and bN).and fR).and uC).and u4).and o4).imp fun fu ⟨⟨⟨⟨⟨⟨⟨⟨hfu,jZ⟩,iW⟩,eL⟩,bN⟩,fR⟩,uC⟩,u4⟩,o4⟩ p1 hpre hB=>by
 refine oB (jZ p1 bP) fun x2 _=>?_;refine oW (fun g2=>?_) fun g2=>?_
 ·have:s_.size=0:=rfl
  have:=(aW:wl ([]:List aB)=0∧_)
  have:=aB.wt_mk s_ []
  exact oS
 refine Ok.sok (E:=fun v5=>wl v5≤8) ?_ ?_
 ·have:=aI.wt_eq p1
  refine oC (fun g4=>?_) fun g4=>?_
  ·have:=(aW:wl ([]:LB)=0∧_)
   have:wO.size=7:=rfl
   have:=cA wO
   have:=bA wO
   refine oG fun z5=>?_
   have:=b4 ([]:LB) ([wO]:LB)
   exact oI
  have:=(aW:wl ([]:LB)=0∧_)
  exact oI
 intro v5 h3
 have:=aI.wt_eq p1
 refine Ok.sok (E:=fun(v8,v9)=>v8.size+wl v9≤8*wt p1.aCj+16) ?_ ?_
 ·refine oC (fun g7=>?_) fun g7=>?_
  ·refine oB (iW p1.aCj bP) fun x12 h8=>?_
   have:=cA x12
   refine oB (eL ([x12]:List aB) bP) fun x14 h9=>?_
   have:=aB.wt_eq x14
   exact oI
  have:s_.size=0:=rfl
  have:=(aW:wl ([]:List aB)=0∧_)
  exact oI
 rintro⟨v8,v9⟩ h6
 dsimp only at h6
 have:R0.size=4:=rfl
 refine oB (bN R0) fun x16 h10=>oB (bN p1.aCa) fun x18 h11=>oB (fR p1.aCg bP) fun x20 h12=>oB (iW p1.aCh bP) fun x22 h13=>oB (uC p1.aCk bP) fun x24 h14=>oB (fR v5 bP) fun x26 h15=>?_
 have:=aB.wt_mk v8 v9
 have:=asU x16 x18 x20 x22 x24 x26 (aB.mk v8 v9)
 refine oB (eL ([x16,x18,x20,x22,x24,x26,(aB.mk v8 v9)]:List aB) bP) fun x28 h16=>?_
 have:=aB.wt_eq x28
 refine Q5 p1.aCu 64 (fun i29 v31 hl18 hI19 _ _=>?_) ?_
 ·have:=aZ p1.aCu
  have:=cP p1.aCu i29 hl18
  refine Ok.lt fun y34 h20=>?_
  have:=congrArg wt h20
  have:=aQ.wt_eq y34
  refine oB (bN y34.aB3) fun x37 h21=>oB (fR y34.aCg bP) fun x39 h22=>oB (u4 y34.aCd bP (by rw [show y34=aT p1.aCu i29 by assumption];exact abO hB (by assumption))) fun x41 h23=>?_
  have:=F0 x37 x39 x41
  refine oB (eL ([x37,x39,x41]:List aB) bP) fun x43 h24=>?_
  have:=aZ (v31)
  have:=aB.wt_eq x43
  have:=aB.wt_mk x43.aB9 x43.aB6
  have:=cA (aB.mk x43.aB9 x43.aB6)
  refine oG fun z25=>?_
  have:=b4 v31 ([(aB.mk x43.aB9 x43.aB6)]:List aB)
  exact nT
 intro v31 h17
 have:=aB.wt_mk x28.aB9 v31
 exact oB (o4 true (aB.mk x28.aB9 v31) bP) fun x46 h26=>oS
def LU(fu:Nat):Prop:= ∀(p1:aB),wt p1≤65536→Ok (t1 fu p1) (fun r=>wt r.1≤16*wt p1)
theorem tU:bQ LU:=((((((((((bQ.ge 2147483648).and cE).and gB).and hZ).and sB).and m8).and n0).and cL).and tR).and gJ).imp fun fu ⟨⟨⟨⟨⟨⟨⟨⟨⟨hfu,cE⟩,gB⟩,hZ⟩,sB⟩,m8⟩,n0⟩,cL⟩,tR⟩,gJ⟩ p1 hpre=>by
 refine oB (cE p1 1 bP) fun x2 h1=>oB (cE p1 2 bP) fun x4 h2=>oB (gB x4 bP) fun x6 h3=>oB (cE p1 3 bP) fun x8 h4=>oB (hZ x8 bP) fun x10 h5=>oB (cE p1 4 bP) fun x12 h6=>oB (sB x12 bP) fun x14 h7=>oB (cE p1 5 bP) fun x16 h8=>oB (cE p1 6 bP) fun x18 h9=>?_;refine Ok.sok (E:=fun(v22,v19,v20,v21)=>wl v22+v21.size≤2*wt x18) ?_ ?_
 ·have:=aB.wt_eq x18
  have:=aZ x18.aB6
  refine oD (fun g11=>?_) fun g11=>?_
  ·have:=aZ (x18.aB6)
   refine oG fun z12=>?_
   have:=cP x18.aB6 0 z12
   have:wl (List.take 1 x18.aB6)=wl (List.take 0 x18.aB6)+wt (aT x18.aB6 0)+1:=LE x18.aB6 0 z12
   refine oB (hZ (aT x18.aB6 0) bP) fun x26 h13=>?_
   have:=aA.wt_eq x26
   exact oI
  have:s_.size=0:=rfl
  have:=(aW:wl ([]:List aA)=0∧_)
  exact oI
 rintro⟨v22,v19,v20,v21⟩ h10
 dsimp only at h10
 have:=aB.wt_eq p1
 refine oB (m8 p1 7 bP) fun x28 h14=>?_
 have:=(aW:wl ([]:List aQ)=0∧_)
 refine apN (PA:=fun a=>LF a.aCd) x28 4 (fun i29 v31 hl16 hI17 hI17B _ _=>?_) ?_
 ·have:=aZ x28
  have:=cP x28 i29 hl16
  refine oB (cE (aT x28 i29) 0 bP) fun x35 h18=>oB (cE (aT x28 i29) 1 bP) fun x37 h19=>oB (gB x37 bP) fun x39 h20=>oB (cE (aT x28 i29) 2 bP) fun x41 h21=>SU (n0 x41 bP) fun x43 h22 h22B=>?_
  have:=aZ (v31)
  have:=aB.wt_eq x35
  have:=aQ.wt_mk x35.aB9 x39 x43
  have:=cA (aQ.mk x35.aB9 x39 x43)
  refine oG fun z23=>?_
  have:=b4 v31 ([(aQ.mk x35.aB9 x39 x43)]:List aQ)
  exact oX hI17B
 rintro v31 ⟨h15,h15B⟩
 refine oB (cL p1 bP) fun x46 _=>?_;refine oW (fun g25=>?_) fun g25=>?_
 ·have:s_.size=0:=rfl
  have:=(aW:wl ([]:List aA)=0∧_)
  have:=aA.wt_mk 0 s_ []
  have:=(aW:wl ([]:LB)=0∧_)
  have:=(aW:wl ([]:List aG)=0∧_)
  have:=aI.wt_mk s_ [] (aA.mk 0 s_ []) [] false false (aA.mk 0 s_ []) []
  exact oS
 have:=aZ p1.aB6
 refine oD (fun g26=>?_) fun g26=>?_
 ·have:s_.size=0:=rfl
  have:=(aW:wl ([]:List aA)=0∧_)
  have:=aA.wt_mk 0 s_ []
  have:=(aW:wl ([]:LB)=0∧_)
  have:=(aW:wl ([]:List aG)=0∧_)
  have:=aI.wt_mk s_ [] (aA.mk 0 s_ []) [] false false (aA.mk 0 s_ []) []
  exact oS
 have:=aB.wt_eq x2
 have:=aB.wt_eq x16
 have:=aZ x16.aB6
 have:=aA.wt_mk v20 v21 v22
 have:=aI.wt_mk x2.aB9 x6 x10 x14 (decide ((x16.aB6.length:Int)>0)) v19 (aA.mk v20 v21 v22) v31
 refine oB (tR (aI.mk x2.aB9 x6 x10 x14 (decide ((x16.aB6.length:Int)>0)) v19 (aA.mk v20 v21 v22) v31) bP (by first|assumption|trivial)) fun x50 h27=>oB (gJ x50 p1 bP) fun x52 _=>?_;refine oW (fun g29=>?_) fun g29=>?_
 ·have:s_.size=0:=rfl
  have:=(aW:wl ([]:List aA)=0∧_)
  have:=aA.wt_mk 0 s_ []
  have:=(aW:wl ([]:LB)=0∧_)
  have:=(aW:wl ([]:List aG)=0∧_)
  have:=aI.wt_mk s_ [] (aA.mk 0 s_ []) [] false false (aA.mk 0 s_ []) []
  exact oS
 exact oS
def LM(fu:Nat):Prop:= ∀(pf:aP),wt pf≤1048576→(LF pf.aCd)→Ok (tX fu pf) (fun r=>wt r≤64*wt pf+128)
theorem tP:bQ LM:=(((((((((bQ.ge 2147483648).and jY).and bN).and iW).and eL).and fR).and uC).and u4).and o4).imp fun fu ⟨⟨⟨⟨⟨⟨⟨⟨hfu,jY⟩,bN⟩,iW⟩,eL⟩,fR⟩,uC⟩,u4⟩,o4⟩ pf hpre hB=>by
 refine oB (jY pf bP) fun x2 _=>?_;refine oW (fun g2=>?_) fun g2=>?_
 ·have:s_.size=0:=rfl
  have:=(aW:wl ([]:List aB)=0∧_)
  have:=aB.wt_mk s_ []
  exact oS
 have:=(aW:wl ([]:List aB)=0∧_)
 have:=aP.wt_eq pf
 refine Q5 pf.aCn 16 (fun i4 v6 hl4 hI5 _ _=>?_) ?_
 ·have:=aZ pf.aCn
  have:=cP pf.aCn i4 hl4
  have:=aV.wt_eq (aT pf.aCn i4)
  refine oB (bN ((aT pf.aCn i4).aB3)) fun x10 h6=>oB (iW ((aT pf.aCn i4).aB7) bP) fun x12 h7=>?_
  have:=kM x10 x12
  refine oB (eL ([x10,x12]:List aB) bP) fun x14 h8=>?_
  have:=aZ (v6)
  have:=cA x14
  refine oG fun z9=>?_
  have:=b4 v6 ([x14]:List aB)
  exact nT
 intro v6 h3
 have:amN.size=2:=rfl
 refine oB (bN amN) fun x17 h10=>oB (bN pf.aB3) fun x19 h11=>oB (fR pf.aCg bP) fun x21 h12=>oB (uC pf.aCk bP) fun x23 h13=>oB (iW pf.aCl bP) fun x25 h14=>oB (u4 pf.aCd bP (by first|assumption|trivial)) fun x27 h15=>?_
 have:s_.size=0:=rfl
 have:=aB.wt_mk s_ v6
 have:=asU x17 x19 x21 x23 (aB.mk s_ v6) x25 x27
 exact oB (eL ([x17,x19,x21,x23,(aB.mk s_ v6),x25,x27]:List aB) bP) fun x29 h16=>oB (o4 true x29 bP) fun x31 h17=>oS
def LT(fu:Nat):Prop:= ∀(p1:aB),wt p1≤65536→Ok (t0 fu p1) (fun r=>wt r.1≤16*wt p1)
theorem tT:bQ LT:=(((((((((bQ.ge 2147483648).and cE).and gB).and sB).and hZ).and n0).and cL).and tP).and gJ).imp fun fu ⟨⟨⟨⟨⟨⟨⟨⟨hfu,cE⟩,gB⟩,sB⟩,hZ⟩,n0⟩,cL⟩,tP⟩,gJ⟩ p1 hpre=>by
 refine oB (cE p1 1 bP) fun x2 h1=>oB (cE p1 2 bP) fun x4 h2=>oB (gB x4 bP) fun x6 h3=>oB (cE p1 3 bP) fun x8 h4=>oB (sB x8 bP) fun x10 h5=>oB (cE p1 5 bP) fun x12 h6=>oB (hZ x12 bP) fun x14 h7=>oB (cE p1 6 bP) fun x16 h8=>SU (n0 x16 bP) fun x18 h9 h9B=>oB (cE p1 4 bP) fun x20 h10=>?_
 have:=(aW:wl ([]:List aV)=0∧_)
 have:=aB.wt_eq x20
 refine Q5 x20.aB6 4 (fun i21 v23 hl12 hI13 _ _=>?_) ?_
 ·have:=aZ x20.aB6
  have:=cP x20.aB6 i21 hl12
  refine oB (cE (aT x20.aB6 i21) 0 bP) fun x27 h14=>oB (cE (aT x20.aB6 i21) 1 bP) fun x29 h15=>oB (hZ x29 bP) fun x31 h16=>?_
  have:=aZ (v23)
  have:=aB.wt_eq x27
  have:=aV.wt_mk x27.aB9 x31
  have:=cA (aV.mk x27.aB9 x31)
  refine oG fun z17=>?_
  have:=b4 v23 ([(aV.mk x27.aB9 x31)]:List aV)
  exact nT
 intro v23 h11
 refine oB (cL p1 bP) fun x34 _=>?_;refine oW (fun g19=>?_) fun g19=>?_
 ·have:s_.size=0:=rfl
  have:=(aW:wl ([]:List aA)=0∧_)
  have:=aA.wt_mk 0 s_ []
  have:=(aW:wl ([]:List aL)=0∧_)
  have:=(aW:wl ([]:List bS)=0∧_)
  have:=aL.wt_mk 0 s_ s_ 0 (aA.mk 0 s_ []) [] []
  have:=(aW:wl ([]:LB)=0∧_)
  have:=(aW:wl ([]:List aG)=0∧_)
  have:=aP.wt_mk s_ [] [] [] (aA.mk 0 s_ []) (aL.mk 0 s_ s_ 0 (aA.mk 0 s_ []) [] [])
  exact oS
 have:=aB.wt_eq p1
 have:=aZ p1.aB6
 refine oD (fun g20=>?_) fun g20=>?_
 ·have:s_.size=0:=rfl
  have:=(aW:wl ([]:List aA)=0∧_)
  have:=aA.wt_mk 0 s_ []
  have:=(aW:wl ([]:List aL)=0∧_)
  have:=(aW:wl ([]:List bS)=0∧_)
  have:=aL.wt_mk 0 s_ s_ 0 (aA.mk 0 s_ []) [] []
  have:=(aW:wl ([]:LB)=0∧_)
  have:=(aW:wl ([]:List aG)=0∧_)
  have:=aP.wt_mk s_ [] [] [] (aA.mk 0 s_ []) (aL.mk 0 s_ s_ 0 (aA.mk 0 s_ []) [] [])
  exact oS
 have:=aB.wt_eq x2
 have:=aP.wt_mk x2.aB9 x6 x10 v23 x14 x18
 refine oB (tP (aP.mk x2.aB9 x6 x10 v23 x14 x18) bP (by first|assumption|trivial)) fun x38 h21=>oB (gJ x38 p1 bP) fun x40 _=>?_;refine oW (fun g23=>?_) fun g23=>?_
 ·have:s_.size=0:=rfl
  have:=(aW:wl ([]:List aA)=0∧_)
  have:=aA.wt_mk 0 s_ []
  have:=(aW:wl ([]:List aL)=0∧_)
  have:=(aW:wl ([]:List bS)=0∧_)
  have:=aL.wt_mk 0 s_ s_ 0 (aA.mk 0 s_ []) [] []
  have:=(aW:wl ([]:LB)=0∧_)
  have:=(aW:wl ([]:List aG)=0∧_)
  have:=aP.wt_mk s_ [] [] [] (aA.mk 0 s_ []) (aL.mk 0 s_ s_ 0 (aA.mk 0 s_ []) [] [])
  exact oS
 exact oS
end Go.Proofs.YtfcoaagbccmahaaGreat.W

namespace Go.Proofs.YtfcoaagbccmahaaGreat.W
set_option maxRecDepth 20000
set_option maxHeartbeats 4000000
open Go.RowKit Go.WalkArith Go.IntWalk
def abI(fu:Nat):Prop:= ∀(ps:ByteArray) (p4:UInt8),ps.size≤1073741824→Ok (F9 fu ps p4) (fun r=>wl r≤ps.size+1)
theorem FW:bQ abI:=(bQ.ge 2147483648).imp fun fu hfu ps p4 hpre=>by
 have:=(aW:wl ([]:LB)=0∧_)
 refine Ok.sok (E:=fun(v4,v2,v3)=>wl v4≤ps.size+1) ?_ ?_
 ·refine Ok.loopW (fun(v4,v2,v3)=>0≤v2∧v2≤v3∧v3≤(ps.size:Int)+1∧(wl v4:Int)≤v2) (fun(v4,v2,v3)=>((ps.size:Int)+2-v3).toNat) ?_ _ _ bP bP
  rintro⟨v4,v2,v3⟩ hI3
  try dsimp only at hI3
  refine oD (fun g4=>?_) fun g4=>?_
  ·refine oD (fun g5=>?_) fun g5=>?_
   ·refine oG fun z6=>?_
    have:=aZ (v4)
    have:=FM ps (v2:Int).toNat (v3:Int).toNat
    have:=cA (ps.extract (v2:Int).toNat (v3:Int).toNat)
    have:=bA (ps.extract (v2:Int).toNat (v3:Int).toNat)
    refine oG fun z7=>?_
    have:=b4 v4 ([(ps.extract (v2:Int).toNat (v3:Int).toNat)]:LB)
    have:=eO (v3+1)
    exact nT
   refine oG fun z8=>?_;refine oD (fun g9=>?_) fun g9=>?_
   ·refine oG fun z10=>?_
    have:=aZ (v4)
    have:=FM ps (v2:Int).toNat (v3:Int).toNat
    have:=cA (ps.extract (v2:Int).toNat (v3:Int).toNat)
    have:=bA (ps.extract (v2:Int).toNat (v3:Int).toNat)
    refine oG fun z11=>?_
    have:=b4 v4 ([(ps.extract (v2:Int).toNat (v3:Int).toNat)]:LB)
    have:=eO (v3+1)
    exact nT
   have:=eO (v3+1)
   exact nT
  exact oK
 rintro⟨v4,v2,v3⟩ h1
 dsimp only at h1
 exact oS
def aeL(fu:Nat):Prop:= ∀(ps:ByteArray),ps.size≤1073741824→Ok (IY fu ps) (fun _=>True)
theorem IF:bQ aeL:=(bQ.ge 2147483648).imp fun fu hfu ps hpre=>by
 refine G8 ?_ ?_
 ·refine Ok.loop1 ?_;rintro i1 ⟨⟩ hl2
  exact oG fun z4=>oN (fun _=>oR) fun g5=>nT
 rintro⟨⟩-
 exact oS
def ah4(fu:Nat):Prop:= ∀(p1:ByteArray×(LB)×(List aU)×(List aN)×(List aI)×(List aP)) (p2:aB),wt p2≤65536∧wl p1.2.2.1+wl p1.2.2.2.1+wl p1.2.2.2.2.1+wl p1.2.2.2.2.2≤1073741824→Ok (M3 fu p1 p2) (fun r=>r.2.1.size+wl r.2.2.1+wl r.2.2.2.1+wl r.2.2.2.2.1+wl r.2.2.2.2.2.1+wl r.2.2.2.2.2.2≤p1.1.size+wl p1.2.1+wl p1.2.2.1+wl p1.2.2.2.1+wl p1.2.2.2.2.1+wl p1.2.2.2.2.2+16*wt p2+1)
theorem MI:bQ ah4:=((((((bQ.ge 2147483648).and cE).and yU).and tS).and tU).and tT).imp fun fu ⟨⟨⟨⟨⟨hfu,cE⟩,yU⟩,tS⟩,tU⟩,tT⟩ p1 p2 hpre=>by
 have:=aZ p1.2.2.1
 have:=aZ p1.2.2.2.1
 have:=aZ p1.2.2.2.2.1
 have:=aZ p1.2.2.2.2.2
 refine oB (cE p2 0 bP) fun x2 h1=>?_
 have:=aB.wt_eq x2
 have:JU.size=5:=rfl
 refine oD (fun g2=>?_) fun g2=>?_
 ·have:=congrArg ByteArray.size g2
  refine wL (yU p2 bP) fun x5 x6 h3=>?_
  dsimp only at h3
  have:=aZ (p1.2.2.1)
  have:=cA x5
  refine oG fun z4=>?_
  have:=b4 p1.2.2.1 ([x5]:List aU)
  exact oS
 have:RZ.size=4:=rfl
 refine oD (fun g5=>?_) fun g5=>?_
 ·have:=congrArg ByteArray.size g5
  refine wL (tS p2 bP) fun x10 x11 h6=>?_
  dsimp only at h6
  have:=aZ (p1.2.2.2.1)
  have:=cA x10
  refine oG fun z7=>?_
  have:=b4 p1.2.2.2.1 ([x10]:List aN)
  exact oS
 have:R0.size=4:=rfl
 refine oD (fun g8=>?_) fun g8=>?_
 ·have:=congrArg ByteArray.size g8
  refine wL (tU p2 bP) fun x15 x16 h9=>?_
  dsimp only at h9
  have:=aZ (p1.2.2.2.2.1)
  have:=cA x15
  refine oG fun z10=>?_
  have:=b4 p1.2.2.2.2.1 ([x15]:List aI)
  exact oS
 have:amN.size=2:=rfl
 refine oD (fun g11=>?_) fun g11=>?_
 ·have:=congrArg ByteArray.size g11
  refine wL (tT p2 bP) fun x20 x21 h12=>?_
  dsimp only at h12
  have:=cA x20
  refine oG fun z13=>?_
  have:=b4 p1.2.2.2.2.2 ([x20]:List aP)
  exact oS
 exact oS
def aeM(fu:Nat):Prop:= ∀(p0:aM),wt p0≤4194304→Ok (IZ fu p0) (fun _=>True)
theorem IG:bQ aeM:=(bQ.ge 2147483648).imp fun fu hfu p0 hpre=>by
 have:=(aW:wl ([]:LB)=0∧_)
 have:=aM.wt_eq p0
 refine Q5 p0.aCi 1 (fun i1 v3 hl2 hI3 _ _=>?_) ?_
 ·have:=aZ p0.aCi
  have:=aZ (v3)
  have:=cP p0.aCi i1 hl2
  have:=aU.wt_eq (aT p0.aCi i1)
  have:=cA ((aT p0.aCi i1).aB3)
  have:=bA ((aT p0.aCi i1).aB3)
  refine oG fun z4=>?_
  have:=b4 v3 ([((aT p0.aCi i1).aB3)]:LB)
  exact nT
 intro v3 h1
 refine Ok.sok (E:=fun(v10,v11)=>wl v10+1*wl (List.take 0 p0.aCb)≤wl ([]:LB)+1*wl p0.aCb∧wl v11+1*wl (List.take 0 p0.aCb)≤wl ([]:LB)+1*wl p0.aCb) ?_ ?_
 ·refine Ok.loop0 (fun i7 (v10,v11)=>wl v10+1*wl (List.take 0 p0.aCb)≤wl ([]:LB)+1*wl (List.take i7 p0.aCb)∧wl v11+1*wl (List.take 0 p0.aCb)≤wl ([]:LB)+1*wl (List.take i7 p0.aCb)) (by exact bP) (by rintro i7 ⟨v10,v11⟩-hI;have:=oM p0.aCb i7;(try dsimp only at hI ⊢);omega) ?_;rintro i7 ⟨v10,v11⟩ hl6 hI7
  dsimp only at hI7
  have:=aZ p0.aCb
  have:=oO p0.aCb i7 hl6
  have:=oM p0.aCb (i7+1)
  have:=aZ (v10)
  have:=cP p0.aCb i7 hl6
  have:=aN.wt_eq (aT p0.aCb i7)
  have:=cA ((aT p0.aCb i7).aB3)
  have:=bA ((aT p0.aCb i7).aB3)
  refine oG fun z8=>?_;refine Q5 ((aT p0.aCb i7).aB8) 1 (fun i15 v17 hl10 hI11 _ _=>?_) ?_
  ·have:=aZ ((aT p0.aCb i7).aB8)
   have:=aZ (v17)
   have:=cP ((aT p0.aCb i7).aB8) i15 hl10
   have:=aD.wt_eq (aT ((aT p0.aCb i7).aB8) i15)
   have:=cA ((aT ((aT p0.aCb i7).aB8) i15).aB3)
   have:=bA ((aT ((aT p0.aCb i7).aB8) i15).aB3)
   refine oG fun z12=>?_
   have:=b4 v17 ([((aT ((aT p0.aCb i7).aB8) i15).aB3)]:LB)
   exact nT
  intro v17 h9
  have:=b4 v10 ([((aT p0.aCb i7).aB3)]:LB)
  exact nT
 rintro⟨v10,v11⟩ h5
 dsimp only at h5
 refine Q5 p0.aCr 1 (fun i21 v23 hl14 hI15 _ _=>?_) ?_
 ·have:=aZ p0.aCr
  have:=cP p0.aCr i21 hl14
  refine Ok.lt fun y26 h16=>?_
  have:=congrArg wt h16
  have:=aZ (v23)
  have:=aP.wt_eq y26
  have:=cA y26.aB3
  have:=bA y26.aB3
  refine oG fun z17=>?_
  have:=b4 v23 ([y26.aB3]:LB)
  exact nT
 intro v23 h13
 exact oS
def aeN(fu:Nat):Prop:= ∀(pp:aM),wt pp≤4194304→Ok (yA fu pp) (fun _=>True)
theorem IH:bQ aeN:=(((((bQ.ge 2147483648).and mE).and jX).and jZ).and jY).imp fun fu ⟨⟨⟨⟨hfu,mE⟩,jX⟩,jZ⟩,jY⟩ pp hpre=>by
 refine G8 ?_ ?_
 ·refine Ok.loop1 ?_;rintro i1 ⟨⟩ hl2
  have:=aM.wt_eq pp
  have:=aZ pp.aCi
  have:=cP pp.aCi i1 hl2
  exact oB (mE (aT pp.aCi i1) bP) fun x5 _=>oW (fun _=>oR) fun g5=>nT
 rintro⟨⟩-
 refine G8 ?_ ?_
 ·refine Ok.loop1 ?_;rintro i7 ⟨⟩ hl7
  have:=aM.wt_eq pp
  have:=aZ pp.aCb
  have:=cP pp.aCb i7 hl7
  exact oB (jX (aT pp.aCb i7) bP) fun x11 _=>oW (fun _=>oR) fun g10=>nT
 rintro⟨⟩-
 refine G8 ?_ ?_
 ·refine Ok.loop1 ?_;rintro i13 ⟨⟩ hl12
  have:=aM.wt_eq pp
  have:=aZ pp.aCe
  have:=cP pp.aCe i13 hl12
  refine Ok.lt fun y16 h14=>?_
  have:=congrArg wt h14
  exact oB (jZ y16 bP) fun x19 _=>oW (fun _=>oR) fun g16=>nT
 rintro⟨⟩-
 refine G8 ?_ ?_
 ·refine Ok.loop1 ?_;rintro i21 ⟨⟩ hl18
  have:=aM.wt_eq pp
  have:=aZ pp.aCr
  have:=cP pp.aCr i21 hl18
  refine Ok.lt fun y24 h20=>?_
  have:=congrArg wt h20
  exact oB (jY y24 bP) fun x27 _=>oW (fun _=>oR) fun g22=>nT
 rintro⟨⟩-
 exact oS
def NN(fu:Nat):Prop:= ∀(p0:aM),wt p0≤4194304→Ok (mW fu p0) (fun _=>True)
theorem uZ:bQ NN:=(((((((bQ.ge 2147483648).and IG).and bL).and c4).and dT).and eI).and IH).imp fun fu ⟨⟨⟨⟨⟨⟨hfu,IG⟩,bL⟩,c4⟩,dT⟩,eI⟩,IH⟩ p0 hpre=>by
 refine oB4 (IG p0 bP) fun x2 x3 x4 x5 _=>?_
 have:=aM.wt_eq p0
 refine oB (bL p0.aB3) fun x7 _=>oW (fun _=>oS) fun g3=>oB (c4 p0.aCE 5) fun x10 _=>oW (fun _=>oS) fun g5=>oB (dT p0.aCE p0.aB3) fun x13 _=>oC (fun _=>oS) fun g7=>?_
 have:=aZ p0.aCi
 have:=aZ p0.aCb
 have:=eO ((p0.aCi.length:Int)+(p0.aCb.length:Int))
 have:=aZ p0.aCe
 have:=eO ((aX ((p0.aCi.length:Int)+(p0.aCb.length:Int)))+(p0.aCe.length:Int))
 have:=aZ p0.aCr
 have:=eO ((aX ((aX ((p0.aCi.length:Int)+(p0.aCb.length:Int)))+(p0.aCe.length:Int)))+(p0.aCr.length:Int))
 refine oD (fun _=>oS) fun g8=>oB (eI x2) fun x17 _=>?_;refine oC (fun g10=>?_) fun g10=>?_
 ·refine oB (eI x3) fun x20 _=>?_;refine oC (fun g12=>?_) fun g12=>?_
  ·refine oB (eI x4) fun x23 _=>?_;refine oC (fun g14=>?_) fun g14=>?_
   ·refine oB (eI x5) fun x26 _=>?_;refine oC (fun g16=>?_) fun g16=>?_
    ·exact oB (IH p0 bP) fun x29 _=>oS
    exact oS
   exact oS
  exact oS
 exact oS
def NO(fu:Nat):Prop:= ∀(p0:aB),wt p0≤65536→Ok (mX fu p0) (fun r=>wt r.1≤20*wt p0)
theorem u0:bQ NO:=((((((bQ.ge 2147483648).and cE).and iL).and cL).and MI).and uZ).imp fun fu ⟨⟨⟨⟨⟨hfu,cE⟩,iL⟩,cL⟩,MI⟩,uZ⟩ p0 hpre=>by
 refine oB (cE p0 2 bP) fun x2 h1=>?_
 have:=aB.wt_eq x2
 refine wL (iL x2.aB6 bP) fun x4 x5 h2=>?_
 dsimp only at h2
 refine oB (cE p0 1 bP) fun x7 h3=>oB (cL p0 bP) fun x9 _=>?_;refine oW (fun g5=>?_) fun g5=>?_
 ·have:s_.size=0:=rfl
  have:=(aW:wl ([]:LB)=0∧_)
  have:=(aW:wl ([]:List aU)=0∧_)
  have:=(aW:wl ([]:List aN)=0∧_)
  have:=(aW:wl ([]:List aI)=0∧_)
  have:=(aW:wl ([]:List aP)=0∧_)
  have:=aM.wt_mk s_ [] [] [] [] []
  exact oS
 have:=aB.wt_eq p0
 have:=aZ p0.aB6
 refine oD (fun g6=>?_) fun g6=>?_
 ·have:s_.size=0:=rfl
  have:=(aW:wl ([]:LB)=0∧_)
  have:=(aW:wl ([]:List aU)=0∧_)
  have:=(aW:wl ([]:List aN)=0∧_)
  have:=(aW:wl ([]:List aI)=0∧_)
  have:=(aW:wl ([]:List aP)=0∧_)
  have:=aM.wt_mk s_ [] [] [] [] []
  exact oS
 have:=aZ (p0.aB6)
 refine oG fun z7=>?_
 have:=cP p0.aB6 0 z7
 have:wl (List.take 1 p0.aB6)=wl (List.take 0 p0.aB6)+wt (aT p0.aB6 0)+1:=LE p0.aB6 0 z7
 have:=aB.wt_eq (aT p0.aB6 0)
 have:aaU.size=7:=rfl
 refine oN (fun g8=>?_) fun g8=>?_
 ·have:s_.size=0:=rfl
  have:=(aW:wl ([]:LB)=0∧_)
  have:=(aW:wl ([]:List aU)=0∧_)
  have:=(aW:wl ([]:List aN)=0∧_)
  have:=(aW:wl ([]:List aI)=0∧_)
  have:=(aW:wl ([]:List aP)=0∧_)
  have:=aM.wt_mk s_ [] [] [] [] []
  exact oS
 have:=congrArg ByteArray.size g8
 refine oG fun z9=>?_
 have:=cP p0.aB6 2 z9
 have:wl (List.take 3 p0.aB6)=wl (List.take 2 p0.aB6)+wt (aT p0.aB6 2)+1:=LE p0.aB6 2 z9
 have:=aB.wt_eq (aT p0.aB6 2)
 have:s_.size=0:=rfl
 refine oN (fun g10=>?_) fun g10=>?_
 ·have:=HY g10
  have:=(aW:wl ([]:LB)=0∧_)
  have:=(aW:wl ([]:List aU)=0∧_)
  have:=(aW:wl ([]:List aN)=0∧_)
  have:=(aW:wl ([]:List aI)=0∧_)
  have:=(aW:wl ([]:List aP)=0∧_)
  have:=aM.wt_mk s_ [] [] [] [] []
  exact oS
 refine oW (fun g11=>?_) fun g11=>?_
 ·have:=(aW:wl ([]:LB)=0∧_)
  have:=(aW:wl ([]:List aU)=0∧_)
  have:=(aW:wl ([]:List aN)=0∧_)
  have:=(aW:wl ([]:List aI)=0∧_)
  have:=(aW:wl ([]:List aP)=0∧_)
  have:=aM.wt_mk s_ [] [] [] [] []
  exact oS
 have:=(aW:wl ([]:List aU)=0∧_)
 have:=(aW:wl ([]:List aN)=0∧_)
 have:=(aW:wl ([]:List aI)=0∧_)
 have:=(aW:wl ([]:List aP)=0∧_)
 have:=aB.wt_eq x7
 refine Ok.sok (E:=fun(v18,v19,v24,v25,v26,v27)=>v18.size+wl v19+wl v24+wl v25+wl v26+wl v27≤x7.aB9.size+wl x4+16*wl p0.aB6) ?_ ?_
 ·refine Ok.loop0 (fun i17 (v18,v19,v24,v25,v26,v27)=>v18.size+wl v19+wl v24+wl v25+wl v26+wl v27≤x7.aB9.size+wl x4+16*wl (List.take i17 p0.aB6)) (by exact bP) (by rintro i17 ⟨v18,v19,v24,v25,v26,v27⟩-hI;have:=oM p0.aB6 i17;(try dsimp only at hI ⊢);omega) ?_;rintro i17 ⟨v18,v19,v24,v25,v26,v27⟩ hl13 hI14
  dsimp only at hI14
  have:=oO p0.aB6 i17 hl13
  have:=oM p0.aB6 (i17+1)
  have:=cP p0.aB6 i17 hl13
  refine wL (MI (v18,v19,v24,v25,v26,v27) (aT p0.aB6 i17) bP) fun x31 x32 h15=>?_
  dsimp only at h15
  refine oW (fun g16=>?_) fun g16=>?_
  ·have:=(aW:wl ([]:LB)=0∧_)
   have:=(aW:wl ([]:List aU)=0∧_)
   have:=(aW:wl ([]:List aN)=0∧_)
   have:=(aW:wl ([]:List aI)=0∧_)
   have:=(aW:wl ([]:List aP)=0∧_)
   have:=aM.wt_mk s_ [] [] [] [] []
   exact oR
  exact nT
 rintro⟨v18,v19,v24,v25,v26,v27⟩ h12
 dsimp only at h12
 have:=aM.wt_mk v18 v19 v24 v25 v26 v27
 refine oB (uZ (aM.mk v18 v19 v24 v25 v26 v27) bP) fun x35 _=>?_;refine oW (fun g18=>?_) fun g18=>?_
 ·have:=(aW:wl ([]:LB)=0∧_)
  have:=(aW:wl ([]:List aU)=0∧_)
  have:=(aW:wl ([]:List aN)=0∧_)
  have:=(aW:wl ([]:List aI)=0∧_)
  have:=(aW:wl ([]:List aP)=0∧_)
  have:=aM.wt_mk s_ [] [] [] [] []
  exact oS
 exact oS
def TB(fu:Nat):Prop:= ∀(ps:ByteArray),ps.size≤16384→Ok (tL fu ps) (fun r=>wt r.1≤40*ps.size)
theorem yR:bQ TB:=(((bQ.ge 2147483648).and DI).and u0).imp fun fu ⟨⟨hfu,DI⟩,u0⟩ ps hpre=>by
 refine wL (DI ps bP) fun x2 x3 h1=>?_
 dsimp only at h1
 refine oW (fun g2=>?_) fun g2=>?_
 ·have:s_.size=0:=rfl
  have:=(aW:wl ([]:LB)=0∧_)
  have:=(aW:wl ([]:List aU)=0∧_)
  have:=(aW:wl ([]:List aN)=0∧_)
  have:=(aW:wl ([]:List aI)=0∧_)
  have:=(aW:wl ([]:List aP)=0∧_)
  have:=aM.wt_mk s_ [] [] [] [] []
  exact oS
 refine wL (u0 x2 bP) fun x6 x7 h3=>?_
 dsimp only at h3
 exact oS
def TD(fu:Nat):Prop:= ∀(ps:ByteArray),ps.size≤8192→Ok (o5 fu ps) (fun r=>wt r.1≤40*(ps.size+1))
theorem yS:bQ TD:=((((bQ.ge 2147483648).and FW).and IF).and yR).imp fun fu ⟨⟨⟨hfu,FW⟩,IF⟩,yR⟩ ps hpre=>by
 refine oB (FW ps (10:UInt8) bP) fun x2 h1=>?_
 have:=(aW:wl ([]:List aM)=0∧_)
 refine Q5 x2 40 (fun i3 v5 hl3 hI4 _ _=>?_) ?_
 ·have:=aZ x2
  have:=cP x2 i3 hl3
  have:=bA (aT x2 i3)
  refine oB (IF (aT x2 i3) bP) fun x9 _=>oC (fun _=>nT) fun g6=>wL (yR (aT x2 i3) bP) fun x12 x13 h7=>?_
  dsimp only at h7
  refine oW (fun g8=>?_) fun g8=>?_
  ·have:=aE.wt_mk []
   have:=aZ v5
   exact oR
  have:=aZ v5
  refine oD (fun g9=>?_) fun g9=>?_
  ·have:=aE.wt_mk []
   exact oR
  have:=aZ (v5)
  have:=cA x12
  refine oG fun z10=>?_
  have:=b4 v5 ([x12]:List aM)
  exact nT
 intro v5 h2
 have:=aE.wt_mk v5
 exact oS
def ah3(fu:Nat):Prop:= ∀(pc:DS),Ok (M2 fu pc) (fun r=>r.1.size≤4000)
theorem MH:bQ ah3:=(bQ.ge 2147483648).imp fun fu hfu pc=>by
 have:cM.size=110:=rfl
 have:cN.size=156:=rfl
 refine oG fun z1=>?_
 have:=eV cM cN
 have:cU.size=119:=rfl
 refine oG fun z2=>?_
 have:=eV (cM++cN) cU
 have:cZ.size=86:=rfl
 refine oG fun z3=>Ok.lt fun d4 h4=>?_;refine oC (fun g5=>?_) fun g5=>?_
 ·have:=eV ((cM++cN)++cU) cZ
  have:jQ.size=120:=rfl
  refine oG fun z6=>?_
  have:=eV (((cM++cN)++cU)++cZ) jQ
  have:dX.size=127:=rfl
  refine oG fun z7=>?_
  have:=eV ((((cM++cN)++cU)++cZ)++jQ) dX
  have:eQ.size=95:=rfl
  refine oG fun z8=>?_
  have:=eV (((((cM++cN)++cU)++cZ)++jQ)++dX) eQ
  have:fV.size=107:=rfl
  refine oG fun z9=>?_
  have:=eV ((((((cM++cN)++cU)++cZ)++jQ)++dX)++eQ) fV
  have:iN.size=51:=rfl
  refine oG fun z10=>?_
  have:=eV (((((((cM++cN)++cU)++cZ)++jQ)++dX)++eQ)++fV) iN
  have:k8.size=140:=rfl
  refine oG fun z11=>?_
  have:=eV ((((((((cM++cN)++cU)++cZ)++jQ)++dX)++eQ)++fV)++iN) k8
  have:oY.size=90:=rfl
  refine oG fun z12=>?_
  have:=eV (((((((((cM++cN)++cU)++cZ)++jQ)++dX)++eQ)++fV)++iN)++k8) oY
  have:CD.size=1:=rfl
  refine oG fun z13=>?_
  have:=eV ((((((((((cM++cN)++cU)++cZ)++jQ)++dX)++eQ)++fV)++iN)++k8)++oY) CD
  exact oS
 have:=eV ((cM++cN)++cU) cZ
 have:jR.size=147:=rfl
 refine oG fun z14=>?_
 have:=eV (((cM++cN)++cU)++cZ) jR
 have:dX.size=127:=rfl
 refine oG fun z15=>?_
 have:=eV ((((cM++cN)++cU)++cZ)++jR) dX
 have:eQ.size=95:=rfl
 refine oG fun z16=>?_
 have:=eV (((((cM++cN)++cU)++cZ)++jR)++dX) eQ
 have:fV.size=107:=rfl
 refine oG fun z17=>?_
 have:=eV ((((((cM++cN)++cU)++cZ)++jR)++dX)++eQ) fV
 have:iN.size=51:=rfl
 refine oG fun z18=>?_
 have:=eV (((((((cM++cN)++cU)++cZ)++jR)++dX)++eQ)++fV) iN
 have:k8.size=140:=rfl
 refine oG fun z19=>?_
 have:=eV ((((((((cM++cN)++cU)++cZ)++jR)++dX)++eQ)++fV)++iN) k8
 have:oY.size=90:=rfl
 refine oG fun z20=>?_
 have:=eV (((((((((cM++cN)++cU)++cZ)++jR)++dX)++eQ)++fV)++iN)++k8) oY
 have:CD.size=1:=rfl
 refine oG fun z21=>?_
 have:=eV ((((((((((cM++cN)++cU)++cZ)++jR)++dX)++eQ)++fV)++iN)++k8)++oY) CD
 exact oS
def alF(fu:Nat):Prop:= ∀(pc:DS),Ok (R5 fu pc) (fun r=>r.1.size≤3000)
theorem QR:bQ alF:=(bQ.ge 2147483648).imp fun fu hfu pc=>by
 refine Ok.sok (E:=fun(v1,v2)=>v1.size≤1000) ?_ ?_
 ·refine Ok.lt fun d3 h2=>?_;refine oC (fun g3=>?_) fun g3=>?_
  ·have:eP.size=50:=rfl
   have:N5.size=38:=rfl
   refine oG fun z4=>?_
   have:=eV eP N5
   exact oI
  refine oC (fun g5=>?_) fun g5=>?_
  ·have:eP.size=50:=rfl
   have:N3.size=64:=rfl
   refine oG fun z6=>?_
   have:=eV eP N3
   exact oI
  refine oC (fun g7=>?_) fun g7=>?_
  ·have:eP.size=50:=rfl
   have:NX.size=83:=rfl
   refine oG fun z8=>?_
   have:=eV eP NX
   exact oI
  refine oC (fun g9=>?_) fun g9=>?_
  ·have:eP.size=50:=rfl
   have:NZ.size=45:=rfl
   refine oG fun z10=>?_
   have:=eV eP NZ
   exact oI
  refine oC (fun g11=>?_) fun g11=>?_
  ·have:eP.size=50:=rfl
   have:NY.size=90:=rfl
   refine oG fun z12=>?_
   have:=eV eP NY
   exact oI
  refine oC (fun g13=>?_) fun g13=>?_
  ·have:eP.size=50:=rfl
   have:N2.size=45:=rfl
   refine oG fun z14=>?_
   have:=eV eP N2
   exact oI
  have:eP.size=50:=rfl
  have:N0.size=64:=rfl
  refine oG fun z15=>?_
  have:=eV eP N0
  exact oI
 rintro⟨v1,v2⟩ h1
 dsimp only at h1
 have:oV.size=23:=rfl
 refine oG fun z16=>?_
 have:EC.size=13:=rfl
 have:EB.size=68:=rfl
 have:D9.size=29:=rfl
 have:ED.size=43:=rfl
 have:D8.size=68:=rfl
 have:EG.size=25:=rfl
 have:EH.size=29:=rfl
 have:EE.size=45:=rfl
 have:EF.size=65:=rfl
 have:D7.size=43:=rfl
 have:wl ([EC,EB,D9,ED,D8,EG,EH,EE,EF,D7]:LB)=438:=rfl
 refine Ok.lt fun d19 h17=>Ok.lt fun y21 h18=>?_
 have:=congrArg wt h18
 simp only [bA] at this
 have:y21.size≤200:=by rw [h18];exact DS.pick_size _ (by decide) (by decide)
 have:=eV v1 oV
 refine oG fun z19=>?_
 have:=eV (v1++oV) y21
 have:CD.size=1:=rfl
 refine oG fun z20=>?_;refine Ok.sok (E:=fun(v25,v26)=>v25.size≤2000) ?_ ?_
 ·refine Ok.lt fun d27 h22=>?_;refine oC (fun g23=>?_) fun g23=>?_
  ·have:=eV ((v1++oV)++y21) CD
   have:N1.size=83:=rfl
   refine oG fun z24=>?_
   have:=eV (((v1++oV)++y21)++CD) N1
   exact oI
  have:=eV ((v1++oV)++y21) CD
  exact oI
 rintro⟨v25,v26⟩ h21
 dsimp only at h21
 refine Ok.sok (E:=fun(v31,v32)=>v31.size≤2500) ?_ ?_
 ·refine Ok.lt fun d33 h26=>?_;refine oC (fun g27=>?_) fun g27=>?_
  ·have:N4.size=77:=rfl
   refine oG fun z28=>?_
   have:=eV v25 N4
   exact oI
  exact oI
 rintro⟨v31,v32⟩ h25
 dsimp only at h25
 refine Ok.lt fun d37 h29=>?_;refine oC (fun g30=>?_) fun g30=>?_
 ·have:EA.size=113:=rfl
  refine oG fun z31=>?_
  have:=eV v31 EA
  refine oG fun z32=>?_
  have:=eV (v31++EA) CD
  exact oS
 refine oG fun z33=>?_
 have:=eV v31 CD
 exact oS
def TG(fu:Nat):Prop:= ∀(pc:DS),Ok (zC fu pc) (fun r=>r.1.size≤7001)
theorem yW:bQ TG:=(((bQ.ge 2147483648).and MH).and QR).imp fun fu ⟨⟨hfu,MH⟩,QR⟩ pc=>by
 refine wL (MH pc) fun x2 x3 h1=>?_
 dsimp only at h1
 refine Ok.lt fun d4 h2=>oC (fun _=>oS) fun g3=>?_
 have:am4.size=1:=rfl
 refine oG fun z4=>wL (QR d4) fun x9 x10 h5=>?_
 dsimp only at h5
 have:=eV x2 am4
 refine oG fun z6=>?_
 have:=eV (x2++am4) x9
 exact oS
def ah5(fu:Nat):Prop:= ∀(pc:DS),Ok (GI fu pc) (fun r=>wt r.1≤327680)
theorem MJ:bQ ah5:=(((bQ.ge 2147483648).and yW).and yS).imp fun fu ⟨⟨hfu,yW⟩,yS⟩ pc=>by
 refine wL (yW pc) fun x2 x3 h1=>?_
 dsimp only at h1
 refine wL (yS x2 bP) fun x5 x6 h2=>?_
 dsimp only at h2
 have:=aE.wt_eq x5
 have:=aE.wt_mk x5.aB2
 exact oS
end Go.Proofs.YtfcoaagbccmahaaGreat.W

namespace Go.Proofs.YtfcoaagbccmahaaGreat.W
open Go.RowKit Go.WalkArith Go.IntWalk
def bT:Nat→Nat
 |0=>1000
 |n+1=>2*bT n+20
theorem akO: ∀n:Nat,1000≤bT n
 |0=>Nat.le_refl _
 |n+1=>by unfold bT;have:=akO n;omega
theorem ao6(x:Int):0<x∧x≤4→bT x.toNat=2*bT (aX (x-1)).toNat+20:=fun h=>by
 rw [eO (x-1) (by omega)]
 obtain⟨n,rfl⟩: ∃n:Nat,x=((n+1:Nat):Int):=⟨x.toNat-1,by omega⟩
 have e:(((n+1:Nat):Int)-1).toNat=n:=by omega
 rw [e]
 simp only [Int.toNat_natCast]
 rfl
theorem aqD(x:Int):x≤4→bT x.toNat≤20000:=fun h=>by
 have:x.toNat=0∨x.toNat=1∨x.toNat=2∨x.toNat=3∨x.toNat=4:=by omega
 rcases this with h|h|h|h|h<;>rw [h]<;>decide
def bX:Nat→Nat
 |0=>3000
 |n+1=>4*bX n+22000
theorem anJ: ∀n:Nat,3000≤bX n
 |0=>Nat.le_refl _
 |n+1=>by unfold bX;have:=anJ n;omega
theorem ao7(x:Int):0<x∧x≤4→bX x.toNat=4*bX (aX (x-1)).toNat+22000:=fun h=>by
 rw [eO (x-1) (by omega)]
 obtain⟨n,rfl⟩: ∃n:Nat,x=((n+1:Nat):Int):=⟨x.toNat-1,by omega⟩
 have e:(((n+1:Nat):Int)-1).toNat=n:=by omega
 rw [e]
 simp only [Int.toNat_natCast]
 rfl
theorem aqE(x:Int):x≤3→bX x.toNat≤1000000:=fun h=>by
 have:x.toNat=0∨x.toNat=1∨x.toNat=2∨x.toNat=3:=by omega
 rcases this with h|h|h|h<;>rw [h]<;>decide
theorem abR:bT (1:Int).toNat=2020:=rfl
theorem aq0:bX (2:Int).toNat=158000:=rfl
theorem ah8:bT (2:Int).toNat=4060:=rfl
end Go.Proofs.YtfcoaagbccmahaaGreat.W

namespace Go.Proofs.YtfcoaagbccmahaaGreat.W
set_option maxRecDepth 20000
set_option maxHeartbeats 4000000
open Go.RowKit Go.WalkArith Go.IntWalk
attribute [local irreducible] wt wl bT bX lt
def akK(fu:Nat):Prop:= ∀(pc:DS) (p3:LB) (p2:Int),wl p3≤1000∧ -100≤p2∧p2≤4→Ok (l9 fu pc p3 p2) (fun r=>wt r.1≤bT p2.toNat)
def abE(n:Nat)(m:J9):Prop:= ∀(pc:DS) (p3:LB) (p2:Int),p2.toNat<n→wl p3≤1000∧ -100≤p2∧p2≤4→Ok (m pc p3 p2) (fun r=>wt r.1≤bT p2.toNat)
theorem aoI{n fu:Nat}(hfu:2147483648≤fu)(dU:UZ fu)(cW:UY fu){pH:J9}(p8:abE n pH):abE (n+1) (UL fu pH):=by
 intro pc p3 p2 hm hpre
 have:=akO p2.toNat
 have:=akO (aX (p2-1)).toNat
 have:=ao6 p2
 have:=aqD (aX (p2-1))
 refine Ok.lt fun d1 h1=>?_;refine oC (fun g2=>?_) fun g2=>?_
 ·have:=aZ p3
  refine oD (fun g3=>?_) fun g3=>?_
  ·refine Ok.lt fun d5 h4=>?_
   have:=alT d1 p3.length
   have:=aZ (p3)
   refine oG fun z5=>?_
   have:=cP p3 (d1.below p3.length) z5
   have:=bA (aT p3 (d1.below p3.length))
   refine oB (dU (aT p3 (d1.below p3.length))) fun x9 h6=>?_
   have:=aA.wt_eq x9
   have:=aA.wt_mk x9.aB5 x9.aB3 x9.aB4
   exact oS
  refine oC (fun g7=>?_) fun g7=>?_
  ·have:eG.size=3:=rfl
   have:eD.size=4:=rfl
   have:gG.size=4:=rfl
   have:=F0 eG eD gG
   have:=bA eG
   have:=bA eD
   have:=bA gG
   refine Ok.lt fun d11 h8=>Ok.lt fun y13 h9=>?_
   have:=congrArg wt h9
   simp only [bA] at this
   have:y13.size≤4:=by rw [h9];exact DS.pick_size _ (by decide) (by decide)
   have:=(aW:wl ([]:List aA)=0∧_)
   refine oB (cW y13 ([]:List aA) bP) fun x16 h10=>?_
   have:=aA.wt_eq x16
   have:=aA.wt_mk x16.aB5 x16.aB3 x16.aB4
   exact oS
  refine oD (fun g11=>?_) fun g11=>?_
  ·have:eG.size=3:=rfl
   have:eD.size=4:=rfl
   have:gG.size=4:=rfl
   have:=F0 eG eD gG
   have:=bA eG
   have:=bA eD
   have:=bA gG
   refine Ok.lt fun d18 h12=>Ok.lt fun y20 h13=>?_
   have:=congrArg wt h13
   simp only [bA] at this
   have:y20.size≤4:=by rw [h13];exact DS.pick_size _ (by decide) (by decide)
   have:=(aW:wl ([]:List aA)=0∧_)
   refine oB (cW y20 ([]:List aA) bP) fun x23 h14=>?_
   have:=aA.wt_eq x23
   have:=aA.wt_mk x23.aB5 x23.aB3 x23.aB4
   exact oS
  refine oC (fun g15=>?_) fun g15=>?_
  ·have:=eO (p2-1)
   refine wL (p8 d1 p3 (aX (p2-1)) bP bP) fun x26 x27 h16=>?_
   dsimp only at h16
   refine wL (p8 x27 p3 (aX (p2-1)) bP bP) fun x29 x30 h17=>?_
   dsimp only at h17
   have:lY.size=4:=rfl
   have:=aA.wt_eq x26
   have:=aA.wt_mk x26.aB5 x26.aB3 x26.aB4
   have:=aA.wt_eq x29
   have:=aA.wt_mk x29.aB5 x29.aB3 x29.aB4
   have:=kM (aA.mk x26.aB5 x26.aB3 x26.aB4) (aA.mk x29.aB5 x29.aB3 x29.aB4)
   refine oB (cW lY ([(aA.mk x26.aB5 x26.aB3 x26.aB4),(aA.mk x29.aB5 x29.aB3 x29.aB4)]:List aA) bP) fun x32 h18=>?_
   have:=aA.wt_eq x32
   have:=aA.wt_mk x32.aB5 x32.aB3 x32.aB4
   exact oS
  have:cH.size=4:=rfl
  have:o6.size=3:=rfl
  have:=F0 cH cH o6
  have:=bA cH
  have:=bA o6
  refine Ok.lt fun d33 h19=>Ok.lt fun y35 h20=>?_
  have:=congrArg wt h20
  simp only [bA] at this
  have:y35.size≤4:=by rw [h20];exact DS.pick_size _ (by decide) (by decide)
  have:=eO (p2-1)
  refine wL (p8 d33 p3 (aX (p2-1)) bP bP) fun x38 x39 h21=>?_
  dsimp only at h21
  have:=aA.wt_eq x38
  have:=aA.wt_mk x38.aB5 x38.aB3 x38.aB4
  have:=cA (aA.mk x38.aB5 x38.aB3 x38.aB4)
  refine oB (cW y35 ([(aA.mk x38.aB5 x38.aB3 x38.aB4)]:List aA) bP) fun x41 h22=>?_
  have:=aA.wt_eq x41
  have:=aA.wt_mk x41.aB5 x41.aB3 x41.aB4
  exact oS
 refine oC (fun g23=>?_) fun g23=>?_
 ·have:eG.size=3:=rfl
  have:eD.size=4:=rfl
  have:gG.size=4:=rfl
  have:=F0 eG eD gG
  have:=bA eG
  have:=bA eD
  have:=bA gG
  refine Ok.lt fun d43 h24=>Ok.lt fun y45 h25=>?_
  have:=congrArg wt h25
  simp only [bA] at this
  have:y45.size≤4:=by rw [h25];exact DS.pick_size _ (by decide) (by decide)
  have:=(aW:wl ([]:List aA)=0∧_)
  refine oB (cW y45 ([]:List aA) bP) fun x48 h26=>?_
  have:=aA.wt_eq x48
  have:=aA.wt_mk x48.aB5 x48.aB3 x48.aB4
  exact oS
 refine oD (fun g27=>?_) fun g27=>?_
 ·have:eG.size=3:=rfl
  have:eD.size=4:=rfl
  have:gG.size=4:=rfl
  have:=F0 eG eD gG
  have:=bA eG
  have:=bA eD
  have:=bA gG
  refine Ok.lt fun d50 h28=>Ok.lt fun y52 h29=>?_
  have:=congrArg wt h29
  simp only [bA] at this
  have:y52.size≤4:=by rw [h29];exact DS.pick_size _ (by decide) (by decide)
  have:=(aW:wl ([]:List aA)=0∧_)
  refine oB (cW y52 ([]:List aA) bP) fun x55 h30=>?_
  have:=aA.wt_eq x55
  have:=aA.wt_mk x55.aB5 x55.aB3 x55.aB4
  exact oS
 refine oC (fun g31=>?_) fun g31=>?_
 ·have:=eO (p2-1)
  refine wL (p8 d1 p3 (aX (p2-1)) bP bP) fun x58 x59 h32=>?_
  dsimp only at h32
  refine wL (p8 x59 p3 (aX (p2-1)) bP bP) fun x61 x62 h33=>?_
  dsimp only at h33
  have:lY.size=4:=rfl
  have:=aA.wt_eq x58
  have:=aA.wt_mk x58.aB5 x58.aB3 x58.aB4
  have:=aA.wt_eq x61
  have:=aA.wt_mk x61.aB5 x61.aB3 x61.aB4
  have:=kM (aA.mk x58.aB5 x58.aB3 x58.aB4) (aA.mk x61.aB5 x61.aB3 x61.aB4)
  refine oB (cW lY ([(aA.mk x58.aB5 x58.aB3 x58.aB4),(aA.mk x61.aB5 x61.aB3 x61.aB4)]:List aA) bP) fun x64 h34=>?_
  have:=aA.wt_eq x64
  have:=aA.wt_mk x64.aB5 x64.aB3 x64.aB4
  exact oS
 have:cH.size=4:=rfl
 have:o6.size=3:=rfl
 have:=F0 cH cH o6
 have:=bA cH
 have:=bA o6
 refine Ok.lt fun d65 h35=>Ok.lt fun y67 h36=>?_
 have:=congrArg wt h36
 simp only [bA] at this
 have:y67.size≤4:=by rw [h36];exact DS.pick_size _ (by decide) (by decide)
 have:=eO (p2-1)
 refine wL (p8 d65 p3 (aX (p2-1)) bP bP) fun x70 x71 h37=>?_
 dsimp only at h37
 have:=aA.wt_eq x70
 have:=aA.wt_mk x70.aB5 x70.aB3 x70.aB4
 have:=cA (aA.mk x70.aB5 x70.aB3 x70.aB4)
 refine oB (cW y67 ([(aA.mk x70.aB5 x70.aB3 x70.aB4)]:List aA) bP) fun x73 h38=>?_
 have:=aA.wt_eq x73
 have:=aA.wt_mk x73.aB5 x73.aB3 x73.aB4
 exact oS
theorem ap4(n:Nat):bQ fun fu=>abE n (l9 fu):=by
 induction n with
 |zero=>exact .all fun fu=>fun _ _ _ h=>absurd h (Nat.not_lt_zero _)
 |succ n ih=>exact bQ.succ ((ih.and (((bQ.ge 2147483648).and dU).and cW)).imp fun fu ⟨h,⟨⟨hfu,dU⟩,cW⟩⟩=>fun pc p3 p2=>by rw [l9];exact aoI hfu dU cW h pc p3 p2)
theorem u5:bQ akK:=(ap4 100).imp fun fu h pc p3 p2 hpre=>h pc p3 p2 bP hpre
def alJ(fu:Nat):Prop:= ∀(pt:aA),wt pt≤268435456→Ok (iE fu pt) (fun r=>wt r≤wt pt)
def I9(n:Nat)(m:sP):Prop:= ∀(pt:aA),2*wt pt+1<n→wt pt≤268435456→Ok (m pt) (fun r=>wt r≤wt pt)
def CG(n:Nat)(m:m5):Prop:= ∀(p7:List aA),2*wl p7<n→wl p7≤268435456→Ok (m p7) (fun r=>wl r≤wl p7)
theorem ajZ{n fu:Nat}(hfu:2147483648≤fu){p5:sP}(pE:I9 n p5){p4:m5}(p9:CG n p4):I9 (n+1) (J4 fu p5 p4):=by
 intro pt hm hpre
 have:=aA.wt_eq pt
 refine oB (p9 pt.aB4 bP bP) fun x2 h1=>?_
 have:=aA.wt_mk pt.aB5 pt.aB3 x2
 exact oS
theorem adQ{n fu:Nat}(hfu:2147483648≤fu){p5:sP}(pE:I9 n p5){p4:m5}(p9:CG n p4):CG (n+1) (yF fu p5 p4):=by
 intro p7 hm hpre
 have:=(aW:wl ([]:List aA)=0∧_)
 refine Q5 p7 1 (fun i1 v3 hl2 hI3 _ _=>?_) ?_
 ·have:=aZ p7
  have:=cP p7 i1 hl2
  refine oB (pE (aT p7 i1) bP bP) fun x7 h4=>?_
  have:=aZ (v3)
  have:=cA x7
  refine oG fun z5=>?_
  have:=b4 v3 ([x7]:List aA)
  exact nT
 intro v3 h1
 exact oS
theorem amU(n:Nat):bQ fun fu=>I9 n (iE fu)∧CG n (iB fu):=by
 induction n with
 |zero=>exact .all fun fu=>⟨fun _ h=>absurd h (Nat.not_lt_zero _),fun _ h=>absurd h (Nat.not_lt_zero _)⟩
 |succ n ih=>exact bQ.succ ((ih.and (bQ.ge 2147483648)).imp fun fu ⟨h,hfu⟩=>⟨fun pt=>by rw [iE];exact ajZ hfu h.1 h.2 pt,fun p7=>by rw [iB];exact adQ hfu h.1 h.2 p7⟩)
theorem QV:bQ alJ:=(amU 8589934592).imp fun fu h pt hpre=>h.1 pt bP hpre
def alN(fu:Nat):Prop:= ∀(pA:ByteArray) (pt:aA),pA.size+wt pt≤67108864→Ok (uJ fu pA pt) (fun r=>wt r≤pA.size+wt pt+1)
theorem sD:bQ alN:=((bQ.ge 2147483648).and QV).imp fun fu ⟨hfu,QV⟩ pA pt hpre=>by
 refine oB (QV pt bP) fun x2 h1=>?_
 have:=cA x2
 have:=aA.wt_mk 3 pA ([x2]:List aA)
 exact oS
def alL(fu:Nat):Prop:= ∀(pc:DS) (p2:Int),-100≤p2∧p2≤4→Ok (sQ fu pc p2) (fun r=>wt r.1≤bT p2.toNat+60)
theorem nM:bQ alL:=((((bQ.ge 2147483648).and u5).and sD).and cW).imp fun fu ⟨⟨⟨hfu,u5⟩,sD⟩,cW⟩ pc p2 hpre=>by
 have:=akO p2.toNat
 have:=aqD p2
 have:fW.size=1:=rfl
 have:CZ.size=1:=rfl
 have:=kM fW CZ
 have:=bA fW
 have:=bA CZ
 refine wL (u5 pc ([fW,CZ]:LB) p2 bP) fun x2 x3 h1=>?_
 dsimp only at h1
 refine Ok.lt fun d4 h2=>?_;refine oC (fun g3=>?_) fun g3=>?_
 ·have:fC.size=3:=rfl
  have:bJ.size=4:=rfl
  have:=kM fC bJ
  have:=bA fC
  have:=bA bJ
  refine Ok.lt fun d7 h4=>Ok.lt fun y9 h5=>?_
  have:=congrArg wt h5
  simp only [bA] at this
  have:y9.size≤4:=by rw [h5];exact DS.pick_size _ (by decide) (by decide)
  have:=aA.wt_eq x2
  have:=aA.wt_mk x2.aB5 x2.aB3 x2.aB4
  refine oB (sD y9 (aA.mk x2.aB5 x2.aB3 x2.aB4) bP) fun x12 h6=>?_
  have:=aA.wt_eq x12
  have:=aA.wt_mk x12.aB5 x12.aB3 x12.aB4
  exact oS
 refine oC (fun g7=>?_) fun g7=>?_
 ·have:fC.size=3:=rfl
  have:=aA.wt_eq x2
  have:=aA.wt_mk x2.aB5 x2.aB3 x2.aB4
  refine oB (sD fC (aA.mk x2.aB5 x2.aB3 x2.aB4) bP) fun x15 h8=>?_
  have:cH.size=4:=rfl
  have:=aA.wt_eq x15
  have:=aA.wt_mk x15.aB5 x15.aB3 x15.aB4
  have:=cA (aA.mk x15.aB5 x15.aB3 x15.aB4)
  refine oB (cW cH ([(aA.mk x15.aB5 x15.aB3 x15.aB4)]:List aA) bP) fun x17 h9=>?_
  have:=aA.wt_eq x17
  have:=aA.wt_mk x17.aB5 x17.aB3 x17.aB4
  exact oS
 refine oC (fun g10=>?_) fun g10=>?_
 ·have:bJ.size=4:=rfl
  have:=(aW:wl ([]:List aA)=0∧_)
  have:=aA.wt_mk 4 bJ []
  exact oS
 have:=aA.wt_eq x2
 have:=aA.wt_mk x2.aB5 x2.aB3 x2.aB4
 exact oS
def aeD(fu:Nat):Prop:= ∀(pk:Int) (pG:ByteArray) (pC:List aL),pG.size+wl pC≤67108864→Ok (vC fu pk pG pC) (fun r=>wt r=pG.size+wl pC)
theorem nL:bQ aeD:=(bQ.ge 2147483648).imp fun fu hfu pk pG pC hpre=>by
 have:=(aW:wl ([]:List aL)=0∧_)
 have:=aZ (pC)
 refine oG fun z1=>?_
 have:s_.size=0:=rfl
 have:=(aW:wl ([]:List aA)=0∧_)
 have:=aA.wt_mk 0 s_ []
 have:=b4 ([]:List aL) pC
 have:=(aW:wl ([]:List bS)=0∧_)
 have:=aL.wt_mk pk s_ pG 0 (aA.mk 0 s_ []) (([])++pC) []
 exact oS
def ahS(fu:Nat):Prop:= ∀(pF:DS) (p6:LB) (p0:Int),wl p6+10*p0.toNat≤900∧ -100≤p0∧p0≤3→Ok (lZ fu pF p6 p0) (fun r=>wt r.1≤bX p0.toNat)
def LG(n:Nat)(m:t3):Prop:= ∀(pF:DS) (p6:LB) (p0:Int),p0.toNat<n→wl p6+10*p0.toNat≤900∧ -100≤p0∧p0≤3→Ok (m pF p6 p0) (fun r=>wt r.1≤bX p0.toNat)
theorem af6{n fu:Nat}(hfu:2147483648≤fu)(fL:D0 fu)(fD:DZ fu)(nL:aeD fu)(u5:akK fu){pD:t3}(p1:LG n pD):LG (n+1) (MU fu pD):=by
 intro pF p6 p0 hm hpre
 have:=anJ p0.toNat
 have:=anJ (aX (p0-1)).toNat
 have:=ao7 p0
 have:=abR
 have:=aqE p0
 have:=eO (p0-1)
 refine Ok.lt fun d1 h1=>?_;refine Ok.sok (E:=fun v3=>p0≤0→v3≤2) ?_ ?_
 ·refine oD (fun g3=>?_) fun g3=>?_
  ·have:=DS.below_lt pF (n:=13) (by decide)
   exact oI
  have:=DS.below_lt pF (n:=13) (by decide)
  exact oI
 intro v3 h2
 refine oD (fun g4=>?_) fun g4=>?_
 ·refine Ok.lt fun d6 h5=>?_
  have:s_.size=0:=rfl
  have:=DS.below_lt d1 (n:=2) (by decide)
  have:=(aW:wl ([]:List aA)=0∧_)
  have:=aA.wt_mk 0 s_ []
  have:=(aW:wl ([]:List aL)=0∧_)
  have:=(aW:wl ([]:List bS)=0∧_)
  have:=aL.wt_mk 2 s_ s_ (d1.below 2:Int) (aA.mk 0 s_ []) [] []
  exact oS
 refine G8 ?_ ?_
 ·exact oD (fun _=>oI) fun g7=>oI
 intro v8 _
 refine oC (fun g8=>?_) fun g8=>?_
 ·have:=aZ p6
  refine oD (fun g9=>?_) fun g9=>?_
  ·have:=aZ (p6)
   refine oG fun z10=>Ok.lt fun d13 h11=>?_
   have:=apU d1 p6
   refine Ok.lt fun y15 h12=>?_
   have:=congrArg wt h12
   simp only [bA] at this
   exact SU (fL y15) fun x18 h13 h13B=>oS
  refine Ok.lt fun d19 h14=>?_
  have:=DS.below_lt d1 (n:=20) (by decide)
  have:=eO ((d1.below 20:Int)-5)
  exact SU (fD (aX ((d1.below 20:Int)-5)) bP) fun x22 h15 h15B=>oS
 refine oD (fun g16=>?_) fun g16=>?_
 ·have:s_f.size=1:=rfl
  have:s_g.size=1:=rfl
  have:=kM s_f s_g
  have:=bA s_f
  have:=bA s_g
  refine Ok.lt fun d24 h17=>Ok.lt fun y26 h18=>?_
  have:=congrArg wt h18
  simp only [bA] at this
  have:y26.size≤1:=by rw [h18];exact DS.pick_size _ (by decide) (by decide)
  have:=eO (p0-1)
  refine wL (p1 d24 p6 (aX (p0-1)) bP bP) fun x29 x30 h19=>?_
  dsimp only at h19
  have:=cA x29
  exact oB (nL 4 y26 ([x29]:List aL) bP) fun x32 h20=>oS
 refine oD (fun g21=>?_) fun g21=>?_
 ·have:bJ.size=4:=rfl
  have:fC.size=3:=rfl
  have:=kM bJ fC
  have:=bA bJ
  have:=bA fC
  refine Ok.lt fun d34 h22=>Ok.lt fun y36 h23=>?_
  have:=congrArg wt h23
  simp only [bA] at this
  have:y36.size≤4:=by rw [h23];exact DS.pick_size _ (by decide) (by decide)
  have:=eO (p0-1)
  refine wL (p1 d34 p6 (aX (p0-1)) bP bP) fun x39 x40 h24=>?_
  dsimp only at h24
  refine wL (p1 x40 p6 (aX (p0-1)) bP bP) fun x42 x43 h25=>?_
  dsimp only at h25
  have:eT.size=1:=rfl
  have:s_.size=0:=rfl
  have:=(aW:wl ([]:List aA)=0∧_)
  have:=aA.wt_mk 0 s_ []
  have:=kM x39 x42
  have:=(aW:wl ([]:List bS)=0∧_)
  have:=aL.wt_mk 5 y36 eT 0 (aA.mk 0 s_ []) ([x39,x42]:List aL) []
  exact oS
 refine oD (fun g26=>?_) fun g26=>?_
 ·have:=eO (p0-1)
  refine wL (p1 d1 p6 (aX (p0-1)) bP bP) fun x46 x47 h27=>?_
  dsimp only at h27
  refine wL (p1 x47 p6 (aX (p0-1)) bP bP) fun x49 x50 h28=>?_
  dsimp only at h28
  have:cG.size=4:=rfl
  have:=kM x46 x49
  exact oB (nL 6 cG ([x46,x49]:List aL) bP) fun x52 h29=>oS
 refine oD (fun g30=>?_) fun g30=>?_
 ·have:=(aW:wl ([]:LB)=0∧_)
  have:=aZ (p6)
  refine oG fun z31=>?_
  have:=b4 ([]:LB) p6
  have:s_h.size=1:=rfl
  have:s_t.size=1:=rfl
  have:=kM s_h s_t
  have:=bA s_h
  have:=bA s_t
  refine oG fun z32=>?_
  have:=eO (p0-1)
  refine wL (p1 d1 p6 (aX (p0-1)) bP bP) fun x57 x58 h33=>?_
  dsimp only at h33
  refine wL (p1 x58 p6 (aX (p0-1)) bP bP) fun x60 x61 h34=>?_
  dsimp only at h34
  have:=b4 (([])++p6) ([s_h,s_t]:LB)
  refine wL (p1 x61 ((([])++p6)++([s_h,s_t]:LB)) (aX (p0-1)) bP bP) fun x63 x64 h35=>?_
  dsimp only at h35
  have:s_.size=0:=rfl
  have:=(aW:wl ([]:List aA)=0∧_)
  have:=aA.wt_mk 0 s_ []
  have:=cA x57
  have:fX.size=3:=rfl
  have:=bS.wt_mk fX [] x60
  have:cG.size=4:=rfl
  have:=bS.wt_mk cG ([s_h,s_t]:LB) x63
  have:=kM (bS.mk fX [] x60) (bS.mk cG ([s_h,s_t]:LB) x63)
  have:=aL.wt_mk 7 s_ s_ 0 (aA.mk 0 s_ []) ([x57]:List aL) ([(bS.mk fX [] x60),(bS.mk cG ([s_h,s_t]:LB) x63)]:List bS)
  exact oS
 refine oD (fun g36=>?_) fun g36=>?_
 ·have:=eO (p0-1)
  refine wL (p1 d1 p6 (aX (p0-1)) bP bP) fun x67 x68 h37=>?_
  dsimp only at h37
  have:=(aW:wl ([]:LB)=0∧_)
  have:=aZ (p6)
  refine oG fun z38=>?_
  have:=b4 ([]:LB) p6
  have:sJ.size=1:=rfl
  have:=cA sJ
  have:=bA sJ
  refine oG fun z39=>?_
  have:=b4 (([])++p6) ([sJ]:LB)
  refine wL (p1 x68 ((([])++p6)++([sJ]:LB)) (aX (p0-1)) bP bP) fun x72 x73 h40=>?_
  dsimp only at h40
  have:=kM x67 x72
  exact oB (nL 8 sJ ([x67,x72]:List aL) bP) fun x75 h41=>oS
 refine oD (fun g42=>?_) fun g42=>?_
 ·have:=eO (p0-1)
  refine wL (p1 d1 p6 (aX (p0-1)) bP bP) fun x78 x79 h43=>?_
  dsimp only at h43
  refine wL (p1 x79 p6 (aX (p0-1)) bP bP) fun x81 x82 h44=>?_
  dsimp only at h44
  refine wL (p1 x82 p6 (aX (p0-1)) bP bP) fun x84 x85 h45=>?_
  dsimp only at h45
  have:s_.size=0:=rfl
  have:=F0 x78 x81 x84
  exact oB (nL 9 s_ ([x78,x81,x84]:List aL) bP) fun x87 h46=>oS
 refine oD (fun g47=>?_) fun g47=>?_
 ·have:CE.size=1:=rfl
  have:HK.size=1:=rfl
  have:PM.size=1:=rfl
  have:PN.size=1:=rfl
  have:PO.size=1:=rfl
  have:=asT CE HK PM PN PO
  have:=bA CE
  have:=bA HK
  have:=bA PM
  have:=bA PN
  have:=bA PO
  refine Ok.lt fun d89 h48=>Ok.lt fun y91 h49=>?_
  have:=congrArg wt h49
  simp only [bA] at this
  have:y91.size≤1:=by rw [h49];exact DS.pick_size _ (by decide) (by decide)
  have:=eO (p0-1)
  refine wL (p1 d89 p6 (aX (p0-1)) bP bP) fun x94 x95 h50=>?_
  dsimp only at h50
  refine wL (p1 x95 p6 (aX (p0-1)) bP bP) fun x97 x98 h51=>?_
  dsimp only at h51
  have:=kM x94 x97
  exact oB (nL 10 y91 ([x94,x97]:List aL) bP) fun x100 h52=>oS
 refine oD (fun g53=>?_) fun g53=>?_
 ·have:=eO (p0-1)
  refine wL (p1 d1 p6 (aX (p0-1)) bP bP) fun x103 x104 h54=>?_
  dsimp only at h54
  have:bJ.size=4:=rfl
  have:s_.size=0:=rfl
  have:=(aW:wl ([]:List aA)=0∧_)
  have:=aA.wt_mk 0 s_ []
  have:=cA x103
  have:=(aW:wl ([]:List bS)=0∧_)
  have:=aL.wt_mk 11 bJ s_ 0 (aA.mk 0 s_ []) ([x103]:List aL) []
  exact oS
 refine oD (fun g55=>?_) fun g55=>?_
 ·have:fW.size=1:=rfl
  have:=cA fW
  have:=bA fW
  refine wL (u5 d1 ([fW]:LB) 1 bP) fun x107 x108 h56=>?_
  dsimp only at h56
  have:=eO (p0-1)
  refine wL (p1 x108 p6 (aX (p0-1)) bP bP) fun x110 x111 h57=>?_
  dsimp only at h57
  have:s_.size=0:=rfl
  have:=cA x110
  have:=(aW:wl ([]:List bS)=0∧_)
  have:=aL.wt_mk 12 s_ s_ 0 x107 ([x110]:List aL) []
  exact oS
 refine Ok.lt fun d112 h58=>?_
 have:=DS.below_lt d1 (n:=20) (by decide)
 have:=eO ((d1.below 20:Int)-5)
 exact SU (fD (aX ((d1.below 20:Int)-5)) bP) fun x115 h59 h59B=>oS
theorem ai6(n:Nat):bQ fun fu=>LG n (lZ fu):=by
 induction n with
 |zero=>exact .all fun fu=>fun _ _ _ h=>absurd h (Nat.not_lt_zero _)
 |succ n ih=>exact bQ.succ ((ih.and (((((bQ.ge 2147483648).and fL).and fD).and nL).and u5)).imp fun fu ⟨h,⟨⟨⟨⟨hfu,fL⟩,fD⟩,nL⟩,u5⟩⟩=>fun pF p6 p0=>by rw [lZ];exact af6 hfu fL fD nL u5 h pF p6 p0)
theorem wD:bQ ahS:=(ai6 100).imp fun fu h pF p6 p0 hpre=>h pF p6 p0 bP hpre
def anC(fu:Nat):Prop:=Ok (FB fu) (fun r=>wt r≤3)
theorem tB:bQ anC:=((bQ.ge 2147483648).and cW).imp fun fu ⟨hfu,cW⟩=>by
 have:eG.size=3:=rfl
 have:=(aW:wl ([]:List aA)=0∧_)
 exact oB (cW eG ([]:List aA) bP) fun x2 h1=>oS
def ahZ(fu:Nat):Prop:= ∀(pF:DS),Ok (BY fu pF) (fun r=>wt r.1≤1000000)
theorem MF:bQ ahZ:=((((((((bQ.ge 2147483648).and fD).and tB).and dU).and cW).and u5).and nM).and wD).imp fun fu ⟨⟨⟨⟨⟨⟨⟨hfu,fD⟩,tB⟩,dU⟩,cW⟩,u5⟩,nM⟩,wD⟩ pF=>by
 have:=abR
 have:=ah8
 have:=aq0
 have:bJ.size=4:=rfl
 have:xX.size=2:=rfl
 have:fC.size=3:=rfl
 have:=F0 bJ xX fC
 have:=bA bJ
 have:=bA xX
 have:=bA fC
 refine Ok.lt fun d1 h1=>Ok.lt fun y3 h2=>?_
 have:=congrArg wt h2
 simp only [bA] at this
 have:y3.size≤4:=by rw [h2];exact DS.pick_size _ (by decide) (by decide)
 refine Ok.lt fun d5 h3=>?_
 have:=DS.below_lt d1 (n:=9) (by decide)
 refine SU (fD (d1.below 9:Int) bP) fun x8 h4 h4B=>?_;refine Ok.sok (E:=fun(v9,v10,v11,v12,v13,v14)=>wl v9≤10∧v11.size+wl v12≤100∧wl v13≤100) ?_ ?_
 ·refine Ok.lt fun d15 h6=>?_;refine oC (fun g7=>?_) fun g7=>?_
  ·refine oB (tB) fun x19 h8=>?_
   have:=aA.wt_eq x19
   have:=(aW:wl ([]:LB)=0∧_)
   have:=(aW:wl ([]:List aG)=0∧_)
   exact oI
  refine oC (fun g9=>?_) fun g9=>?_
  ·have:fW.size=1:=rfl
   refine oB (dU fW) fun x22 h10=>?_
   have:cH.size=4:=rfl
   have:=cA x22
   refine oB (cW cH ([x22]:List aA) bP) fun x24 h11=>?_
   have:=cA fW
   have:=bA fW
   have:=aA.wt_eq x24
   have:=aG.wt_mk y3 x22
   have:=cA (aG.mk y3 x22)
   exact oI
  refine oC (fun g12=>?_) fun g12=>?_
  ·have:fW.size=1:=rfl
   refine oB (dU fW) fun x27 h13=>?_
   have:CZ.size=1:=rfl
   refine oB (dU CZ) fun x29 h14=>?_
   have:lY.size=4:=rfl
   have:=kM x27 x29
   refine oB (cW lY ([x27,x29]:List aA) bP) fun x31 h15=>?_
   have:=kM fW CZ
   have:=bA fW
   have:=bA CZ
   have:=aA.wt_eq x31
   have:=(aW:wl ([]:List aG)=0∧_)
   exact oI
  have:fW.size=1:=rfl
  refine oB (dU fW) fun x33 h16=>?_
  have:=cA fW
  have:=bA fW
  have:=aA.wt_eq x33
  have:jL.size=3:=rfl
  have:=aG.wt_mk jL x33
  have:=cA (aG.mk jL x33)
  exact oI
 rintro⟨v9,v10,v11,v12,v13,v14⟩ h5
 dsimp only at h5
 refine Ok.sok (E:=fun(v38,v35,v36,v37,v34)=>wl v38+v37.size≤5000) ?_ ?_
 ·refine Ok.lt fun d39 h18=>?_;refine oC (fun g19=>?_) fun g19=>?_
  ·refine wL (u5 d39 v9 1 bP) fun x43 x44 h20=>?_
   dsimp only at h20
   have:=aA.wt_eq x43
   exact oI
  have:s_.size=0:=rfl
  have:=(aW:wl ([]:List aA)=0∧_)
  exact oI
 rintro⟨v38,v35,v36,v37,v34⟩ h17
 dsimp only at h17
 refine Ok.lt fun d45 h21=>Ok.lt fun d47 h22=>?_;refine oC (fun g23=>?_) fun g23=>?_
 ·refine wL (nM d47 2 bP) fun x51 x52 h24=>?_
  dsimp only at h24
  have:=DS.below_lt v34 (n:=4) (by decide)
  have:=aA.wt_mk v36 v37 v38
  have:eT.size=1:=rfl
  have:eN.size=1:=rfl
  have:=cA eN
  have:=bA eN
  have:=aQ.wt_mk eT ([eN]:LB) x8
  have:=cA (aQ.mk eT ([eN]:LB) x8)
  have:=aI.wt_mk y3 v9 x51 v13 (decide (v34.below 4=0)) v35 (aA.mk v36 v37 v38) ([(aQ.mk eT ([eN]:LB) x8)]:List aQ)
  exact oS
 refine oC (fun g25=>?_) fun g25=>?_
 ·have:fW.size=1:=rfl
  have:s_c.size=1:=rfl
  have:=kM fW s_c
  have:=bA fW
  have:=bA s_c
  refine Ok.lt fun d54 h26=>Ok.lt fun y56 h27=>?_
  have:=congrArg wt h27
  simp only [bA] at this
  have:y56.size≤1:=by rw [h27];exact DS.pick_size _ (by decide) (by decide)
  have:=aZ (v9)
  have:=cA y56
  have:=bA y56
  refine oG fun z28=>?_
  have:=b4 v9 ([y56]:LB)
  have:=aA.wt_mk v10 v11 v12
  have:=DS.below_lt v34 (n:=4) (by decide)
  have:=aA.wt_mk v36 v37 v38
  have:eT.size=1:=rfl
  have:eN.size=1:=rfl
  have:=cA eN
  have:=bA eN
  have:=aQ.wt_mk eT ([eN]:LB) x8
  have:=cA (aQ.mk eT ([eN]:LB) x8)
  have:=aI.wt_mk y3 (v9++([y56]:LB)) (aA.mk v10 v11 v12) v13 (decide (v34.below 4=0)) v35 (aA.mk v36 v37 v38) ([(aQ.mk eT ([eN]:LB) x8)]:List aQ)
  exact oS
 refine oC (fun g29=>?_) fun g29=>?_
 ·refine wL (nM d47 1 bP) fun x61 x62 h30=>?_
  dsimp only at h30
  have:=aZ (v13)
  have:=aG.wt_mk xX x61
  have:=cA (aG.mk xX x61)
  refine oG fun z31=>?_
  have:=aA.wt_mk v10 v11 v12
  have:=b4 v13 ([(aG.mk xX x61)]:List aG)
  have:=DS.below_lt v34 (n:=4) (by decide)
  have:=aA.wt_mk v36 v37 v38
  have:eT.size=1:=rfl
  have:eN.size=1:=rfl
  have:=cA eN
  have:=bA eN
  have:=aQ.wt_mk eT ([eN]:LB) x8
  have:=cA (aQ.mk eT ([eN]:LB) x8)
  have:=aI.wt_mk y3 v9 (aA.mk v10 v11 v12) (v13++([(aG.mk xX x61)]:List aG)) (decide (v34.below 4=0)) v35 (aA.mk v36 v37 v38) ([(aQ.mk eT ([eN]:LB) x8)]:List aQ)
  exact oS
 refine oC (fun g32=>?_) fun g32=>?_
 ·have:eN.size=1:=rfl
  have:sJ.size=1:=rfl
  have:=kM eN sJ
  have:=bA eN
  have:=bA sJ
  refine wL (wD d47 ([eN,sJ]:LB) 2 bP) fun x66 x67 h33=>?_
  dsimp only at h33
  have:=aA.wt_mk v10 v11 v12
  have:=DS.below_lt v34 (n:=4) (by decide)
  have:=aA.wt_mk v36 v37 v38
  have:eT.size=1:=rfl
  have:=cA eN
  have:=aQ.wt_mk eT ([eN]:LB) x66
  have:=cA (aQ.mk eT ([eN]:LB) x66)
  have:=aI.wt_mk y3 v9 (aA.mk v10 v11 v12) v13 (decide (v34.below 4=0)) v35 (aA.mk v36 v37 v38) ([(aQ.mk eT ([eN]:LB) x66)]:List aQ)
  exact oS
 refine oC (fun g34=>?_) fun g34=>?_
 ·refine oB (tB) fun x70 h35=>?_
  have:=aA.wt_mk v10 v11 v12
  have:=DS.below_lt v34 (n:=4) (by decide)
  have:eT.size=1:=rfl
  have:eN.size=1:=rfl
  have:=cA eN
  have:=bA eN
  have:=aQ.wt_mk eT ([eN]:LB) x8
  have:=cA (aQ.mk eT ([eN]:LB) x8)
  have:=aI.wt_mk y3 v9 (aA.mk v10 v11 v12) v13 (decide (v34.below 4=0)) v35 x70 ([(aQ.mk eT ([eN]:LB) x8)]:List aQ)
  exact oS
 refine oC (fun g36=>?_) fun g36=>?_
 ·have:=aA.wt_mk v10 v11 v12
  have:=DS.below_lt v34 (n:=4) (by decide)
  have:=aA.wt_mk v36 v37 v38
  have:eT.size=1:=rfl
  have:=(aW:wl ([]:LB)=0∧_)
  have:=aQ.wt_mk eT ([]) x8
  have:=cA (aQ.mk eT ([]) x8)
  have:=aI.wt_mk y3 v9 (aA.mk v10 v11 v12) v13 (decide (v34.below 4=0)) v35 (aA.mk v36 v37 v38) ([(aQ.mk eT ([]) x8)]:List aQ)
  exact oS
 have:=aA.wt_mk v10 v11 v12
 have:=DS.below_lt v34 (n:=4) (by decide)
 have:=aA.wt_mk v36 v37 v38
 have:eT.size=1:=rfl
 have:eN.size=1:=rfl
 have:=cA eN
 have:=bA eN
 have:=aQ.wt_mk eT ([eN]:LB) x8
 have:=cA (aQ.mk eT ([eN]:LB) x8)
 have:=aI.wt_mk y3 v9 (aA.mk v10 v11 v12) v13 (decide (v34.below 4=0)) v35 (aA.mk v36 v37 v38) ([(aQ.mk eT ([eN]:LB) x8)]:List aQ)
 exact oS
def am8(fu:Nat):Prop:= ∀(pc:DS),Ok (W3 fu pc) (fun r=>wt r.1≤2000000)
theorem VW:bQ am8:=((((((bQ.ge 2147483648).and dU).and tB).and fL).and nM).and wD).imp fun fu ⟨⟨⟨⟨⟨hfu,dU⟩,tB⟩,fL⟩,nM⟩,wD⟩ pc=>by
 have:=abR
 have:=ah8
 have:=aqE 3 (by decide)
 have:s_f.size=1:=rfl
 have:s_g.size=1:=rfl
 have:=kM s_f s_g
 have:=bA s_f
 have:=bA s_g
 refine Ok.lt fun d1 h1=>Ok.lt fun y3 h2=>?_
 have:=congrArg wt h2
 simp only [bA] at this
 have:y3.size≤1:=by rw [h2];exact DS.pick_size _ (by decide) (by decide)
 have:fW.size=1:=rfl
 refine oB (dU fW) fun x6 h3=>oB (tB) fun x8 h4=>?_
 have:eN.size=1:=rfl
 refine SU (fL eN) fun x10 h5 h5B=>Ok.lt fun d11 h6=>?_;refine oC (fun g7=>?_) fun g7=>?_
 ·refine wL (nM d11 2 bP) fun x15 x16 h8=>?_
  dsimp only at h8
  have:=cA fW
  have:=bA fW
  have:bJ.size=4:=rfl
  have:=aG.wt_mk bJ x6
  have:=cA (aG.mk bJ x6)
  have:=aV.wt_mk eN x6
  have:=cA (aV.mk eN x6)
  have:eT.size=1:=rfl
  have:s_.size=0:=rfl
  have:=(aW:wl ([]:List aA)=0∧_)
  have:=aA.wt_mk 0 s_ []
  have:=cA x10
  have:=(aW:wl ([]:List bS)=0∧_)
  have:=aL.wt_mk 5 bJ eT 0 (aA.mk 0 s_ []) ([x10]:List aL) []
  have:=aP.wt_mk y3 ([fW]:LB) ([(aG.mk bJ x6)]:List aG) ([(aV.mk eN x6)]:List aV) x15 (aL.mk 5 bJ eT 0 (aA.mk 0 s_ []) ([x10]:List aL) [])
  exact oS
 refine oC (fun g9=>?_) fun g9=>?_
 ·have:sJ.size=1:=rfl
  have:=kM eN sJ
  have:=bA eN
  have:=bA sJ
  refine Ok.lt fun d18 h10=>Ok.lt fun y20 h11=>?_
  have:=congrArg wt h11
  simp only [bA] at this
  have:y20.size≤1:=by rw [h11];exact DS.pick_size _ (by decide) (by decide)
  have:=aV.wt_mk eN x6
  have:=cA (aV.mk eN x6)
  have:=aV.wt_mk y20 x8
  have:=cA (aV.mk y20 x8)
  refine oG fun z12=>?_
  have:=cA fW
  have:=bA fW
  have:bJ.size=4:=rfl
  have:=aG.wt_mk bJ x6
  have:=cA (aG.mk bJ x6)
  have:=b4 ([(aV.mk eN x6)]:List aV) ([(aV.mk y20 x8)]:List aV)
  have:eT.size=1:=rfl
  have:s_.size=0:=rfl
  have:=(aW:wl ([]:List aA)=0∧_)
  have:=aA.wt_mk 0 s_ []
  have:=cA x10
  have:=(aW:wl ([]:List bS)=0∧_)
  have:=aL.wt_mk 5 bJ eT 0 (aA.mk 0 s_ []) ([x10]:List aL) []
  have:=aP.wt_mk y3 ([fW]:LB) ([(aG.mk bJ x6)]:List aG) (([(aV.mk eN x6)]:List aV)++([(aV.mk y20 x8)]:List aV)) x8 (aL.mk 5 bJ eT 0 (aA.mk 0 s_ []) ([x10]:List aL) [])
  exact oS
 refine oC (fun g13=>?_) fun g13=>?_
 ·have:sJ.size=1:=rfl
  have:=kM eN sJ
  have:=bA eN
  have:=bA sJ
  refine wL (wD d11 ([eN,sJ]:LB) 3 bP) fun x25 x26 h14=>?_
  dsimp only at h14
  have:=cA fW
  have:=bA fW
  have:bJ.size=4:=rfl
  have:=aG.wt_mk bJ x6
  have:=cA (aG.mk bJ x6)
  have:=aV.wt_mk eN x6
  have:=cA (aV.mk eN x6)
  have:=aP.wt_mk y3 ([fW]:LB) ([(aG.mk bJ x6)]:List aG) ([(aV.mk eN x6)]:List aV) x8 x25
  exact oS
 refine oC (fun g15=>?_) fun g15=>?_
 ·refine wL (nM d11 1 bP) fun x29 x30 h16=>?_
  dsimp only at h16
  have:=cA fW
  have:=bA fW
  have:bJ.size=4:=rfl
  have:=aG.wt_mk bJ x29
  have:=cA (aG.mk bJ x29)
  have:=aV.wt_mk eN x6
  have:=cA (aV.mk eN x6)
  have:eT.size=1:=rfl
  have:s_.size=0:=rfl
  have:=(aW:wl ([]:List aA)=0∧_)
  have:=aA.wt_mk 0 s_ []
  have:=cA x10
  have:=(aW:wl ([]:List bS)=0∧_)
  have:=aL.wt_mk 5 bJ eT 0 (aA.mk 0 s_ []) ([x10]:List aL) []
  have:=aP.wt_mk y3 ([fW]:LB) ([(aG.mk bJ x29)]:List aG) ([(aV.mk eN x6)]:List aV) x8 (aL.mk 5 bJ eT 0 (aA.mk 0 s_ []) ([x10]:List aL) [])
  exact oS
 refine oC (fun g17=>?_) fun g17=>?_
 ·have:s_.size=0:=rfl
  have:GC.size=2:=rfl
  have:=kM s_ GC
  have:=bA s_
  have:=bA GC
  refine Ok.lt fun d32 h18=>Ok.lt fun y34 h19=>?_
  have:=congrArg wt h19
  simp only [bA] at this
  have:y34.size≤2:=by rw [h19];exact DS.pick_size _ (by decide) (by decide)
  have:=cA fW
  have:=bA fW
  have:bJ.size=4:=rfl
  have:=aG.wt_mk bJ x6
  have:=cA (aG.mk bJ x6)
  have:=aV.wt_mk eN x6
  have:=cA (aV.mk eN x6)
  have:eT.size=1:=rfl
  have:=(aW:wl ([]:List aA)=0∧_)
  have:=aA.wt_mk 0 s_ []
  have:=cA x10
  have:=(aW:wl ([]:List bS)=0∧_)
  have:=aL.wt_mk 5 bJ eT 0 (aA.mk 0 s_ []) ([x10]:List aL) []
  have:=aP.wt_mk y34 ([fW]:LB) ([(aG.mk bJ x6)]:List aG) ([(aV.mk eN x6)]:List aV) x8 (aL.mk 5 bJ eT 0 (aA.mk 0 s_ []) ([x10]:List aL) [])
  exact oS
 have:=cA fW
 have:=bA fW
 have:bJ.size=4:=rfl
 have:=aG.wt_mk bJ x6
 have:=cA (aG.mk bJ x6)
 have:=aV.wt_mk eN x6
 have:=cA (aV.mk eN x6)
 have:eT.size=1:=rfl
 have:s_.size=0:=rfl
 have:=(aW:wl ([]:List aA)=0∧_)
 have:=aA.wt_mk 0 s_ []
 have:=cA x10
 have:=(aW:wl ([]:List bS)=0∧_)
 have:=aL.wt_mk 5 bJ eT 0 (aA.mk 0 s_ []) ([x10]:List aL) []
 have:=aP.wt_mk y3 ([fW]:LB) ([(aG.mk bJ x6)]:List aG) ([(aV.mk eN x6)]:List aV) x8 (aL.mk 5 bJ eT 0 (aA.mk 0 s_ []) ([x10]:List aL) [])
 exact oS
def aeE(fu:Nat):Prop:= ∀(pF:DS),Ok (IX fu pF) (fun r=>wt r.1≤10000)
theorem IE:bQ aeE:=((((((bQ.ge 2147483648).and dU).and tB).and fL).and fD).and nL).imp fun fu ⟨⟨⟨⟨⟨hfu,dU⟩,tB⟩,fL⟩,fD⟩,nL⟩ pF=>by
 have:j9.size=4:=rfl
 refine oB (dU j9) fun x2 h1=>?_
 have:bJ.size=4:=rfl
 have:xX.size=2:=rfl
 have:fC.size=3:=rfl
 have:=F0 bJ xX fC
 have:=bA bJ
 have:=bA xX
 have:=bA fC
 refine Ok.lt fun d3 h2=>Ok.lt fun y5 h3=>?_
 have:=congrArg wt h3
 simp only [bA] at this
 have:y5.size≤4:=by rw [h3];exact DS.pick_size _ (by decide) (by decide)
 refine Ok.lt fun d7 h4=>oB (tB) fun x10 h5=>?_;refine oC (fun g6=>?_) fun g6=>?_
 ·refine oC (fun g7=>?_) fun g7=>?_
  ·refine Ok.lt fun d13 h8=>?_
   have:eN.size=1:=rfl
   refine SU (fL eN) fun x17 h9 h9B=>SU (fD 1 bP) fun x19 h10 h10B=>?_
   have:CE.size=1:=rfl
   have:eT.size=1:=rfl
   have:s_.size=0:=rfl
   have:=(aW:wl ([]:List aA)=0∧_)
   have:=aA.wt_mk 0 s_ []
   have:=cA x17
   have:=(aW:wl ([]:List bS)=0∧_)
   have:=aL.wt_mk 5 y5 eT 0 (aA.mk 0 s_ []) ([x17]:List aL) []
   have:=kM (aL.mk 5 y5 eT 0 (aA.mk 0 s_ []) ([x17]:List aL) []) x19
   refine oB (nL 10 CE ([(aL.mk 5 y5 eT 0 (aA.mk 0 s_ []) ([x17]:List aL) []),x19]:List aL) bP) fun x21 h11=>?_
   have:=(aW:wl ([]:List aL)=0∧_)
   have:=aL.wt_mk 0 s_ s_ 0 (aA.mk 0 s_ []) [] []
   have:=(aW:wl ([]:LB)=0∧_)
   have:=aF.wt_mk eT [] x10 false [] (aL.mk 0 s_ s_ 0 (aA.mk 0 s_ []) [] [])
   have:=cA (aF.mk eT [] x10 false [] (aL.mk 0 s_ s_ 0 (aA.mk 0 s_ []) [] []))
   have:fK.size=5:=rfl
   have:=cA x2
   have:sJ.size=1:=rfl
   have:=kM eN sJ
   have:=bA eN
   have:=bA sJ
   have:=aF.wt_mk fK ([x2]:List aA) x10 true ([eN,sJ]:LB) x21
   have:=cA (aF.mk fK ([x2]:List aA) x10 true ([eN,sJ]:LB) x21)
   refine oG fun z12=>?_;refine Ok.sok (E:=fun v23=>wl v23≤10) ?_ ?_
   ·refine Ok.lt fun d24 h14=>?_;refine oC (fun g15=>?_) fun g15=>?_
    ·have:jL.size=3:=rfl
     have:=cA jL
     have:=bA jL
     exact oI
    exact oI
   intro v23 h13
   refine Ok.lt fun d28 h16=>?_;refine oC (fun g17=>?_) fun g17=>?_
   ·have:CZ.size=1:=rfl
    have:=kM j9 CZ
    have:=bA j9
    have:=bA CZ
    refine Ok.lt fun d31 h18=>Ok.lt fun y33 h19=>?_
    have:=congrArg wt h19
    simp only [bA] at this
    have:y33.size≤4:=by rw [h19];exact DS.pick_size _ (by decide) (by decide)
    refine oB (dU y33) fun x36 h20=>?_
    have:=DS.below_lt d3 (n:=3) (by decide)
    have:=aA.wt_mk 0 s_ ([])
    have:=aL.wt_mk 0 s_ s_ 0 (aA.mk 0 s_ ([])) ([]) ([])
    have:=aF.wt_mk eT ([]) x36 false ([]) (aL.mk 0 s_ s_ 0 (aA.mk 0 s_ ([])) ([]) ([]))
    have:=kM (aF.mk eT ([]) x36 false ([]) (aL.mk 0 s_ s_ 0 (aA.mk 0 s_ ([])) ([]) ([]))) (aF.mk fK ([x2]:List aA) x10 true ([eN,sJ]:LB) x21)
    have:=aU.wt_mk y5 v23 false (decide (d3.below 3=0)) ([(aF.mk eT ([]) x36 false ([]) (aL.mk 0 s_ s_ 0 (aA.mk 0 s_ ([])) ([]) ([]))),(aF.mk fK ([x2]:List aA) x10 true ([eN,sJ]:LB) x21)]:List aF)
    exact oS
   have:=DS.below_lt d3 (n:=3) (by decide)
   have:=aA.wt_mk 0 s_ ([])
   have:=aL.wt_mk 0 s_ s_ 0 (aA.mk 0 s_ ([])) ([]) ([])
   have:=aF.wt_mk eT ([]) x10 true ([]) (aL.mk 0 s_ s_ 0 (aA.mk 0 s_ ([])) ([]) ([]))
   have:=kM (aF.mk eT ([]) x10 true ([]) (aL.mk 0 s_ s_ 0 (aA.mk 0 s_ ([])) ([]) ([]))) (aF.mk fK ([x2]:List aA) x10 true ([eN,sJ]:LB) x21)
   have:=aU.wt_mk y5 v23 false (decide (d3.below 3=0)) ([(aF.mk eT ([]) x10 true ([]) (aL.mk 0 s_ s_ 0 (aA.mk 0 s_ ([])) ([]) ([]))),(aF.mk fK ([x2]:List aA) x10 true ([eN,sJ]:LB) x21)]:List aF)
   exact oS
  refine Ok.lt fun d37 h21=>?_;refine Ok.sok (E:=fun v40=>wl v40≤10) ?_ ?_
  ·refine Ok.lt fun d41 h23=>?_;refine oC (fun g24=>?_) fun g24=>?_
   ·have:jL.size=3:=rfl
    have:=cA jL
    have:=bA jL
    exact oI
   have:=(aW:wl ([]:LB)=0∧_)
   exact oI
  intro v40 h22
  refine Ok.lt fun d45 h25=>?_;refine oC (fun g26=>?_) fun g26=>?_
  ·have:CZ.size=1:=rfl
   have:=kM j9 CZ
   have:=bA j9
   have:=bA CZ
   refine Ok.lt fun d48 h27=>Ok.lt fun y50 h28=>?_
   have:=congrArg wt h28
   simp only [bA] at this
   have:y50.size≤4:=by rw [h28];exact DS.pick_size _ (by decide) (by decide)
   refine oB (dU y50) fun x53 h29=>?_
   have:=DS.below_lt d3 (n:=3) (by decide)
   have:eT.size=1:=rfl
   have:s_.size=0:=rfl
   have:=(aW:wl ([]:List aA)=0∧_)
   have:=aA.wt_mk 0 s_ []
   have:=(aW:wl ([]:List aL)=0∧_)
   have:=(aW:wl ([]:List bS)=0∧_)
   have:=aL.wt_mk 0 s_ s_ 0 (aA.mk 0 s_ []) [] []
   have:=(aW:wl ([]:LB)=0∧_)
   have:=aF.wt_mk eT [] x53 false [] (aL.mk 0 s_ s_ 0 (aA.mk 0 s_ []) [] [])
   have:=cA (aF.mk eT [] x53 false [] (aL.mk 0 s_ s_ 0 (aA.mk 0 s_ []) [] []))
   have:=aU.wt_mk y5 v40 false (decide (d3.below 3=0)) ([(aF.mk eT [] x53 false [] (aL.mk 0 s_ s_ 0 (aA.mk 0 s_ []) [] []))]:List aF)
   exact oS
  have:=DS.below_lt d3 (n:=3) (by decide)
  have:eT.size=1:=rfl
  have:s_.size=0:=rfl
  have:=(aW:wl ([]:List aA)=0∧_)
  have:=aA.wt_mk 0 s_ []
  have:=(aW:wl ([]:List aL)=0∧_)
  have:=(aW:wl ([]:List bS)=0∧_)
  have:=aL.wt_mk 0 s_ s_ 0 (aA.mk 0 s_ []) [] []
  have:=(aW:wl ([]:LB)=0∧_)
  have:=aF.wt_mk eT [] x10 true [] (aL.mk 0 s_ s_ 0 (aA.mk 0 s_ []) [] [])
  have:=cA (aF.mk eT [] x10 true [] (aL.mk 0 s_ s_ 0 (aA.mk 0 s_ []) [] []))
  have:=aU.wt_mk y5 v40 false (decide (d3.below 3=0)) ([(aF.mk eT [] x10 true [] (aL.mk 0 s_ s_ 0 (aA.mk 0 s_ []) [] []))]:List aF)
  exact oS
 refine Ok.sok (E:=fun v55=>wl v55≤1000∧0<v55.length) ?_ ?_
 ·refine Ok.lt fun d56 h31=>?_;refine oC (fun g32=>?_) fun g32=>?_
  ·have:eN.size=1:=rfl
   refine SU (fL eN) fun x61 h33 h33B=>SU (fD 1 bP) fun x63 h34 h34B=>?_
   have:CE.size=1:=rfl
   have:eT.size=1:=rfl
   have:s_.size=0:=rfl
   have:=(aW:wl ([]:List aA)=0∧_)
   have:=aA.wt_mk 0 s_ []
   have:=cA x61
   have:=(aW:wl ([]:List bS)=0∧_)
   have:=aL.wt_mk 5 y5 eT 0 (aA.mk 0 s_ []) ([x61]:List aL) []
   have:=kM (aL.mk 5 y5 eT 0 (aA.mk 0 s_ []) ([x61]:List aL) []) x63
   refine oB (nL 10 CE ([(aL.mk 5 y5 eT 0 (aA.mk 0 s_ []) ([x61]:List aL) []),x63]:List aL) bP) fun x65 h35=>?_
   have:=(aW:wl ([]:List aL)=0∧_)
   have:=aL.wt_mk 0 s_ s_ 0 (aA.mk 0 s_ []) [] []
   have:=(aW:wl ([]:LB)=0∧_)
   have:=aF.wt_mk eT [] x10 false [] (aL.mk 0 s_ s_ 0 (aA.mk 0 s_ []) [] [])
   have:=cA (aF.mk eT [] x10 false [] (aL.mk 0 s_ s_ 0 (aA.mk 0 s_ []) [] []))
   have:fK.size=5:=rfl
   have:=cA x2
   have:sJ.size=1:=rfl
   have:=kM eN sJ
   have:=bA eN
   have:=bA sJ
   have:=aF.wt_mk fK ([x2]:List aA) x10 true ([eN,sJ]:LB) x65
   have:=cA (aF.mk fK ([x2]:List aA) x10 true ([eN,sJ]:LB) x65)
   refine oG fun z36=>?_
   have:=b4 ([(aF.mk eT [] x10 false [] (aL.mk 0 s_ s_ 0 (aA.mk 0 s_ []) [] []))]:List aF) ([(aF.mk fK ([x2]:List aA) x10 true ([eN,sJ]:LB) x65)]:List aF)
   exact oI
  have:eT.size=1:=rfl
  have:s_.size=0:=rfl
  have:=(aW:wl ([]:List aA)=0∧_)
  have:=aA.wt_mk 0 s_ []
  have:=(aW:wl ([]:List aL)=0∧_)
  have:=(aW:wl ([]:List bS)=0∧_)
  have:=aL.wt_mk 0 s_ s_ 0 (aA.mk 0 s_ []) [] []
  have:=(aW:wl ([]:LB)=0∧_)
  have:=aF.wt_mk eT [] x10 false [] (aL.mk 0 s_ s_ 0 (aA.mk 0 s_ []) [] [])
  have:=cA (aF.mk eT [] x10 false [] (aL.mk 0 s_ s_ 0 (aA.mk 0 s_ []) [] []))
  exact oI
 intro v55 h30
 refine Ok.sok (E:=fun v67=>wl v67≤10) ?_ ?_
 ·refine Ok.lt fun d68 h38=>?_;refine oC (fun g39=>?_) fun g39=>?_
  ·have:jL.size=3:=rfl
   have:=cA jL
   have:=bA jL
   exact oI
  have:=(aW:wl ([]:LB)=0∧_)
  exact oI
 intro v67 h37
 refine Ok.lt fun d72 h40=>?_;refine oC (fun g41=>?_) fun g41=>?_
 ·have:=DS.below_lt d3 (n:=3) (by decide)
  have:=aU.wt_mk y5 v67 true (decide (d3.below 3=0)) v55
  exact oS
 refine oC (fun g42=>?_) fun g42=>?_
 ·have:s_.size=0:=rfl
  have:eG.size=3:=rfl
  have:s_A.size=1:=rfl
  have:=F0 s_ eG s_A
  have:=bA s_
  have:=bA eG
  have:=bA s_A
  refine Ok.lt fun d76 h43=>Ok.lt fun y78 h44=>?_
  have:=congrArg wt h44
  simp only [bA] at this
  have:y78.size≤3:=by rw [h44];exact DS.pick_size _ (by decide) (by decide)
  have:=DS.below_lt d3 (n:=3) (by decide)
  have:=aU.wt_mk y78 v67 false (decide (d3.below 3=0)) v55
  exact oS
 refine oC (fun g45=>?_) fun g45=>?_
 ·have:=aZ (v67)
  have:jL.size=3:=rfl
  have:=cA jL
  have:=bA jL
  refine oG fun z46=>?_
  have:=b4 v67 ([jL]:LB)
  have:=DS.below_lt d3 (n:=3) (by decide)
  have:=aU.wt_mk y5 (v67++([jL]:LB)) false (decide (d3.below 3=0)) v55
  exact oS
 refine oC (fun g47=>?_) fun g47=>?_
 ·have:=aZ (v55)
  refine oG fun z48=>?_
  have:=cP v55 0 z48
  have:wl (List.take 1 v55)=wl (List.take 0 v55)+wt (aT v55 0)+1:=LE v55 0 z48
  refine Ok.lt fun y84 h49=>?_
  have:=congrArg wt h49
  have:=cA y84
  refine oG fun z50=>?_
  have:=DS.below_lt d3 (n:=3) (by decide)
  have:=b4 v55 ([y84]:List aF)
  have:=aU.wt_mk y5 v67 false (decide (d3.below 3=0)) (v55++([y84]:List aF))
  exact oS
 have:=DS.below_lt d3 (n:=3) (by decide)
 have:=aU.wt_mk y5 v67 false (decide (d3.below 3=0)) v55
 exact oS
def ahY(fu:Nat):Prop:= ∀(pc:DS),Ok (BX fu pc) (fun r=>wt r.1≤10000)
theorem ME:bQ ahY:=((((bQ.ge 2147483648).and dU).and cW).and nM).imp fun fu ⟨⟨⟨hfu,dU⟩,cW⟩,nM⟩ pc=>by
 have:=abR
 have:=ah8
 have:fW.size=1:=rfl
 refine oB (dU fW) fun x2 h1=>?_
 have:cH.size=4:=rfl
 have:=cA x2
 refine oB (cW cH ([x2]:List aA) bP) fun x4 h2=>Ok.lt fun d5 h3=>?_;refine oC (fun g4=>?_) fun g4=>?_
 ·have:CZ.size=1:=rfl
  have:=kM fW CZ
  have:=bA fW
  have:=bA CZ
  refine Ok.lt fun d8 h5=>Ok.lt fun y10 h6=>?_
  have:=congrArg wt h6
  simp only [bA] at this
  have:y10.size≤1:=by rw [h6];exact DS.pick_size _ (by decide) (by decide)
  have:=cA fW
  have:=cA y10
  have:=bA y10
  refine oG fun z7=>?_
  have:=b4 ([fW]:LB) ([y10]:LB)
  have:fX.size=3:=rfl
  have:=(aW:wl ([]:List aA)=0∧_)
  have:=aD.wt_mk fX []
  have:cG.size=4:=rfl
  have:=kM x2 x4
  have:=aD.wt_mk cG ([x2,x4]:List aA)
  have:=kM (aD.mk fX []) (aD.mk cG ([x2,x4]:List aA))
  have:=aN.wt_mk cH (([fW]:LB)++([y10]:LB)) ([(aD.mk fX []),(aD.mk cG ([x2,x4]:List aA))]:List aD)
  exact oS
 refine oC (fun g8=>?_) fun g8=>?_
 ·refine Ok.lt fun d14 h9=>?_
  have:=DS.below_lt d5 (n:=2) (by decide)
  have:fX.size=3:=rfl
  have:=(aW:wl ([]:List aA)=0∧_)
  have:=aD.wt_mk fX []
  have:cG.size=4:=rfl
  have:=kM x2 x4
  have:=aD.wt_mk cG ([x2,x4]:List aA)
  have:=kM (aD.mk fX []) (aD.mk cG ([x2,x4]:List aA))
  refine oG fun z10=>?_
  have:=cA fW
  have:=bA fW
  have:=UO (0:Int).toNat (d5.below 2:Int).toNat ([(aD.mk fX []),(aD.mk cG ([x2,x4]:List aA))]:List aD)
  have:=aN.wt_mk cH ([fW]:LB) (List.drop (0:Int).toNat (List.take (d5.below 2:Int).toNat ([(aD.mk fX []),(aD.mk cG ([x2,x4]:List aA))]:List aD)))
  exact oS
 refine oC (fun g11=>?_) fun g11=>?_
 ·refine wL (nM d5 2 bP) fun x19 x20 h12=>?_
  dsimp only at h12
  have:=cA fW
  have:=bA fW
  have:fX.size=3:=rfl
  have:=cA x19
  have:=aD.wt_mk fX ([x19]:List aA)
  have:cG.size=4:=rfl
  have:=kM x2 x4
  have:=aD.wt_mk cG ([x2,x4]:List aA)
  have:=kM (aD.mk fX ([x19]:List aA)) (aD.mk cG ([x2,x4]:List aA))
  have:=aN.wt_mk cH ([fW]:LB) ([(aD.mk fX ([x19]:List aA)),(aD.mk cG ([x2,x4]:List aA))]:List aD)
  exact oS
 refine oC (fun g13=>?_) fun g13=>?_
 ·have:cG.size=4:=rfl
  have:s_.size=0:=rfl
  have:WY.size=3:=rfl
  have:=F0 cG s_ WY
  have:=bA cG
  have:=bA s_
  have:=bA WY
  refine Ok.lt fun d22 h14=>Ok.lt fun y24 h15=>?_
  have:=congrArg wt h15
  simp only [bA] at this
  have:y24.size≤4:=by rw [h15];exact DS.pick_size _ (by decide) (by decide)
  have:=cA fW
  have:=bA fW
  have:=(aW:wl ([]:List aA)=0∧_)
  have:=aD.wt_mk y24 []
  have:=kM x2 x4
  have:=aD.wt_mk cG ([x2,x4]:List aA)
  have:=kM (aD.mk y24 []) (aD.mk cG ([x2,x4]:List aA))
  have:=aN.wt_mk cH ([fW]:LB) ([(aD.mk y24 []),(aD.mk cG ([x2,x4]:List aA))]:List aD)
  exact oS
 have:=cA fW
 have:=bA fW
 have:fX.size=3:=rfl
 have:=(aW:wl ([]:List aA)=0∧_)
 have:=aD.wt_mk fX []
 have:cG.size=4:=rfl
 have:=kM x2 x4
 have:=aD.wt_mk cG ([x2,x4]:List aA)
 have:=kM (aD.mk fX []) (aD.mk cG ([x2,x4]:List aA))
 have:=aN.wt_mk cH ([fW]:LB) ([(aD.mk fX []),(aD.mk cG ([x2,x4]:List aA))]:List aD)
 exact oS
def alG(fu:Nat):Prop:= ∀(pF:DS),Ok (E8 fu pF) (fun r=>wt r.1≤12000000)
theorem QS:bQ alG:=(((((bQ.ge 2147483648).and IE).and ME).and MF).and VW).imp fun fu ⟨⟨⟨⟨hfu,IE⟩,ME⟩,MF⟩,VW⟩ pF=>by
 refine Ok.lt fun d1 h1=>?_
 have:=DS.below_lt pF (n:=5) (by decide)
 have:=(aW:wl ([]:List aU)=0∧_)
 have:=(aW:wl ([]:List aN)=0∧_)
 have:=(aW:wl ([]:List aI)=0∧_)
 have:=(aW:wl ([]:List aP)=0∧_)
 refine Ok.sok (E:=fun(v9,v10,v11,v12,v4)=>wl v9+wl v10+wl v11+wl v12≤10000005) ?_ ?_
 ·refine Ok.loop0 (fun i3 (v9,v10,v11,v12,v4)=>wl v9+wl v10+wl v11+wl v12≤2000001*i3∧i3≤5) (by exact bP) (by rintro i3 ⟨v9,v10,v11,v12,v4⟩-hI;(try dsimp only at hI ⊢);omega) ?_;rintro i3 ⟨v9,v10,v11,v12,v4⟩ hl3 hI4
  dsimp only at hI4
  refine Ok.lt fun d15 h5=>?_;refine oC (fun g6=>?_) fun g6=>?_
  ·refine wL (IE d15) fun x19 x20 h7=>?_
   dsimp only at h7
   have:=aZ (v9)
   have:=cA x19
   refine oG fun z8=>?_
   have:=b4 v9 ([x19]:List aU)
   exact nT
  refine oC (fun g9=>?_) fun g9=>?_
  ·refine wL (ME d15) fun x24 x25 h10=>?_
   dsimp only at h10
   have:=aZ (v10)
   have:=cA x24
   refine oG fun z11=>?_
   have:=b4 v10 ([x24]:List aN)
   exact nT
  refine oC (fun g12=>?_) fun g12=>?_
  ·refine wL (MF d15) fun x29 x30 h13=>?_
   dsimp only at h13
   have:=aZ (v11)
   have:=cA x29
   refine oG fun z14=>?_
   have:=b4 v11 ([x29]:List aI)
   exact nT
  refine wL (VW d15) fun x33 x34 h15=>?_
  dsimp only at h15
  have:=aZ (v12)
  have:=cA x33
  refine oG fun z16=>?_
  have:=b4 v12 ([x33]:List aP)
  exact nT
 rintro⟨v9,v10,v11,v12,v4⟩ h2
 dsimp only at h2
 refine Ok.lt fun d36 h17=>?_;refine oC (fun g18=>?_) fun g18=>?_
 ·have:s_.size=0:=rfl
  have:gF.size=4:=rfl
  have:=kM s_ gF
  have:=bA s_
  have:=bA gF
  refine Ok.lt fun d39 h19=>Ok.lt fun y41 h20=>?_
  have:=congrArg wt h20
  simp only [bA] at this
  have:y41.size≤4:=by rw [h20];exact DS.pick_size _ (by decide) (by decide)
  have:=cA gF
  have:=aM.wt_mk y41 ([gF]:LB) v9 v10 v11 v12
  exact oS
 refine oC (fun g21=>?_) fun g21=>?_
 ·have:gF.size=4:=rfl
  have:s_q.size=1:=rfl
  have:s_p.size=1:=rfl
  have:=F0 gF s_q s_p
  have:=bA gF
  have:=bA s_q
  have:=bA s_p
  refine Ok.lt fun d44 h22=>Ok.lt fun y46 h23=>?_
  have:=congrArg wt h23
  simp only [bA] at this
  have:y46.size≤4:=by rw [h23];exact DS.pick_size _ (by decide) (by decide)
  have:=cA gF
  have:=cA y46
  have:=bA y46
  refine oG fun z24=>?_
  have:=b4 ([gF]:LB) ([y46]:LB)
  have:=aM.wt_mk s_p (([gF]:LB)++([y46]:LB)) v9 v10 v11 v12
  exact oS
 have:s_p.size=1:=rfl
 have:gF.size=4:=rfl
 have:=cA gF
 have:=bA gF
 have:=aM.wt_mk s_p ([gF]:LB) v9 v10 v11 v12
 exact oS
def aeO(fu:Nat):Prop:= ∀(pc:DS),Ok (yB fu pc) (fun r=>wt r.1≤13000000)
theorem afE:bQ aeO:=(((bQ.ge 2147483648).and MJ).and QS).imp fun fu ⟨⟨hfu,MJ⟩,QS⟩ pc=>by
 refine wL (MJ pc) fun x2 x3 h1=>?_
 dsimp only at h1
 refine Ok.lt fun d4 h2=>?_;refine oC (fun g3=>?_) fun g3=>?_
 ·refine wL (QS d4) fun x8 x9 h4=>?_
  dsimp only at h4
  have:=aE.wt_eq x2
  have:=aZ (x2.aB2)
  have:=cA x8
  refine oG fun z5=>?_
  have:=b4 x2.aB2 ([x8]:List aM)
  have:=aE.wt_mk (x2.aB2++([x8]:List aM))
  exact oS
 have:=aE.wt_eq x2
 have:=aE.wt_mk x2.aB2
 exact oS
end Go.Proofs.YtfcoaagbccmahaaGreat.W
