/- Words, rules and walks of several kinds, laid together. No conditions but those that each theorem states. -/
import Derived.Test.YtfcoaagbccmahaaGreatQh17bd2ac1
set_option linter.unusedSimpArgs false
set_option linter.unusedVariables false
namespace Go.Proofs.YtfcoaagbccmahaaGreat.W
set_option maxRecDepth 20000
set_option maxHeartbeats 4000000
open Go.RowKit Go.WalkArith Go.IntWalk
def aaX(fu:Nat):Prop:= ∀(px:UInt8),Ok (xV fu px) (fun _=>True)
theorem KM:bR aaX:=(bR.ge 2147483648).imp fun fu hfu px=>by
 refine oD (fun g1=>?_) fun g1=>?_
 ·refine oD (fun _=>oS) fun g2=>?_;refine oD (fun g3=>?_) fun g3=>?_
  ·exact oD (fun _=>oS) fun g4=>oD (fun _=>oS) fun g5=>oD (fun _=>oS) fun g6=>oD (fun _=>oS) fun g7=>oD (fun _=>oS) fun g8=>oD (fun _=>oS) fun g9=>oD (fun _=>oS) fun g10=>oS
  exact oD (fun _=>oS) fun g11=>oD (fun _=>oS) fun g12=>oD (fun _=>oS) fun g13=>oD (fun _=>oS) fun g14=>oD (fun _=>oS) fun g15=>oD (fun _=>oS) fun g16=>oS
 refine oD (fun g17=>?_) fun g17=>?_
 ·exact oD (fun _=>oS) fun g18=>oD (fun _=>oS) fun g19=>oD (fun _=>oS) fun g20=>oD (fun _=>oS) fun g21=>oD (fun _=>oS) fun g22=>oD (fun _=>oS) fun g23=>oD (fun _=>oS) fun g24=>oS
 exact oD (fun _=>oS) fun g25=>oD (fun _=>oS) fun g26=>oD (fun _=>oS) fun g27=>oD (fun _=>oS) fun g28=>oD (fun _=>oS) fun g29=>oD (fun _=>oS) fun g30=>oS
def alR(fu:Nat):Prop:= ∀(px pC pD:Int),Ok (BA fu px pC pD) (fun _=>True)
theorem s9:bR alR:=(bR.ge 2147483648).imp fun fu hfu px pC pD=>by
 exact oD (fun _=>oS) fun g1=>oS
def IQ(fu:Nat):Prop:= ∀(ps:Y),ps.size≤1073741824→Ok (CQ fu ps) (fun _=>True)
theorem sM:bR IQ:=(((bR.ge 2147483648).and KM).and s9).imp fun fu ⟨⟨hfu,KM⟩,s9⟩ ps hpre=>by
 refine IG ?_ ?_
 ·refine Ok.loop1 ?_;rintro i1 ⟨⟩ hl2
  exact oG fun z4=>oB (KM (wG ps i1)) fun x6 _=>oW (fun _=>oR) fun g6=>rE
 rintro⟨⟩-
 exact oB (s9 (ps.size:Int) 1 12) fun x9 _=>oS
def am1(fu:Nat):Prop:= ∀(px:aB) (p3:Int),wt px≤1073741824→Ok (rM fu px p3) (fun _=>True)
def Q5(n:Nat)(m:BK):Prop:= ∀(px:aB) (p3:Int),wt px<n→wt px≤1073741824→Ok (m px p3) (fun _=>True)
theorem ak2{n fu:Nat}(hfu:2147483648≤fu){p6:BK}(p8:Q5 n p6):Q5 (n+1) (TF fu p6):=by
 intro px p3 hm hpre
 refine oEN (fun i1 v2 hl2=>?_) ?_
 ·have:=aB.wt_eq px
  have:=bA px.aD7
  refine oD (fun g4=>?_) fun g4=>?_
  ·have:=cZ px.aD7 i1 hl2
   exact oB (p8 (aR px.aD7 i1) v2 bU bU) fun x7 _=>rE
  exact oK
 intro v2 _
 exact oS
theorem aoN(n:Nat):bR fun fu=>Q5 n (rM fu):=by
 induction n with
 |zero=>exact .all fun fu=>fun _ _ h=>absurd h (Nat.not_lt_zero _)
 |succ n ih=>exact bR.succ ((ih.and (bR.ge 2147483648)).imp fun fu ⟨h,hfu⟩=>fun px p3=>by rw [rM];exact ak2 hfu h px p3)
theorem R7:bR am1:=(aoN 8589934592).imp fun fu h px p3 hpre=>h px p3 bU hpre
def am0(fu:Nat):Prop:= ∀(px:aB),wt px≤1073741824→Ok (rL fu px) (fun _=>True)
def Q4(n:Nat)(m:BJ):Prop:= ∀(px:aB),wt px<n→wt px≤1073741824→Ok (m px) (fun _=>True)
theorem akZ{n fu:Nat}(hfu:2147483648≤fu)(sM:IQ fu){p7:BJ}(p9:Q4 n p7):Q4 (n+1) (TE fu p7):=by
 intro px hm hpre
 have:=aB.wt_eq px
 have:s_.size=0:=rfl
 refine oN (fun g1=>?_) fun g1=>?_
 ·have:=IV g1
  exact oB (sM px.aEa bU) fun x3 _=>oC (fun _=>oS) fun g3=>oS
 refine IG ?_ ?_
 ·refine Ok.loop1 ?_;rintro i5 ⟨⟩ hl5
  have:=bA px.aD7
  have:=cZ px.aD7 i5 hl5
  exact oB (p9 (aR px.aD7 i5) bU bU) fun x9 _=>oW (fun _=>oR) fun g8=>rE
 rintro⟨⟩-
 exact oS
theorem aoM(n:Nat):bR fun fu=>Q4 n (rL fu):=by
 induction n with
 |zero=>exact .all fun fu=>fun _ h=>absurd h (Nat.not_lt_zero _)
 |succ n ih=>exact bR.succ ((ih.and ((bR.ge 2147483648).and sM)).imp fun fu ⟨h,⟨hfu,sM⟩⟩=>fun px=>by rw [rL];exact akZ hfu sM h px)
theorem R6:bR am0:=(aoM 8589934592).imp fun fu h px hpre=>h px bU hpre
def V1(fu:Nat):Prop:= ∀(pa pb:Int),Ok (QT fu pa pb) (fun _=>True)
theorem tY:bR V1:=(bR.ge 2147483648).imp fun fu hfu pa pb=>by
 exact oD (fun _=>oS) fun g1=>oS
def ZF(fu:Nat):Prop:= ∀(px:aB),wt px≤1073741824→Ok (jQ fu px) (fun _=>True)
def EF(n:Nat)(m:rJ):Prop:= ∀(px:aB),wt px<n→wt px≤1073741824→Ok (m px) (fun _=>True)
theorem X1{n fu:Nat}(hfu:2147483648≤fu)(tY:V1 fu){p1:rJ}(p4:EF n p1):EF (n+1) (EV fu p1):=by
 intro px hm hpre
 have:=aB.wt_eq px
 have:s_.size=0:=rfl
 refine oN (fun _=>oS) fun g1=>?_;refine oEN (fun i2 v3 hl3=>?_) ?_
 ·have:=bA px.aD7
  have:=cZ px.aD7 i2 hl3
  exact oB (p4 (aR px.aD7 i2) bU bU) fun x7 _=>oB (tY v3 x7) fun x9 _=>rE
 intro v3 _
 exact oS
theorem Z8(n:Nat):bR fun fu=>EF n (jQ fu):=by
 induction n with
 |zero=>exact .all fun fu=>fun _ h=>absurd h (Nat.not_lt_zero _)
 |succ n ih=>exact bR.succ ((ih.and ((bR.ge 2147483648).and tY)).imp fun fu ⟨h,⟨hfu,tY⟩⟩=>fun px=>by rw [jQ];exact X1 hfu tY h px)
theorem EM:bR ZF:=(Z8 8589934592).imp fun fu h px hpre=>h px bU hpre
def UJ(fu:Nat):Prop:= ∀(px:aB),wt px≤1073741824→Ok (iW fu px) (fun _=>True)
theorem cU:bR UJ:=((((bR.ge 2147483648).and R7).and R6).and EM).imp fun fu ⟨⟨⟨hfu,R7⟩,R6⟩,EM⟩ px hpre=>by
 refine oB (R7 px 900 bU) fun x2 _=>?_;refine oD (fun g2=>?_) fun g2=>?_
 ·refine oB (R6 px bU) fun x5 _=>?_;refine oC (fun g4=>?_) fun g4=>?_
  ·exact oB (EM px bU) fun x8 _=>oS
  exact oS
 exact oS
def GC(fu:Nat):Prop:= ∀(p0:Z aB),wl p0≤1073741824→Ok (uT fu p0) (fun r=>wl r.1≤wl p0)
theorem jA:bR GC:=(bR.ge 2147483648).imp fun fu hfu p0 hpre=>by
 have:=(aX:wl ([]:LB)=0∧_)
 refine SE p0 1 (fun i1 v3 hl2 hI3 _ _=>?_) ?_
 ·have:=bA p0
  have:=cZ p0 i1 hl2
  have:=aB.wt_eq (aR p0 i1)
  have:s_.size=0:=rfl
  refine oD (fun _=>oR) fun g4=>?_
  have:=IV g4
  have:=bA (v3)
  have:=cH ((aR p0 i1).aEa)
  have:=aZ ((aR p0 i1).aEa)
  refine oG fun z5=>?_
  have:=b6 v3 ([((aR p0 i1).aEa)]:LB)
  exact rE
 intro v3 h1
 exact oS
def J6(fu:Nat):Prop:= ∀(ps:Y),Ok (cI fu ps) (fun r=>wt r=ps.size)
theorem bP:bR J6:=(bR.ge 2147483648).imp fun fu hfu ps=>by
 have:=(aX:wl ([]:Z aB)=0∧_)
 have:=aB.wt_mk ps []
 exact oS
def M1(fu:Nat):Prop:= ∀(p0:LB),wl p0≤1073741824→Ok (HO fu p0) (fun r=>wl r≤wl p0)
theorem nR:bR M1:=((bR.ge 2147483648).and bP).imp fun fu ⟨hfu,bP⟩ p0 hpre=>by
 have:=(aX:wl ([]:Z aB)=0∧_)
 refine SE p0 1 (fun i1 v3 hl2 hI3 _ _=>?_) ?_
 ·have:=bA p0
  have:=cZ p0 i1 hl2
  have:=aZ (aR p0 i1)
  refine oB (bP (aR p0 i1)) fun x7 h4=>?_
  have:=bA (v3)
  have:=cH x7
  refine oG fun z5=>?_
  have:=b6 v3 ([x7]:Z aB)
  exact rE
 intro v3 h1
 exact oS
def aaY(fu:Nat):Prop:= ∀(p0:Z aB),wl p0≤1073741824→Ok (mX fu p0) (fun r=>wt r=wl p0)
theorem eZ:bR aaY:=(bR.ge 2147483648).imp fun fu hfu p0 hpre=>by
 have:=(aX:wl ([]:Z aB)=0∧_)
 have:=bA (p0)
 refine oG fun z1=>?_
 have:s_.size=0:=rfl
 have:=b6 ([]:Z aB) p0
 have:=aB.wt_mk s_ (([])++p0)
 exact oS
def ZB(fu:Nat):Prop:= ∀(pa pb:aB),wt pa≤1073741824→Ok (fY fu pa pb) (fun _=>True)
def EE(n:Nat)(m:rG):Prop:= ∀(pa pb:aB),wt pa<n→wt pa≤1073741824→Ok (m pa pb) (fun _=>True)
theorem XR{n fu:Nat}(hfu:2147483648≤fu){p2:rG}(p5:EE n p2):EE (n+1) (ES fu p2):=by
 intro pa pb hm hpre
 have:=aB.wt_eq pa
 have:=aB.wt_eq pb
 refine oN (fun _=>oS) fun g1=>?_
 have:=bA pa.aD7
 have:=bA pb.aD7
 refine oN (fun _=>oS) fun g2=>?_;refine IG ?_ ?_
 ·refine Ok.loop1 ?_;rintro i3 ⟨⟩ hl4
  have:=bA (pb.aD7)
  refine oG fun z6=>?_
  have:=cZ pa.aD7 i3 hl4
  have:=cZ pb.aD7 i3 z6
  exact oB (p5 (aR pa.aD7 i3) (aR pb.aD7 i3) bU bU) fun x8 _=>oW (fun _=>oR) fun g8=>rE
 rintro⟨⟩-
 exact oS
theorem Z5(n:Nat):bR fun fu=>EE n (fY fu):=by
 induction n with
 |zero=>exact .all fun fu=>fun _ _ h=>absurd h (Nat.not_lt_zero _)
 |succ n ih=>exact bR.succ ((ih.and (bR.ge 2147483648)).imp fun fu ⟨h,hfu⟩=>fun pa pb=>by rw [fY];exact XR hfu h pa pb)
theorem gZ:bR ZB:=(Z5 8589934592).imp fun fu h pa pb hpre=>h pa pb bU hpre
def V0(fu:Nat):Prop:= ∀(p0:LB) (ps:Y),Ok (lS fu p0 ps) (fun _=>True)
theorem eH:bR V0:=(bR.ge 2147483648).imp fun fu hfu p0 ps=>by
 refine IG ?_ ?_
 ·refine Ok.loop1 ?_;rintro i1 ⟨⟩ hl2
  have:=bA p0
  exact oD (fun _=>oR) fun g4=>rE
 rintro⟨⟩-
 exact oS
def ZC(fu:Nat):Prop:= ∀(ps:Y),Ok (yF fu ps) (fun _=>True)
theorem EJ:bR ZC:=((bR.ge 2147483648).and eH).imp fun fu ⟨hfu,eH⟩ ps=>by
 have:eY.size=3:=rfl
 have:eQ.size=4:=rfl
 have:jV.size=5:=rfl
 have:AR.size=3:=rfl
 have:GZ.size=2:=rfl
 have:H9.size=3:=rfl
 have:AE.size=4:=rfl
 have:IA.size=3:=rfl
 have:q7.size=6:=rfl
 have:AF.size=4:=rfl
 have:rQ.size=4:=rfl
 have:mM.size=5:=rfl
 have:wl ([eY,eQ,jV,AR,GZ,H9,AE,IA,q7,AF,rQ,mM]:LB)=58:=rfl
 exact oB (eH ([eY,eQ,jV,AR,GZ,H9,AE,IA,q7,AF,rQ,mM]:LB) ps) fun x2 _=>oS
def BR(fu:Nat):Prop:= ∀(ps:Y),Ok (dM fu ps) (fun _=>True)
theorem bO:bR BR:=(((bR.ge 2147483648).and s9).and EJ).imp fun fu ⟨⟨hfu,s9⟩,EJ⟩ ps=>by
 refine oB (s9 (ps.size:Int) 1 8) fun x2 _=>oW (fun _=>oS) fun g2=>oB (EJ ps) fun x5 _=>oC (fun _=>oS) fun g4=>?_;refine IG ?_ ?_
 ·refine Ok.loop1 ?_;rintro i7 ⟨⟩ hl6
  refine oG fun z8=>?_;refine oD (fun g9=>?_) fun g9=>?_
  ·refine oW (fun g10=>?_) fun g10=>?_
   ·exact oD (fun _=>oR) fun g11=>oD (fun _=>oR) fun g12=>oD (fun _=>oR) fun g13=>rE
   exact rE
  exact oD (fun _=>oR) fun g14=>oD (fun _=>oR) fun g15=>oD (fun _=>oR) fun g16=>rE
 rintro⟨⟩-
 exact oS
def V2(fu:Nat):Prop:= ∀(p0:LB),Ok (HQ fu p0) (fun _=>True)
theorem sN:bR V2:=((bR.ge 2147483648).and bO).imp fun fu ⟨hfu,bO⟩ p0=>by
 refine IG ?_ ?_
 ·refine Ok.loop1 ?_;rintro i1 ⟨⟩ hl2
  have:=bA p0
  have:=cZ p0 i1 hl2
  have:=aZ (aR p0 i1)
  exact oB (bO (aR p0 i1)) fun x5 _=>oW (fun _=>oR) fun g5=>rE
 rintro⟨⟩-
 exact oS
def IN(fu:Nat):Prop:= ∀(p0:LB),Ok (lH fu p0) (fun _=>True)
theorem eV:bR IN:=((bR.ge 2147483648).and eH).imp fun fu ⟨hfu,eH⟩ p0=>by
 refine IG ?_ ?_
 ·refine Ok.loop1 ?_;rintro i1 ⟨⟩ hl2
  have:=bA p0
  refine oG fun z4=>?_
  have:=VT (0:Int).toNat (i1:Int).toNat p0
  have:=cZ p0 i1 hl2
  have:=aZ (aR p0 i1)
  exact oB (eH (List.drop (0:Int).toNat (List.take (i1:Int).toNat p0)) (aR p0 i1)) fun x6 _=>oC (fun _=>oR) fun g6=>rE
 rintro⟨⟩-
 exact oS
def V4(fu:Nat):Prop:= ∀(ps:Y),Ok (nN fu ps) (fun r=>wt r=ps.size)
theorem eT:bR V4:=(bR.ge 2147483648).imp fun fu hfu ps=>by
 have:=(aX:wl ([]:Z aA)=0∧_)
 have:=aA.wt_mk 1 ps []
 exact oS
def V3(fu:Nat):Prop:= ∀(ps:Y) (pD:Z aA),ps.size+wl pD≤1073741824→Ok (gW fu ps pD) (fun r=>wt r=ps.size+wl pD)
theorem dY:bR V3:=(bR.ge 2147483648).imp fun fu hfu ps pD hpre=>by
 have:=(aX:wl ([]:Z aA)=0∧_)
 have:=bA (pD)
 refine oG fun z1=>?_
 have:=b6 ([]:Z aA) pD
 have:=aA.wt_mk 2 ps (([])++pD)
 exact oS
def acI(fu:Nat):Prop:= ∀(p3:aA),wt p3≤67108864→Ok (nO fu p3) (fun r=>wt r+1≤8*(wt p3+1))
def acC(n:Nat)(m:EB):Prop:= ∀(p3:aA),wt p3<n→wt p3≤67108864→Ok (m p3) (fun r=>wt r+1≤8*(wt p3+1))
theorem aq1{n fu:Nat}(hfu:2147483648≤fu)(bP:J6 fu)(eZ:aaY fu){pK:EB}(pP:acC n pK):acC (n+1) (aeX fu pK):=by
 intro p3 hm hpre
 refine IG ?_ ?_
 ·have:=aA.wt_eq p3
  refine oD (fun g2=>?_) fun g2=>?_
  ·have:ao4.size=1:=rfl
   refine oG fun z3=>?_
   have:=eG ao4 p3.aD4
   exact oB (bP (ao4++p3.aD4)) fun x4 h4=>oL
  refine oD (fun g5=>?_) fun g5=>?_
  ·have:AR.size=3:=rfl
   refine oB (bP AR) fun x7 h6=>oB (bP p3.aD4) fun x9 h7=>?_
   have:=lJ x7 x9
   exact oB (eZ ([x7,x9]:Z aB) bU) fun x11 h8=>oL
  refine oD (fun g9=>?_) fun g9=>?_
  ·have:=bA p3.aD5
   refine oD (fun g10=>?_) fun g10=>?_
   ·exact oB (bP p3.aD4) fun x15 h11=>oL
   exact oI
  exact oI
 rintro⟨⟩-
 refine Ok.sok (E:=fun v17=>wl v17≤6) ?_ ?_
 ·have:=aA.wt_eq p3
  refine oD (fun g13=>?_) fun g13=>?_
  ·have:jV.size=5:=rfl
   refine oB (bP jV) fun x20 h14=>?_
   have:=(aX:wl ([]:Z aB)=0∧_)
   have:=cH x20
   refine oG fun z15=>?_
   have:=b6 ([]:Z aB) ([x20]:Z aB)
   exact oI
  have:=(aX:wl ([]:Z aB)=0∧_)
  exact oI
 intro v17 h12
 have:=aA.wt_eq p3
 refine oB (bP p3.aD4) fun x23 h16=>?_
 have:=bA (v17)
 have:=cH x23
 refine oG fun z17=>?_
 have:=b6 v17 ([x23]:Z aB)
 refine SE p3.aD5 8 (fun i25 v27 hl19 hI20 _ _=>?_) ?_
 ·have:=bA p3.aD5
  have:=cZ p3.aD5 i25 hl19
  refine oB (pP (aR p3.aD5 i25) bU bU) fun x31 h21=>?_
  have:=bA (v27)
  have:=cH x31
  refine oG fun z22=>?_
  have:=b6 v27 ([x31]:Z aB)
  exact rE
 intro v27 h18
 have:s_.size=0:=rfl
 have:=aB.wt_mk s_ v27
 exact oS
theorem as0(n:Nat):bR fun fu=>acC n (nO fu):=by
 induction n with
 |zero=>exact .all fun fu=>fun _ h=>absurd h (Nat.not_lt_zero _)
 |succ n ih=>exact bR.succ ((ih.and (((bR.ge 2147483648).and bP).and eZ)).imp fun fu ⟨h,⟨⟨hfu,bP⟩,eZ⟩⟩=>fun p3=>by rw [nO];exact aq1 hfu bP eZ h p3)
theorem jN:bR acI:=(as0 8589934592).imp fun fu h p3 hpre=>h p3 bU hpre
def am5(fu:Nat):Prop:= ∀(pt:aA) (pC:Int),wt pt≤1073741824→Ok (rO fu pt pC) (fun _=>True)
def Q7(n:Nat)(m:BN):Prop:= ∀(pt:aA) (pC:Int),wt pt<n→wt pt≤1073741824→Ok (m pt pC) (fun _=>True)
theorem alB{n fu:Nat}(hfu:2147483648≤fu){pE:BN}(pL:Q7 n pE):Q7 (n+1) (TG fu pE):=by
 intro pt pC hm hpre
 refine oEN (fun i1 v2 hl2=>?_) ?_
 ·have:=aA.wt_eq pt
  have:=bA pt.aD5
  refine oD (fun g4=>?_) fun g4=>?_
  ·have:=cZ pt.aD5 i1 hl2
   exact oB (pL (aR pt.aD5 i1) v2 bU bU) fun x7 _=>rE
  exact oK
 intro v2 _
 exact oS
theorem aoR(n:Nat):bR fun fu=>Q7 n (rO fu):=by
 induction n with
 |zero=>exact .all fun fu=>fun _ _ h=>absurd h (Nat.not_lt_zero _)
 |succ n ih=>exact bR.succ ((ih.and (bR.ge 2147483648)).imp fun fu ⟨h,hfu⟩=>fun pt pC=>by rw [rO];exact alB hfu h pt pC)
theorem SA:bR am5:=(aoR 8589934592).imp fun fu h pt pC hpre=>h pt pC bU hpre
def acG(fu:Nat):Prop:= ∀(pt:aA),wt pt≤1073741824→Ok (k8 fu pt) (fun _=>True)
def F9(n:Nat)(m:tF):Prop:= ∀(pt:aA),wt pt<n→wt pt≤1073741824→Ok (m pt) (fun _=>True)
theorem aaB{n fu:Nat}(hfu:2147483648≤fu)(tY:V1 fu){p8:tF}(pJ:F9 n p8):F9 (n+1) (GY fu p8):=by
 intro pt hm hpre
 refine oEN (fun i1 v2 hl2=>?_) ?_
 ·have:=aA.wt_eq pt
  have:=bA pt.aD5
  have:=cZ pt.aD5 i1 hl2
  refine oB (pJ (aR pt.aD5 i1) bU bU) fun x6 _=>?_
  have:=fC (1+x6)
  exact oB (tY v2 (aW (1+x6))) fun x8 _=>rE
 intro v2 _
 exact oS
theorem adQ(n:Nat):bR fun fu=>F9 n (k8 fu):=by
 induction n with
 |zero=>exact .all fun fu=>fun _ h=>absurd h (Nat.not_lt_zero _)
 |succ n ih=>exact bR.succ ((ih.and ((bR.ge 2147483648).and tY)).imp fun fu ⟨h,⟨hfu,tY⟩⟩=>fun pt=>by rw [k8];exact aaB hfu tY h pt)
theorem GN:bR acG:=(adQ 8589934592).imp fun fu h pt hpre=>h pt bU hpre
def aa0(fu:Nat):Prop:= ∀(ps:Y),Ok (BM fu ps) (fun _=>True)
theorem BG:bR aa0:=(bR.ge 2147483648).imp fun fu hfu ps=>by
 exact oD (fun _=>oS) fun g1=>oS
def am3(fu:Nat):Prop:= ∀(p3:aA),wt p3≤1073741824→Ok (l8 fu p3) (fun _=>True)
def Q6(n:Nat)(m:vD):Prop:= ∀(p3:aA),wt p3<n→wt p3≤1073741824→Ok (m p3) (fun _=>True)
theorem ak8{n fu:Nat}(hfu:2147483648≤fu)(bO:BR fu)(BG:aa0 fu){pF:vD}(pM:Q6 n pF):Q6 (n+1) (K2 fu pF):=by
 intro p3 hm hpre
 have:=aA.wt_eq p3
 refine oB (bO p3.aD4) fun x2 _=>?_;refine IG ?_ ?_
 ·refine IG ?_ ?_
  ·exact oD (fun _=>oI) fun g4=>oI
  intro v4 _
  refine oC (fun g5=>?_) fun g5=>?_
  ·exact oC (fun _=>oI) fun g6=>oI
  refine oD (fun g7=>?_) fun g7=>?_
  ·exact oC (fun _=>oI) fun g8=>oI
  refine oD (fun g9=>?_) fun g9=>?_
  ·refine oC (fun g10=>?_) fun g10=>?_
   ·exact oD (fun _=>oI) fun g11=>oB (BG p3.aD4) fun x14 _=>oC (fun _=>oI) fun g13=>oI
   exact oB (BG p3.aD4) fun x17 _=>oC (fun _=>oI) fun g15=>oI
  exact oL
 intro v3 _
 refine oEN (fun i19 v20 hl17=>?_) ?_
 ·have:=bA p3.aD5
  refine oC (fun g19=>?_) fun g19=>?_
  ·have:=cZ p3.aD5 i19 hl17
   exact oB (pM (aR p3.aD5 i19) bU bU) fun x25 _=>rE
  exact rE
 intro v20 _
 exact oS
theorem aoQ(n:Nat):bR fun fu=>Q6 n (l8 fu):=by
 induction n with
 |zero=>exact .all fun fu=>fun _ h=>absurd h (Nat.not_lt_zero _)
 |succ n ih=>exact bR.succ ((ih.and (((bR.ge 2147483648).and bO).and BG)).imp fun fu ⟨h,⟨⟨hfu,bO⟩,BG⟩⟩=>fun p3=>by rw [l8];exact ak8 hfu bO BG h p3)
theorem R9:bR am3:=(aoQ 8589934592).imp fun fu h p3 hpre=>h p3 bU hpre
def IR(fu:Nat):Prop:= ∀(pt:aA),wt pt≤1073741824→Ok (iU fu pt) (fun _=>True)
theorem eW:bR IR:=((((bR.ge 2147483648).and SA).and GN).and R9).imp fun fu ⟨⟨⟨hfu,SA⟩,GN⟩,R9⟩ pt hpre=>by
 refine oB (SA pt 60 bU) fun x2 _=>?_;refine oD (fun g2=>?_) fun g2=>?_
 ·refine oB (GN pt bU) fun x5 _=>?_;refine oD (fun g4=>?_) fun g4=>?_
  ·exact oB (R9 pt bU) fun x8 _=>oS
  exact oS
 exact oS
def OT(fu:Nat):Prop:= ∀(pa pb:aA),wt pa≤1073741824→Ok (fS fu pa pb) (fun _=>True)
def AT(n:Nat)(m:k7):Prop:= ∀(pa pb:aA),2*wt pa+1<n→wt pa≤1073741824→Ok (m pa pb) (fun _=>True)
def J5(n:Nat)(m:rP):Prop:= ∀(pa pb:Z aA),2*wl pa<n→wl pa≤1073741824→Ok (m pa pb) (fun _=>True)
theorem Z7{n fu:Nat}(hfu:2147483648≤fu){p1:k7}(p9:AT n p1){p4:rP}(pG:J5 n p4):AT (n+1) (A3 fu p1 p4):=by
 intro pa pb hm hpre
 have:=aA.wt_eq pa
 have:=aA.wt_eq pb
 refine oD (fun g1=>?_) fun g1=>?_
 ·refine oD (fun g2=>?_) fun g2=>?_
  ·exact oB (pG pa.aD5 pb.aD5 bU bU) fun x4 _=>oS
  exact oS
 exact oS
theorem alE{n fu:Nat}(hfu:2147483648≤fu){p1:k7}(p9:AT n p1){p4:rP}(pG:J5 n p4):J5 (n+1) (F5 fu p1 p4):=by
 intro pa pb hm hpre
 have:=bA pa
 have:=bA pb
 refine oN (fun _=>oS) fun g1=>?_;refine IG ?_ ?_
 ·refine Ok.loop1 ?_;rintro i2 ⟨⟩ hl3
  have:=bA (pb)
  refine oG fun z5=>?_
  have:=cZ pa i2 hl3
  have:=cZ pb i2 z5
  exact oB (p9 (aR pa i2) (aR pb i2) bU bU) fun x7 _=>oW (fun _=>oR) fun g7=>rE
 rintro⟨⟩-
 exact oS
theorem adK(n:Nat):bR fun fu=>AT n (fS fu)∧J5 n (lN fu):=by
 induction n with
 |zero=>exact .all fun fu=>⟨fun _ _ h=>absurd h (Nat.not_lt_zero _),fun _ _ h=>absurd h (Nat.not_lt_zero _)⟩
 |succ n ih=>exact bR.succ ((ih.and (bR.ge 2147483648)).imp fun fu ⟨h,hfu⟩=>⟨fun pa pb=>by rw [fS];exact Z7 hfu h.1 h.2 pa pb,fun pa pb=>by rw [lN];exact alE hfu h.1 h.2 pa pb⟩)
theorem vR:bR OT:=(adK 8589934592).imp fun fu h pa pb hpre=>h.1 pa pb bU hpre
def am7(fu:Nat):Prop:= ∀(pt:aA) (p7:LB),wt pt+wl p7≤268435456→Ok (l9 fu pt p7) (fun r=>wl r≤wl p7+wt pt+1)
def Q8(n:Nat)(m:xZ):Prop:= ∀(pt:aA) (p7:LB),wt pt<n→wt pt+wl p7≤268435456→Ok (m pt p7) (fun r=>wl r≤wl p7+wt pt+1)
theorem alH{n fu:Nat}(hfu:2147483648≤fu)(eH:V0 fu){pH:xZ}(pO:Q8 n pH):Q8 (n+1) (K7 fu pH):=by
 intro pt p7 hm hpre
 have:=aA.wt_eq pt
 refine Ok.sok (E:=fun v2=>wl v2+wl pt.aD5≤wl p7+wt pt+1) ?_ ?_
 ·refine oD (fun g2=>?_) fun g2=>?_
  ·refine oB (eH p7 pt.aD4) fun x5 _=>?_;refine oW (fun g4=>?_) fun g4=>?_
   ·have:=bA (p7)
    have:=cH pt.aD4
    have:=aZ pt.aD4
    refine oG fun z5=>?_
    have:=b6 p7 ([pt.aD4]:LB)
    exact oI
   exact oI
  exact oI
 intro v2 h1
 refine SE pt.aD5 1 (fun i8 v10 hl7 hI8 _ _=>?_) ?_
 ·have:=bA pt.aD5
  have:=cZ pt.aD5 i8 hl7
  exact oB (pO (aR pt.aD5 i8) v10 bU bU) fun x14 h9=>rE
 intro v10 h6
 exact oS
theorem aoU(n:Nat):bR fun fu=>Q8 n (l9 fu):=by
 induction n with
 |zero=>exact .all fun fu=>fun _ _ h=>absurd h (Nat.not_lt_zero _)
 |succ n ih=>exact bR.succ ((ih.and ((bR.ge 2147483648).and eH)).imp fun fu ⟨h,⟨hfu,eH⟩⟩=>fun pt p7=>by rw [l9];exact alH hfu eH h pt p7)
theorem SB:bR am7:=(aoU 8589934592).imp fun fu h pt p7 hpre=>h pt p7 bU hpre
def RC(fu:Nat):Prop:= ∀(pt:aA),wt pt≤268435456→Ok (oO fu pt) (fun r=>wl r≤wt pt+1)
theorem w9:bR RC:=((bR.ge 2147483648).and SB).imp fun fu ⟨hfu,SB⟩ pt hpre=>by
 have:=(aX:wl ([]:LB)=0∧_)
 exact oB (SB pt ([]:LB) bU) fun x2 h1=>oS
def RB(fu:Nat):Prop:= ∀(pt:aA),wt pt≤1073741824→Ok (eA fu pt) (fun _=>True)
def wQ(n:Nat)(m:l6):Prop:= ∀(pt:aA),wt pt<n→wt pt≤1073741824→Ok (m pt) (fun _=>True)
theorem QD{n fu:Nat}(hfu:2147483648≤fu){p5:l6}(pA:wQ n p5):wQ (n+1) (tC fu p5):=by
 intro pt hm hpre
 refine IG ?_ ?_
 ·refine Ok.loop1 ?_;rintro i1 ⟨⟩ hl2
  have:=aA.wt_eq pt
  have:=bA pt.aD5
  have:=cZ pt.aD5 i1 hl2
  exact oB (pA (aR pt.aD5 i1) bU bU) fun x5 _=>oC (fun _=>oR) fun g5=>rE
 rintro⟨⟩-
 exact oS
theorem SP(n:Nat):bR fun fu=>wQ n (eA fu):=by
 induction n with
 |zero=>exact .all fun fu=>fun _ h=>absurd h (Nat.not_lt_zero _)
 |succ n ih=>exact bR.succ ((ih.and (bR.ge 2147483648)).imp fun fu ⟨h,hfu⟩=>fun pt=>by rw [eA];exact QD hfu h pt)
theorem l4:bR RB:=(SP 8589934592).imp fun fu h pt hpre=>h pt bU hpre
def IP(fu:Nat):Prop:= ∀(pt:aA) (pv:Y),wt pt+pv.size≤1073741824→Ok (eL fu pt pv) (fun _=>True)
def sB(n:Nat)(m:gT):Prop:= ∀(pt:aA) (pv:Y),wt pt<n→wt pt+pv.size≤1073741824→Ok (m pt pv) (fun _=>True)
theorem IJ{n fu:Nat}(hfu:2147483648≤fu){p2:gT}(p6:sB n p2):sB (n+1) (sP fu p2):=by
 intro pt pv hm hpre
 refine IG ?_ ?_
 ·refine oD (fun g2=>?_) fun g2=>?_
  ·exact oD (fun _=>oI) fun g3=>oI
  exact oI
 intro v1 _
 refine oEN (fun i4 v5 hl5=>?_) ?_
 ·have:=aA.wt_eq pt
  have:=bA pt.aD5
  have:=cZ pt.aD5 i4 hl5
  exact oB (p6 (aR pt.aD5 i4) pv bU bU) fun x9 _=>rE
 intro v5 _
 exact oS
theorem JK(n:Nat):bR fun fu=>sB n (eL fu):=by
 induction n with
 |zero=>exact .all fun fu=>fun _ _ h=>absurd h (Nat.not_lt_zero _)
 |succ n ih=>exact bR.succ ((ih.and (bR.ge 2147483648)).imp fun fu ⟨h,hfu⟩=>fun pt pv=>by rw [eL];exact IJ hfu h pt pv)
theorem sL:bR IP:=(JK 8589934592).imp fun fu h pt pv hpre=>h pt pv bU hpre
def afD(fu:Nat):Prop:= ∀(pv:Y) (pt:aA),pv.size+wt pt≤1073741824→Ok (JL fu pv pt) (fun _=>True)
theorem I8:bR afD:=((bR.ge 2147483648).and sL).imp fun fu ⟨hfu,sL⟩ pv pt hpre=>by
 exact oB (sL pt pv bU) fun x2 _=>oS
theorem asP(d:DS)(l:LB):0<l.length→(d.pick l).size+1≤wl l:=fun h=>by
 have:=C9 (d.pick_mem h)
 exact this
theorem anF(d:DS)(n:Nat):0<n→d.below n<n:=fun h=>d.below_lt h
theorem arL(E:Int): -9223372036854775808≤aW E∧aW E≤9223372036854775807:=by
 unfold aW IntKind.wrap
 simp [IntKind.bits,IntKind.signed]
 omega
inductive MN:aL→Prop
 |mk {k:Int} {t n:Y} {i:Int} {ty:aA} {args:Z aL} {arms:Z bW} (h:(k=2→0≤i∧i≤1)∧(k=1→i.natAbs≤9223372036854775808)) (ha: ∀a∈args,MN a) (hm: ∀m∈arms,MN m.aEe):MN (.mk k t n i ty args arms)
theorem MN.num{e:aL}(h:MN e):(e.aD8=2→0≤e.aEM∧e.aEM≤1)∧(e.aD8=1→e.aEM.natAbs≤9223372036854775808):=by cases h;assumption
theorem MN.arg{e:aL}(h:MN e): ∀a∈e.aD5,MN a:=by cases h;assumption
theorem MN.arm{e:aL}(h:MN e): ∀m∈e.aEo,MN m.aEe:=by cases h;assumption
theorem MN.zero:MN (aL.mk 0 s_ s_ 0 (aA.mk 0 s_ []) [] []):= .mk ⟨by omega,by omega⟩ (by simp) (by simp)
section
variable {α:Type}
theorem alU{P:α→Prop}: ∀a∈([]:Z α),P a:=by simp
theorem apI{P:α→Prop}{l:Z α}{x:α}(h: ∀a∈l,P a)(hx:P x): ∀a∈l++ [x],P a:=by
 intro a ha
 rcases List.mem_append.1 ha with ha|ha
 ·exact h a ha
 ·obtain rfl:=List.mem_singleton.1 ha
  exact hx
theorem acM [Inhabited α]{P:α→Prop}{l:Z α}{i:Nat}(h: ∀a∈l,P a)(hi:i<l.length):P (aR l i):=h _ (cB hi)
variable [Wt α]
theorem ajJ(a:Z α)(x:α):(a.length=0→wl (List.drop 1 (a++ [x]))=0)∧(0<a.length→wl (List.drop 1 (a++ [x]))=wl (List.drop 1 a)+wt x+1):=by
 cases a with
 |nil=>exact⟨fun _=>rfl,fun h=>by simp at h⟩
 |cons b a=>exact⟨fun h=>by simp at h,fun _=>by simp only [List.cons_append,List.drop_succ_cons,List.drop_zero];rw [(b6 _ _).1,(cH _).1];omega⟩
theorem awF(v:Z α):wl (List.drop (1:Int).toNat (List.take (((v.length:Nat):Int):Int).toNat v))=wl (List.drop 1 v):=by
 have:List.take (((v.length:Nat):Int):Int).toNat v=v:=by simp
 rw [this]
 rfl
theorem AZ(L:Z α)(x:Int)(k:Nat):(((k:Int)≤((L.length:Nat):Int)∧x=k)∨(((L.length:Nat):Int)≤k∧x=((L.length:Nat):Int)))→wl (List.drop (x:Int).toNat (List.take (((L.length:Nat):Int):Int).toNat L))+wl (List.take k L)≤wl L:=by
 have e:List.take (((L.length:Nat):Int):Int).toNat L=L:=by simp
 rw [e]
 rintro(⟨h,rfl⟩|⟨h,rfl⟩)
 ·have:=J2 k L
  simp only [Int.toNat_natCast]
  omega
 ·simp only [Int.toNat_natCast,List.drop_length]
  have:=qF L k
  show 0+_≤_
  omega
theorem asO(L:Z α)(x:Int):(((2:Int)≤((L.length:Nat):Int)∧x=2)∨(((L.length:Nat):Int)≤2∧x=((L.length:Nat):Int)))→wl (List.drop (1:Int).toNat (List.take (x:Int).toNat L))+wl (List.take 1 L)≤wl (List.take 2 L):=by
 have key: ∀M:Z α,wl (List.drop (1:Int).toNat M)+wl (List.take 1 M)=wl M:=fun M=>by
  have:=J2 1 M
  show wl (List.drop 1 M)+_=_
  omega
 rintro(⟨h,rfl⟩|⟨h,rfl⟩)
 ·have:=key (L.take 2)
  rw [List.take_take] at this
  exact Nat.le_of_eq this
 ·have h2:L.length≤2:=by omega
  have:=key L
  rw [show List.take (((L.length:Nat):Int):Int).toNat L=L by simp,List.take_of_length_le h2]
  exact Nat.le_of_eq this
variable [Inhabited α]
theorem aj6(L:Z α)(a b c:α)(k k1:Nat)(hk:k+1=k1):(k<L.length→wt (aR ((([])++L)++([a,b,c]:Z α)) k)+1+wl (List.take k L)=wl (List.take k1 L))∧(L.length≤k→k<L.length+3→wt (aR ((([])++L)++([a,b,c]:Z α)) k)≤wt a+wt b+wt c∧wl (List.take k L)=wl L∧wl (List.take k1 L)=wl L)∧wl (List.take k1 L)≤wl L:=by
 subst hk
 rw [List.nil_append]
 refine⟨fun h=>?_,fun h h3=>⟨?_,by rw [List.take_of_length_le h],by rw [List.take_of_length_le (by omega)]⟩,qF L _⟩
 ·have h2:=qG L k h
  have e:aR (L++ [a,b,c]) k=aR L k:=by
   unfold aR
   rw [List.getElem?_append_left h]
  rw [e]
  omega
 ·have e:aR (L++ [a,b,c]) k=aR [a,b,c] (k-L.length):=by
   unfold aR
   rw [List.getElem?_append_right h]
  rw [e]
  have:k-L.length=0∨k-L.length=1∨k-L.length=2:=by omega
  rcases this with h|h|h<;>rw [h]<;>simp [aR]<;>omega
end
theorem oX{α β:Type}[Wt α]{v:Z α}{x:α}{PA:α→Prop}{E:Z α→Prop}{Q:β→Prop}{m:Z α→Prop}(hB: ∀a∈v,PA a)(h:m (v++ [x]):=by first|omega|(dsimp only;omega))(hx:PA x:=by first|assumption|exact MN.zero):Ok (some (LR.next (v++ [x]))) (PL Q (fun v=>m v∧ ∀a∈v,PA a) E):=⟨_,rfl,h,apI hB hx⟩
theorem oS2{α:Type}{P1 P2:α→Prop}{a:α}(h:P1 a:=by first|omega|(dsimp only;omega))(k:P2 a:=by first|assumption|exact MN.zero|exact .mk ⟨by omega,by omega⟩ (by first|assumption|exact alU) (by first|assumption|exact alU)):Ok (some a) (fun a=>P1 a∧P2 a):=⟨a,rfl,h,k⟩
def avT(p r:c4):Prop:=r.aEN=p.aEN∧p.aEv≤r.aEv∧r.aEv≤((p.aEN.size:Nat):Int)∧r.aEx=p.aEx∧r.aEC=p.aEC
def aaZ(fu:Nat):Prop:= ∀p:c4,0≤p.aEv→p.aEv≤((p.aEN.size:Nat):Int)→p.aEN.size≤1048576→Ok (mZ fu p) (avT p)
theorem abE:bR aaZ:=(bR.ge 2147483648).imp fun fu hfu p h0 h1 h2=>by
 unfold mZ
 refine Ok.sok (E:=fun v1=>p.aEv≤v1∧v1≤((p.aEN.size:Nat):Int)) ?_ (fun v1 h=>Ok.some ⟨rfl,h.1,h.2,rfl,rfl⟩)
 refine Ok.loopW (fun v1=>p.aEv≤v1∧v1≤((p.aEN.size:Nat):Int)) (fun v1=>(((p.aEN.size:Nat):Int)-v1).toNat) ?_ _ _ bU bU
 intro v1 hI
 have:=fC (v1+1)
 unfold HN
 refine Ok.swd (fun g=>?_) (fun g=>Ok.brk hI)
 refine Ok.gdk bU (fun z=>?_)
 refine Ok.swd (fun _=>Ok.next bU) (fun _=>?_)
 refine Ok.swd (fun _=>Ok.next bU) (fun _=>Ok.brk hI)
def afS(p:c4)(r:aB×c4):Prop:=r.2.aEN=p.aEN∧p.aEv≤r.2.aEv∧r.2.aEv≤((p.aEN.size:Nat):Int)∧(r.2.aEC=false→r.2.aEx=p.aEx∧(wt r.1:Int)+1≤2*(r.2.aEv-p.aEv))
def apE(n:Nat)(r:c4→J (aB×c4)):Prop:= ∀p:c4,(14-p.aEx).toNat<n→0≤p.aEv→p.aEv≤((p.aEN.size:Nat):Int)→p.aEN.size≤1048576→0≤p.aEx→p.aEx≤14→p.aEC=false→Ok (r p) (afS p)
theorem ak4(n fu:Nat)(hfu:2147483648≤fu)(k1:aaZ fu)(k2:aaX fu)(r:BL)(hr:apE n r):apE (n+1) (F1 fu r):=by
 intro p hn h0 h1 h2 hd hd2 hb
 unfold F1
 refine Ok.bd (k1 p h0 h1 h2) ?_;rintro x ⟨e1,e2,e3,e4,e5⟩
 have e3':x.aEv≤((x.aEN.size:Nat):Int):=by rw [e1];exact e3
 have bad: ∀v:Int,p.aEv≤v→v≤((p.aEN.size:Nat):Int)→Ok (some ((aB.mk s_ []),(c4.mk x.aEN v x.aEx (aW (x.aEB+1)) true))) (afS p):=fun v hv hv2=>Ok.some ⟨e1,hv,hv2,fun h=>by cases h⟩
 refine Ok.swd (fun _=>bad _ e2 e3) (fun g1=>?_)
 refine Ok.swd (fun _=>bad _ e2 e3) (fun g2=>?_)
 refine Ok.sok (E:=fun v=>x.aEv≤v∧v≤((x.aEN.size:Nat):Int)) ?_ ?_
 ·have hz:x.aEN.size≤1048576:=by rw [e1];exact h2
  refine Ok.loopW (fun v1=>x.aEv≤v1∧v1≤((x.aEN.size:Nat):Int)) (fun v1=>(((x.aEN.size:Nat):Int)-v1).toNat) ?_ _ _ bU bU
  intro v1 hI
  have:=fC (v1+1)
  unfold OF
  refine Ok.swd (fun g=>?_) (fun g=>Ok.brk hI)
  refine Ok.gdk bU (fun z=>?_)
  refine Ok.bd (k2 _) ?_;rintro b-
  exact Ok.sw (fun _=>Ok.next bU) (fun _=>Ok.brk hI)
 intro v hv
 refine Ok.swd (fun g3=>?_) (fun g3=>?_)
 ·refine Ok.gdk bU (fun z=>Ok.some ⟨e1,by show _≤v;omega,by show v≤_;rw [← e1];exact hv.2,fun _=>⟨e4,?_⟩⟩)
  show(wt (aB.mk _ []):Int)+1≤2*(v-p.aEv)
  rw [aB.wt_mk,GE]
  have:wl ([]:Z aB)=0:=rfl
  omega
 ·refine Ok.gdk bU (fun z=>?_)
  have hvp:v≤((p.aEN.size:Nat):Int):=by rw [← e1];exact hv.2
  refine Ok.swn (fun _=>bad _ (by omega) hvp) (fun g4=>?_)
  refine Ok.swd (fun _=>bad _ (by omega) hvp) (fun g5=>?_)
  have w1:=fC (v+1)
  have w2:=fC (x.aEx+1)
  have hz:x.aEN.size≤1048576:=by rw [e1];exact h2
  refine Ok.sok (E:=fun(q:Y×Int×Int×Int×Bool×Z aB)=>q.1=p.aEN∧p.aEv≤q.2.1∧q.2.1≤((p.aEN.size:Nat):Int)∧q.2.2.2.2.1=true) ?_ ?_
  ·refine Ok.loopW (fun(q:Y×Int×Int×Int×Bool×Z aB)=>q.1=p.aEN∧v+1≤q.2.1∧q.2.1≤((p.aEN.size:Nat):Int)∧(q.2.2.2.2.1=false→q.2.2.1=p.aEx+1∧(wl q.2.2.2.2.2:Int)≤2*(q.2.1-(v+1)))) (fun q=>(2*(((p.aEN.size:Nat):Int)-q.2.1)).toNat+(if q.2.2.2.2.1 then 0 else 1)) ?_ _ _ ?_ ?_
   ·rintro⟨v17,v18,v19,v20,v21,v23⟩ ⟨i1,i2,i3,i4⟩
    dsimp only at i1 i2 i3 i4
    subst i1
    unfold OG
    refine Ok.swb (fun g6=>?_) (fun g6=>Ok.brk ⟨rfl,by show p.aEv≤v18;omega,i3,g6⟩)
    subst g6
    obtain⟨i5,i6⟩:=i4 rfl
    subst i5
    refine Ok.bd (k1 _ (by show 0≤v18;omega) i3 h2) ?_;rintro y ⟨f1,f2,f3,f4,f5⟩
    replace f1:y.aEN=p.aEN:=f1
    replace f2:v18≤y.aEv:=f2
    replace f3:y.aEv≤((p.aEN.size:Nat):Int):=f3
    replace f4:y.aEx=p.aEx+1:=f4
    replace f5:y.aEC=false:=f5
    have hl:=bA v23
    have step: ∀q:aB×c4,afS y q→Ok (gd ((v23).length+(([q.1]:Z aB)).length≤68719476736) (some (LR.next (q.2.aEN,q.2.aEv,q.2.aEx,q.2.aEB,q.2.aEC,(v23++([q.1]:Z aB)))))) (PL (afS p) (fun s'=>(fun(q:Y×Int×Int×Int×Bool×Z aB)=>q.1=p.aEN∧v+1≤q.2.1∧q.2.1≤((p.aEN.size:Nat):Int)∧(q.2.2.2.2.1=false→q.2.2.1=p.aEx+1∧(wl q.2.2.2.2.2:Int)≤2*(q.2.1-(v+1)))) s'∧(fun(q:Y×Int×Int×Int×Bool×Z aB)=>(2*(((p.aEN.size:Nat):Int)-q.2.1)).toNat+(if q.2.2.2.2.1 then 0 else 1)) s'<(fun(q:Y×Int×Int×Int×Bool×Z aB)=>(2*(((p.aEN.size:Nat):Int)-q.2.1)).toNat+(if q.2.2.2.2.1 then 0 else 1)) (p.aEN,v18,p.aEx+1,v20,false,v23)) (fun(q:Y×Int×Int×Int×Bool×Z aB)=>q.1=p.aEN∧p.aEv≤q.2.1∧q.2.1≤((p.aEN.size:Nat):Int)∧q.2.2.2.2.1=true)):=by
     rintro⟨a,b⟩ ⟨j1,j2,j3,j4⟩
     dsimp only at j1 j2 j3 j4
     have j3':b.aEv≤((p.aEN.size:Nat):Int):=by rw [← f1];exact j3
     have l1:=cH a
     refine Ok.gdk (by dsimp only;omega) (fun _=>Ok.next ⟨⟨j1.trans f1,by show v+1≤b.aEv;omega,j3',fun hb2=>?_⟩,?_⟩)
     ·obtain⟨j5,j6⟩:=j4 hb2
      refine⟨by show b.aEx=_;rw [j5,f4],?_⟩
      show(wl (v23++ [a]):Int)≤2*(b.aEv-(v+1))
      have:=b6 v23 [a]
      omega
     ·dsimp only
      cases hbb:b.aEC with
      |true=>rw [if_pos rfl,if_neg Bool.false_ne_true];omega
      |false=>
       obtain⟨j5,j6⟩:=j4 hbb
       rw [if_neg Bool.false_ne_true]
       omega
    have call:Ok (r y) (afS y):=hr y (by rw [f4];omega) (by omega) (by rw [f1];exact f3) (by rw [f1];exact h2) (by rw [f4];omega) (by rw [f4];omega) f5
    have w3:=fC (y.aEv+1)
    have w4:=fC (y.aEx-1)
    have hys:y.aEN.size=p.aEN.size:=by rw [f1]
    refine Ok.swd (fun g7=>?_) (fun g7=>Ok.bd call step)
    refine Ok.gdk (by omega) (fun z2=>?_)
    refine Ok.swd (fun g8=>Ok.ret ⟨f1,by show p.aEv≤aW _;omega,by show aW _≤_;omega,fun _=>⟨by show aW _=_;omega,?_⟩⟩) (fun g8=>Ok.bd call step)
    show(wt (aB.mk s_ v23):Int)+1≤2*(aW (y.aEv+1)-p.aEv)
    rw [aB.wt_mk]
    have:s_.size=0:=rfl
    omega
   ·dsimp only
    have: ∀b:Bool,(if b then 0 else 1)≤1:=by decide
    have:=this x.aEC
    omega
   ·have hxs:x.aEN.size=p.aEN.size:=by rw [e1]
    refine⟨e1,by dsimp only;omega,by dsimp only;omega,fun _=>⟨by dsimp only;omega,?_⟩⟩
    show((wl ([]:Z aB):Nat):Int)≤2*(aW (v+1)-(v+1))
    have:wl ([]:Z aB)=0:=rfl
    omega
  ·rintro⟨v17,v18,v19,v20,v21,v23⟩ ⟨i1,i2,i3,i4⟩
   dsimp only at i1 i2 i3 i4
   exact Ok.some ⟨i1,i2,i3,fun h=>by rw [show v21=false from h] at i4;cases i4⟩
theorem aoO(n:Nat):bR fun fu=>apE n (mY fu):=by
 induction n with
 |zero=>exact .all fun fu p h=>absurd h (Nat.not_lt_zero _)
 |succ n ih=>
  refine bR.succ ((ih.and (((bR.ge 2147483648).and abE).and KM)).imp fun fu h=>?_)
  intro p
  rw [mY]
  exact ak4 n fu h.2.1.1 h.2.1.2 h.2.2 _ h.1 p
def ZD(fu:Nat):Prop:= ∀ps:Y,ps.size≤1048576→Ok (rH fu ps) (fun r=>wt r.1≤2*ps.size)
theorem EK:bR ZD:=(((aoO 15).and abE).and cU).imp fun fu hh ps h=>by
 obtain⟨⟨k1,k2⟩,k3⟩:=hh
 have zero: ∀b:Bool,Ok (some ((aB.mk s_ []),b)) (fun r=>wt r.1≤2*ps.size):=fun b=>Ok.some (by
  show wt (aB.mk s_ [])≤_
  rw [aB.wt_mk]
  have:s_.size=0:=rfl
  have:wl ([]:Z aB)=0:=rfl
  omega)
 unfold rH
 refine Ok.bd (k1 _ (by show(14-(0:Int)).toNat<15;omega) (Int.le_refl _) (by show(0:Int)≤_;omega) h (Int.le_refl _) (by show(0:Int)≤14;omega) rfl) ?_;rintro⟨x,r⟩ ⟨e1,e2,e3,e4⟩
 dsimp only at e1 e2 e3 e4
 replace e1:r.aEN=ps:=e1
 replace e2:0≤r.aEv:=e2
 replace e3:r.aEv≤((ps.size:Nat):Int):=e3
 refine Ok.bd (k2 r e2 (by rw [e1];exact e3) (by rw [e1];exact h)) ?_;rintro y ⟨f1,f2,f3,f4,f5⟩
 refine Ok.sw (fun _=>zero _) (fun g=>?_)
 obtain⟨-,e5⟩:=e4 (by rw [← f5];exact g)
 replace e5:(wt x:Int)+1≤2*(r.aEv-0):=e5
 refine Ok.swn (fun _=>zero _) (fun _=>?_)
 refine Ok.bd (k3 x (by omega)) ?_;rintro b-
 exact Ok.swb (fun _=>zero _) (fun _=>Ok.some (by show wt x≤_;omega))
theorem au6{v:Int}{k:Nat}(h:v.natAbs<10^(k+1)):(v.tdiv 10).natAbs<10^k:=by
 rw [Int.natAbs_tdiv,Nat.pow_succ] at*
 show v.natAbs/10<_
 omega
def GB(fu:Nat):Prop:= ∀pn:Int,pn.natAbs≤9223372036854775808→Ok (pX fu pn) (fun r=>r.size≤21)
theorem nA:bR GB:=(bR.ge 18446744073709551616).imp fun fu hfu pn h=>by
 unfold pX
 refine Ok.swd (fun _=>Ok.some (by decide)) (fun _=>?_)
 refine Ok.sok (E:=fun q:Int×Y=>q.2.size≤20) ?_ ?_
 ·refine Ok.loopW (fun q:Int×Y=>q.1.natAbs≤9223372036854775808∧ ∃k,q.2.size+k≤19∧q.1.natAbs<10^k) (fun q=>q.1.natAbs) ?_ _ _ (by dsimp only;omega) ⟨h,19,by show(0:Nat)+19≤19;omega,by dsimp only;omega⟩
  rintro⟨v2,v3⟩ ⟨h1,k,h2,h3⟩
  dsimp only at h1 h2 h3
  unfold MI
  refine Ok.swn (fun g=>?_) (fun _=>Ok.brk (by dsimp only;omega))
  obtain⟨k,rfl⟩: ∃m,k=m+1:=by
   rcases k with _|m
   ·exfalso
    have:(10:Nat)^0=1:=rfl
    omega
   ·exact⟨m,rfl⟩
  have h4:=au6 h3
  have h5:(v2.tdiv 10).natAbs<v2.natAbs:=by
   rw [Int.natAbs_tdiv]
   show v2.natAbs/10<_
   omega
  have w:=fC (v2.tdiv 10)
  have w:aW (v2.tdiv 10)=v2.tdiv 10:=w (by omega)
  have fin: ∀u:UInt8,Ok (gd ((bytesStr ([u]:Z UInt8)).size+(v3).size≤1099511627776) (some (LR.next ((aW ((v2).tdiv 10)),((bytesStr ([u]:Z UInt8))++v3))))) (PL (fun r:Y=>r.size≤21) (fun s'=>(fun q:Int×Y=>q.1.natAbs≤9223372036854775808∧ ∃k,q.2.size+k≤19∧q.1.natAbs<10^k) s'∧(fun q:Int×Y=>q.1.natAbs) s'<(fun q:Int×Y=>q.1.natAbs) (v2,v3)) (fun q:Int×Y=>q.2.size≤20)):=fun u=>by
   have e1:=apM [u]
   have e2: [u].length=1:=rfl
   have e3:=eG (bytesStr [u]) v3
   refine Ok.gdk (by omega) (fun _=>Ok.next ⟨⟨by dsimp only;rw [w];omega,k,by dsimp only;omega,by dsimp only;rw [w];exact h4⟩,by dsimp only;rw [w];exact h5⟩)
  exact Ok.swd (fun _=>fin _) (fun _=>fin _)
 ·rintro⟨v2,v3⟩ hv
  dsimp only at hv
  have:IL.size=1:=rfl
  have:=eG IL v3
  exact Ok.swd (fun _=>Ok.gdk (by omega) (fun _=>Ok.some bU)) (fun _=>Ok.some bU)
def DH(fu:Nat):Prop:= ∀ps:Y,Ok (DY fu ps) (fun r=>r.1.natAbs≤9223372036854775808)
theorem nB:bR DH:=nA.imp fun fu k ps=>by
 have rng: ∀E:Int,(aW E).natAbs≤9223372036854775808:=fun E=>by have:=arL E;omega
 have fin: ∀v:Int,v.natAbs≤9223372036854775808→Ok (bd (pX fu v) (fun x18=>sw (!decide (x18=ps)) (some ((0:Int),false)) (some (v,true)))) (fun r=>r.1.natAbs≤9223372036854775808):=fun v hv=>by
  refine Ok.bd (k v hv) ?_;rintro x-
  exact Ok.swn (fun _=>Ok.some (by decide)) (fun _=>Ok.some hv)
 have loop: ∀(f:Nat→Int→J (LR Int (Int×Bool))) (n:Nat),(∀i s,i<n→Ok (f i s) (PL (fun r:Int×Bool=>r.1.natAbs≤9223372036854775808) (fun v:Int=>v.natAbs≤9223372036854775808) (fun v:Int=>v.natAbs≤9223372036854775808)))→Ok (loopN f (n-0) 0 0) (PS (fun r:Int×Bool=>r.1.natAbs≤9223372036854775808) (fun v:Int=>v.natAbs≤9223372036854775808)):=fun f n hf=>Ok.loop0 (fun _ v=>v.natAbs≤9223372036854775808) (by decide) (fun i s _ h=>h) (fun i s hi _=>hf i s hi)
 unfold DY
 refine Ok.bd (Q:=fun r:Int×Bool=>r.1.natAbs≤9223372036854775808) ?_ (fun r hr=>by obtain⟨a,b⟩:=r;exact Ok.some hr)
 unfold TD
 have hps:((ps.size:Nat):Int)=((ps.size:Nat):Int):=rfl
 refine Ok.swd (fun g=>?_) (fun g=>?_)
 ·refine Ok.gdk (by omega) (fun _=>?_)
  refine Ok.sok (E:=fun _=>True) ?_ ?_
  ·unfold YI
   exact Ok.swd (fun _=>Ok.gdk (by omega) (fun _=>Ok.inr trivial)) (fun _=>Ok.inr trivial)
  rintro v3-
  refine Ok.swd (fun _=>Ok.some (by decide)) (fun _=>?_)
  refine Ok.swd (fun _=>Ok.some (by decide)) (fun _=>?_)
  refine Ok.sok (E:=fun v:Int=>v.natAbs≤9223372036854775808) ?_ ?_
  ·refine loop _ _ (fun i s hi=>?_)
   unfold YK
   refine Ok.gdk hi (fun _=>?_)
   exact Ok.swd (fun _=>Ok.ret (by decide)) (fun _=>Ok.swd (fun _=>Ok.ret (by decide)) (fun _=>Ok.next (rng _)))
  intro v9 hv
  refine Ok.sok (E:=fun v:Int=>v.natAbs≤9223372036854775808) ?_ ?_
  ·unfold YJ
   exact Ok.swd (fun _=>Ok.inr (rng _)) (fun _=>Ok.inr hv)
  intro v15 hv
  exact fin v15 hv
 ·refine Ok.swd (fun _=>Ok.some (by decide)) (fun _=>?_)
  refine Ok.swd (fun _=>Ok.some (by decide)) (fun _=>?_)
  refine Ok.sok (E:=fun v:Int=>v.natAbs≤9223372036854775808) ?_ (fun v hv=>fin v hv)
  refine loop _ _ (fun i s hi=>?_)
  unfold YL
  refine Ok.gdk hi (fun _=>?_)
  exact Ok.swd (fun _=>Ok.ret (by decide)) (fun _=>Ok.swd (fun _=>Ok.ret (by decide)) (fun _=>Ok.next (rng _)))
attribute [local irreducible] wt wl
def VD(fu:Nat):Prop:= ∀(p0:aB),wt p0≤268435456→Ok (nP fu p0) (fun r=>wt r≤2*wt p0)
def acD(n:Nat)(m:K9):Prop:= ∀(p0:aB),wt p0<n→wt p0≤268435456→Ok (m p0) (fun r=>wt r≤2*wt p0)
theorem aq3{n fu:Nat}(hfu:2147483648≤fu)(eT:V4 fu)(dY:V3 fu){pE:K9}(pF:acD n pE):acD (n+1) (aeY fu pE):=by
 intro p0 hm hpre
 have:=aB.wt_eq p0
 have:s_.size=0:=rfl
 refine oN (fun g1=>?_) fun g1=>?_
 ·have:=IV g1
  refine oG fun z2=>?_;refine oD (fun g3=>?_) fun g3=>?_
  ·refine oG fun z4=>?_
   have:=GE p0.aEa (1:Int).toNat (p0.aEa.size:Int).toNat
   exact oB (eT (p0.aEa.extract (1:Int).toNat (p0.aEa.size:Int).toNat)) fun x6 h5=>oS
  have:=(aX:wl ([]:Z aA)=0∧_)
  exact oB (dY p0.aEa ([]:Z aA) bU) fun x8 h6=>oS
 have:=bA p0.aD7
 refine oD (fun g7=>?_) fun g7=>?_
 ·have:=(aX:wl ([]:Z aA)=0∧_)
  have:=aA.wt_mk 0 s_ []
  exact oS
 have:=bA (p0.aD7)
 refine oG fun z8=>?_
 have:=(aX:wl ([]:Z aA)=0∧_)
 refine Ok.sok (E:=fun v13=>wl v13+2*wl (List.take 1 p0.aD7)≤wl ([]:Z aA)+2*wl p0.aD7∧(v13.length=0∨wl (List.drop 1 v13)+2*wl (List.take 2 p0.aD7)≤2*wl p0.aD7)) ?_ ?_
 ·refine Ok.loop0 (fun i11 v13=>wl v13+2*wl (List.take 1 p0.aD7)≤wl ([]:Z aA)+2*wl (List.take i11 p0.aD7)∧((i11=1∧v13.length=0)∨(2≤i11∧1≤v13.length∧wl (List.drop 1 v13)+2*wl (List.take 2 p0.aD7)≤2*wl (List.take i11 p0.aD7)))) (by exact bU) (by rintro i11 v13-hI;have:=qF p0.aD7 i11;(try dsimp only at hI ⊢);omega) ?_;rintro i11 v13 hl10 hI11
  have:=qG p0.aD7 i11 hl10
  have:=qF p0.aD7 (i11+1)
  have:=cZ p0.aD7 i11 hl10
  refine oB (pF (aR p0.aD7 i11) bU bU) fun x17 h12=>?_
  have:=bA (v13)
  have:=cH x17
  refine oG fun z13=>?_
  have:=b6 v13 ([x17]:Z aA)
  have:=ajJ v13 x17
  have:=ae5 p0.aD7 2 (i11+1)
  exact Ok.next bU
 intro v13 h9
 have:=cZ p0.aD7 0 z8
 have:wl (List.take 1 p0.aD7)=wl (List.take 0 p0.aD7)+wt (aR p0.aD7 0)+1:=MM p0.aD7 0 z8
 have:=aB.wt_eq (aR p0.aD7 0)
 have:jV.size=5:=rfl
 refine oD (fun g14=>?_) fun g14=>?_
 ·have:=congrArg ByteArray.size g14
  have:=bA v13
  refine oD (fun g15=>?_) fun g15=>?_
  ·refine oG fun z16=>?_
   have:=cZ p0.aD7 1 z16
   have:wl (List.take 2 p0.aD7)=wl (List.take 1 p0.aD7)+wt (aR p0.aD7 1)+1:=MM p0.aD7 1 z16
   have:=aB.wt_eq (aR p0.aD7 1)
   refine oN (fun g17=>?_) fun g17=>?_
   ·have:=IV g17
    refine oG fun z18=>?_
    have:=AZ v13 1 1
    have:=awF v13
    have:=aA.wt_mk 3 ((aR p0.aD7 1).aEa) (List.drop (1:Int).toNat (List.take (v13.length:Int).toNat v13))
    exact oS
   have:AR.size=3:=rfl
   refine oD (fun g19=>?_) fun g19=>?_
   ·have:=congrArg ByteArray.size g19
    have:=aA.wt_mk 2 ((aR p0.aD7 0).aEa) v13
    exact oS
   have:=aA.wt_mk 2 ((aR p0.aD7 0).aEa) v13
   exact oS
  have:AR.size=3:=rfl
  refine oD (fun g20=>?_) fun g20=>?_
  ·have:=congrArg ByteArray.size g20
   refine oD (fun g21=>?_) fun g21=>?_
   ·refine oG fun z22=>?_
    have:=cZ p0.aD7 1 z22
    have:wl (List.take 2 p0.aD7)=wl (List.take 1 p0.aD7)+wt (aR p0.aD7 1)+1:=MM p0.aD7 1 z22
    have:=aB.wt_eq (aR p0.aD7 1)
    refine oN (fun g23=>?_) fun g23=>?_
    ·have:=IV g23
     have:=aA.wt_mk 4 ((aR p0.aD7 1).aEa) []
     exact oS
    have:=aA.wt_mk 2 ((aR p0.aD7 0).aEa) v13
    exact oS
   have:=aA.wt_mk 2 ((aR p0.aD7 0).aEa) v13
   exact oS
  have:=aA.wt_mk 2 ((aR p0.aD7 0).aEa) v13
  exact oS
 have:AR.size=3:=rfl
 refine oD (fun g24=>?_) fun g24=>?_
 ·have:=congrArg ByteArray.size g24
  have:=bA v13
  refine oD (fun g25=>?_) fun g25=>?_
  ·refine oG fun z26=>?_
   have:=cZ p0.aD7 1 z26
   have:wl (List.take 2 p0.aD7)=wl (List.take 1 p0.aD7)+wt (aR p0.aD7 1)+1:=MM p0.aD7 1 z26
   have:=aB.wt_eq (aR p0.aD7 1)
   refine oN (fun g27=>?_) fun g27=>?_
   ·have:=IV g27
    have:=aA.wt_mk 4 ((aR p0.aD7 1).aEa) []
    exact oS
   have:=aA.wt_mk 2 ((aR p0.aD7 0).aEa) v13
   exact oS
  have:=aA.wt_mk 2 ((aR p0.aD7 0).aEa) v13
  exact oS
 have:=aA.wt_mk 2 ((aR p0.aD7 0).aEa) v13
 exact oS
theorem as1(n:Nat):bR fun fu=>acD n (nP fu):=by
 induction n with
 |zero=>exact .all fun fu=>fun _ h=>absurd h (Nat.not_lt_zero _)
 |succ n ih=>exact bR.succ ((ih.and (((bR.ge 2147483648).and eT).and dY)).imp fun fu ⟨h,⟨⟨hfu,eT⟩,dY⟩⟩=>fun p0=>by rw [nP];exact aq3 hfu eT dY h p0)
theorem iM:bR VD:=(as1 8589934592).imp fun fu h p0 hpre=>h p0 bU hpre
def EZ(fu:Nat):Prop:= ∀(pn:Int),pn.natAbs≤9223372036854775808→Ok (u9 fu pn) (fun r=>wt r=0∧MN r)
theorem fP:bR EZ:=(bR.ge 2147483648).imp fun fu hfu pn hpre=>by
 have:s_.size=0:=rfl
 have:=(aX:wl ([]:Z aA)=0∧_)
 have:=aA.wt_mk 0 s_ []
 have:=(aX:wl ([]:Z aL)=0∧_)
 have:=(aX:wl ([]:Z bW)=0∧_)
 have:=aL.wt_mk 1 s_ s_ pn (aA.mk 0 s_ []) [] []
 exact oS2
def E4(fu:Nat):Prop:= ∀(ps:Y),Ok (xO fu ps) (fun r=>wt r=ps.size∧MN r)
theorem fX:bR E4:=(bR.ge 2147483648).imp fun fu hfu ps=>by
 have:s_.size=0:=rfl
 have:=(aX:wl ([]:Z aA)=0∧_)
 have:=aA.wt_mk 0 s_ []
 have:=(aX:wl ([]:Z aL)=0∧_)
 have:=(aX:wl ([]:Z bW)=0∧_)
 have:=aL.wt_mk 3 s_ ps 0 (aA.mk 0 s_ []) [] []
 exact oS2
def OW(fu:Nat):Prop:= ∀(pa pb:Int),Ok (sS fu pa pb) (fun r=>(pa≤pb∧r=pa)∨(pb≤pa∧r=pb))
theorem jT:bR OW:=(bR.ge 2147483648).imp fun fu hfu pa pb=>by
 exact oD (fun _=>oS) fun g1=>oS
def ai1(fu:Nat):Prop:= ∀(p0:aB),wt p0≤67108864→Ok (iG fu p0) (fun r=>wt r≤2*wt p0∧MN r)
def BP(n:Nat)(m:kT):Prop:= ∀(p0:aB),2*wt p0+1<n→wt p0≤67108864→Ok (m p0) (fun r=>wt r≤2*wt p0∧MN r)
def yL(n:Nat)(m:jG):Prop:= ∀(p4:Z aB),2*wl p4<n→wl p4≤67108864→Ok (m p4) (fun r=>wl r≤2*wl p4∧ ∀a∈r,MN a)
def EY(n:Nat)(m:l7):Prop:= ∀(px:aB),2*wt px+1<n→wt px≤67108864→Ok (m px) (fun r=>wt r≤2*wt px∧MN r.aEe)
theorem ahY{n fu:Nat}(hfu:2147483648≤fu)(nB:DH fu)(fP:EZ fu)(fX:E4 fu)(jT:OW fu)(iM:VD fu)(jA:GC fu){p5:kT}(p8:BP n p5){p3:jG}(p1:yL n p3){p6:l7}(pA:EY n p6):BP (n+1) (N7 fu p5 p3 p6):=by
 intro p0 hm hpre
 have:=aB.wt_eq p0
 have:s_.size=0:=rfl
 refine oN (fun g1=>?_) fun g1=>?_
 ·have:=IV g1
  refine wJ (nB p0.aEa) fun x3 x4 h2=>?_
  dsimp only at h2
  refine oC (fun g3=>?_) fun g3=>?_
  ·exact TX (fP x3 bU) fun x7 h4 h4B=>oS2
  have:rQ.size=4:=rfl
  refine oD (fun g5=>?_) fun g5=>?_
  ·have:=congrArg ByteArray.size g5
   have:=(aX:wl ([]:Z aA)=0∧_)
   have:=aA.wt_mk 0 s_ []
   have:=(aX:wl ([]:Z aL)=0∧_)
   have:=(aX:wl ([]:Z bW)=0∧_)
   have:=aL.wt_mk 2 s_ s_ 1 (aA.mk 0 s_ []) [] []
   exact oS2
  have:mM.size=5:=rfl
  refine oD (fun g6=>?_) fun g6=>?_
  ·have:=congrArg ByteArray.size g6
   have:=(aX:wl ([]:Z aA)=0∧_)
   have:=aA.wt_mk 0 s_ []
   have:=(aX:wl ([]:Z aL)=0∧_)
   have:=(aX:wl ([]:Z bW)=0∧_)
   have:=aL.wt_mk 2 s_ s_ 0 (aA.mk 0 s_ []) [] []
   exact oS2
  exact TX (fX p0.aEa) fun x11 h7 h7B=>oS2
 have:=(aX:wl ([]:Z aB)=0∧_)
 have:=bA (p0.aD7)
 refine oG fun z8=>?_
 have:=b6 ([]:Z aB) p0.aD7
 have:=aB.wt_mk s_ []
 have:=GP (aB.mk s_ []) (aB.mk s_ []) (aB.mk s_ [])
 refine oG fun z9=>?_
 have:=b6 (([])++p0.aD7) ([(aB.mk s_ []),(aB.mk s_ []),(aB.mk s_ [])]:Z aB)
 refine oG fun z10=>?_
 have:=aj6 p0.aD7 (aB.mk s_ []) (aB.mk s_ []) (aB.mk s_ []) 1 2 rfl
 refine Ok.lt fun y15 h11=>?_
 have:=congrArg wt h11
 refine oG fun z12=>?_
 have:=aj6 p0.aD7 (aB.mk s_ []) (aB.mk s_ []) (aB.mk s_ []) 0 1 rfl
 refine Ok.lt fun y18 h13=>?_
 have:=congrArg wt h13
 have:=aB.wt_eq y18
 have:S3.size=4:=rfl
 refine oD (fun g14=>?_) fun g14=>?_
 ·have:=congrArg ByteArray.size g14
  have:=bA p0.aD7
  refine oB (jT 2 (p0.aD7.length:Int)) fun x22 h15=>oG fun z16=>?_
  have:=AZ p0.aD7 x22 2
  refine TX (p1 (List.drop (x22:Int).toNat (List.take (p0.aD7.length:Int).toNat p0.aD7)) bU bU) fun x25 h17 h17B=>?_
  have:=aB.wt_eq y15
  have:=(aX:wl ([]:Z aA)=0∧_)
  have:=aA.wt_mk 0 s_ []
  have:=(aX:wl ([]:Z bW)=0∧_)
  have:=aL.wt_mk 4 s_ y15.aEa 0 (aA.mk 0 s_ []) x25 []
  exact oS2
 have:q7.size=6:=rfl
 refine oD (fun g18=>?_) fun g18=>?_
 ·have:=congrArg ByteArray.size g18
  refine oG fun z19=>?_
  have:=aj6 p0.aD7 (aB.mk s_ []) (aB.mk s_ []) (aB.mk s_ []) 2 3 rfl
  refine Ok.lt fun y28 h20=>?_
  have:=congrArg wt h20
  have:=bA p0.aD7
  refine oB (jT 3 (p0.aD7.length:Int)) fun x31 h21=>oG fun z22=>?_
  have:=AZ p0.aD7 x31 3
  refine TX (p1 (List.drop (x31:Int).toNat (List.take (p0.aD7.length:Int).toNat p0.aD7)) bU bU) fun x34 h23 h23B=>?_
  have:=aB.wt_eq y15
  have:=aB.wt_eq y28
  have:=(aX:wl ([]:Z aA)=0∧_)
  have:=aA.wt_mk 0 s_ []
  have:=(aX:wl ([]:Z bW)=0∧_)
  have:=aL.wt_mk 5 y15.aEa y28.aEa 0 (aA.mk 0 s_ []) x34 []
  exact oS2
 have:IA.size=3:=rfl
 refine oD (fun g24=>?_) fun g24=>?_
 ·have:=congrArg ByteArray.size g24
  have:=bA p0.aD7
  refine oB (jT 2 (p0.aD7.length:Int)) fun x37 h25=>oG fun z26=>?_
  have:=AZ p0.aD7 x37 2
  refine TX (p1 (List.drop (x37:Int).toNat (List.take (p0.aD7.length:Int).toNat p0.aD7)) bU bU) fun x40 h27 h27B=>?_
  have:=aB.wt_eq y15
  have:=(aX:wl ([]:Z aA)=0∧_)
  have:=aA.wt_mk 0 s_ []
  have:=(aX:wl ([]:Z bW)=0∧_)
  have:=aL.wt_mk 6 s_ y15.aEa 0 (aA.mk 0 s_ []) x40 []
  exact oS2
 have:H9.size=3:=rfl
 refine oD (fun g28=>?_) fun g28=>?_
 ·have:=congrArg ByteArray.size g28
  have:=bA p0.aD7
  refine oB (jT 2 (p0.aD7.length:Int)) fun x43 h29=>oG fun z30=>?_
  have:=AZ p0.aD7 x43 2
  refine TX (p1 (List.drop (x43:Int).toNat (List.take (p0.aD7.length:Int).toNat p0.aD7)) bU bU) fun x46 h31 h31B=>?_
  have:=aB.wt_eq y15
  have:=(aX:wl ([]:Z aA)=0∧_)
  have:=aA.wt_mk 0 s_ []
  have:=(aX:wl ([]:Z bW)=0∧_)
  have:=aL.wt_mk 8 s_ y15.aEa 0 (aA.mk 0 s_ []) x46 []
  exact oS2
 have:GZ.size=2:=rfl
 refine oD (fun g32=>?_) fun g32=>?_
 ·have:=congrArg ByteArray.size g32
  have:=bA p0.aD7
  refine oG fun z33=>?_
  have:=AZ p0.aD7 1 1
  refine TX (p1 (List.drop (1:Int).toNat (List.take (p0.aD7.length:Int).toNat p0.aD7)) bU bU) fun x50 h34 h34B=>?_
  have:=(aX:wl ([]:Z aA)=0∧_)
  have:=aA.wt_mk 0 s_ []
  have:=(aX:wl ([]:Z bW)=0∧_)
  have:=aL.wt_mk 9 s_ s_ 0 (aA.mk 0 s_ []) x50 []
  exact oS2
 have:AF.size=4:=rfl
 refine oD (fun g35=>?_) fun g35=>?_
 ·have:=congrArg ByteArray.size g35
  have:=bA p0.aD7
  refine oB (jT 2 (p0.aD7.length:Int)) fun x53 h36=>oG fun z37=>?_
  have:=AZ p0.aD7 x53 2
  refine TX (p1 (List.drop (x53:Int).toNat (List.take (p0.aD7.length:Int).toNat p0.aD7)) bU bU) fun x56 h38 h38B=>?_
  have:=aB.wt_eq y15
  have:=(aX:wl ([]:Z aA)=0∧_)
  have:=aA.wt_mk 0 s_ []
  have:=(aX:wl ([]:Z bW)=0∧_)
  have:=aL.wt_mk 11 y15.aEa s_ 0 (aA.mk 0 s_ []) x56 []
  exact oS2
 have:abU.size=3:=rfl
 refine oD (fun g39=>?_) fun g39=>?_
 ·have:=congrArg ByteArray.size g39
  refine oB (iM y15 bU) fun x59 h40=>?_
  have:=bA p0.aD7
  refine oB (jT 2 (p0.aD7.length:Int)) fun x61 h41=>oG fun z42=>?_
  have:=AZ p0.aD7 x61 2
  refine TX (p1 (List.drop (x61:Int).toNat (List.take (p0.aD7.length:Int).toNat p0.aD7)) bU bU) fun x64 h43 h43B=>?_
  have:=(aX:wl ([]:Z bW)=0∧_)
  have:=aL.wt_mk 12 s_ s_ 0 x59 x64 []
  exact oS2
 have:AE.size=4:=rfl
 refine oD (fun g44=>?_) fun g44=>?_
 ·have:=congrArg ByteArray.size g44
  have:=bA p0.aD7
  refine oB (jT 2 (p0.aD7.length:Int)) fun x67 h45=>oG fun z46=>?_
  have:=asO p0.aD7 x67
  refine TX (p1 (List.drop (1:Int).toNat (List.take (x67:Int).toNat p0.aD7)) bU bU) fun x70 h47 h47B=>?_
  have:=(aX:wl ([]:Z bW)=0∧_)
  refine asA (PA:=fun a=>MN a.aEe) p0.aD7 2 (fun i71 v73 hl49 hI50 hI50B _ _=>?_) ?_
  ·have:=cZ p0.aD7 i71 hl49
   refine TX (pA (aR p0.aD7 i71) bU bU) fun x77 h51 h51B=>?_
   have:=bA (v73)
   have:=cH x77
   refine oG fun z52=>?_
   have:=b6 v73 ([x77]:Z bW)
   exact oX hI50B
  rintro v73 ⟨h48,h48B⟩
  have:=(aX:wl ([]:Z aA)=0∧_)
  have:=aA.wt_mk 0 s_ []
  have:=aL.wt_mk 7 s_ s_ 0 (aA.mk 0 s_ []) x70 v73
  exact oS2
 have:=bA p0.aD7
 refine oB (jT 1 (p0.aD7.length:Int)) fun x80 h53=>oG fun z54=>?_
 have:=AZ p0.aD7 x80 1
 refine TX (p1 (List.drop (x80:Int).toNat (List.take (p0.aD7.length:Int).toNat p0.aD7)) bU bU) fun x83 h55 h55B=>?_
 have:=(aX:wl ([]:Z aA)=0∧_)
 have:=aA.wt_mk 0 s_ []
 have:=(aX:wl ([]:Z bW)=0∧_)
 have:=aL.wt_mk 10 s_ y18.aEa 0 (aA.mk 0 s_ []) x83 []
 exact oS2
theorem ad0{n fu:Nat}(hfu:2147483648≤fu)(nB:DH fu)(fP:EZ fu)(fX:E4 fu)(jT:OW fu)(iM:VD fu)(jA:GC fu){p5:kT}(p8:BP n p5){p3:jG}(p1:yL n p3){p6:l7}(pA:EY n p6):yL (n+1) (JQ fu p5 p3 p6):=by
 intro p4 hm hpre
 have:=(aX:wl ([]:Z aL)=0∧_)
 refine asA (PA:=fun a=>MN a) p4 2 (fun i1 v3 hl2 hI3 hI3B _ _=>?_) ?_
 ·have:=bA p4
  have:=cZ p4 i1 hl2
  refine TX (p8 (aR p4 i1) bU bU) fun x7 h4 h4B=>?_
  have:=bA (v3)
  have:=cH x7
  refine oG fun z5=>?_
  have:=b6 v3 ([x7]:Z aL)
  exact oX hI3B
 rintro v3 ⟨h1,h1B⟩
 exact oS2
theorem akP{n fu:Nat}(hfu:2147483648≤fu)(nB:DH fu)(fP:EZ fu)(fX:E4 fu)(jT:OW fu)(iM:VD fu)(jA:GC fu){p5:kT}(p8:BP n p5){p3:jG}(p1:yL n p3){p6:l7}(pA:EY n p6):EY (n+1) (S7 fu p5 p3 p6):=by
 intro px hm hpre
 have:=aB.wt_eq px
 have:=bA px.aD7
 refine oD (fun g1=>?_) fun g1=>?_
 ·have:s_.size=0:=rfl
  have:=(aX:wl ([]:Z aA)=0∧_)
  have:=aA.wt_mk 0 s_ []
  have:=(aX:wl ([]:Z aL)=0∧_)
  have:=(aX:wl ([]:Z bW)=0∧_)
  have:=aL.wt_mk 0 s_ s_ 0 (aA.mk 0 s_ []) [] []
  have:=(aX:wl ([]:LB)=0∧_)
  have:=bW.wt_mk s_ [] (aL.mk 0 s_ s_ 0 (aA.mk 0 s_ []) [] [])
  exact oS2
 have:=fC ((px.aD7.length:Int)-1)
 refine oG fun z2=>?_
 have:=VT (1:Int).toNat (aW ((px.aD7.length:Int)-1):Int).toNat px.aD7
 have:=auT px.aD7 (aW ((px.aD7.length:Int)-1):Int).toNat
 have:=MM px.aD7 (aW ((px.aD7.length:Int)-1):Int).toNat
 have:=qF px.aD7 ((aW ((px.aD7.length:Int)-1):Int).toNat+1)
 refine wJ (jA (List.drop (1:Int).toNat (List.take (aW ((px.aD7.length:Int)-1):Int).toNat px.aD7)) bU) fun x4 x5 h3=>?_
 dsimp only at h3
 have:=bA (px.aD7)
 refine oG fun z4=>oG fun z5=>?_
 have:=cZ px.aD7 ((aW ((px.aD7.length:Int)-1)).toNat) z5.2
 refine Ok.lt fun y8 h6=>?_
 have:=congrArg wt h6
 refine TX (p8 y8 bU bU) fun x11 h7 h7B=>?_
 have:=cZ px.aD7 0 z4
 have:wl (List.take 1 px.aD7)=wl (List.take 0 px.aD7)+wt (aR px.aD7 0)+1:=MM px.aD7 0 z4
 have:=aB.wt_eq (aR px.aD7 0)
 have:=bW.wt_mk ((aR px.aD7 0).aEa) x4 x11
 exact oS2
theorem akQ(n:Nat):bR fun fu=>BP n (iG fu)∧yL n (lI fu)∧EY n (oP fu):=by
 induction n with
 |zero=>exact .all fun fu=>⟨fun _ h=>absurd h (Nat.not_lt_zero _),fun _ h=>absurd h (Nat.not_lt_zero _),fun _ h=>absurd h (Nat.not_lt_zero _)⟩
 |succ n ih=>exact bR.succ ((ih.and (((((((bR.ge 2147483648).and nB).and fP).and fX).and jT).and iM).and jA)).imp fun fu ⟨h,⟨⟨⟨⟨⟨⟨hfu,nB⟩,fP⟩,fX⟩,jT⟩,iM⟩,jA⟩⟩=>⟨fun p0=>by rw [iG];exact ahY hfu nB fP fX jT iM jA h.1 h.2.1 h.2.2 p0,fun p4=>by rw [lI];exact ad0 hfu nB fP fX jT iM jA h.1 h.2.1 h.2.2 p4,fun px=>by rw [oP];exact akP hfu nB fP fX jT iM jA h.1 h.2.1 h.2.2 px⟩)
theorem o7:bR ai1:=(akQ 8589934592).imp fun fu h p0 hpre=>h.1 p0 bU hpre
def ao8(fu:Nat):Prop:= ∀(p0:aL),wt p0≤2097152→(MN p0)→Ok (nK fu p0) (fun r=>wt r+8≤32*(wt p0+1))
def OS(n:Nat)(m:t0):Prop:= ∀(p0:aL),2*wt p0+1<n→wt p0≤2097152→(MN p0)→Ok (m p0) (fun r=>wt r+8≤32*(wt p0+1))
def GA(n:Nat)(m:nV):Prop:= ∀(pD:Z aB) (p4:Z aL),2*wl p4<n→wl pD≤33554432∧wl p4≤2097152→(∀a∈p4,MN a)→Ok (m pD p4) (fun r=>wt r≤wl pD+32*wl p4)
theorem aoK{n fu:Nat}(hfu:2147483648≤fu)(nA:GB fu)(bP:J6 fu)(jN:acI fu)(nR:M1 fu){p9:t0}(pC:OS n p9){p7:nV}(p2:GA n p7):OS (n+1) (X9 fu p9 p7):=by
 intro p0 hm hpre hB
 have hN:=hB.num
 have:=aL.wt_eq p0
 refine oD (fun g1=>?_) fun g1=>?_
 ·exact oB (nA p0.aEM bU) fun x3 h2=>oB (bP x3) fun x5 h3=>oS
 refine oD (fun g4=>?_) fun g4=>?_
 ·have:mM.size=5:=rfl
  have:rQ.size=4:=rfl
  have:=lJ mM rQ
  have:=aZ mM
  have:=aZ rQ
  refine oG fun z5=>?_
  have:=cZ ([mM,rQ]:LB) ((p0.aEM).toNat) z5.2
  have:=aZ (aR ([mM,rQ]:LB) ((p0.aEM).toNat))
  exact oB (bP (aR ([mM,rQ]:LB) ((p0.aEM).toNat))) fun x9 h6=>oS
 refine oD (fun g7=>?_) fun g7=>?_
 ·exact oB (bP p0.aD4) fun x12 h8=>oS
 refine oD (fun g9=>?_) fun g9=>?_
 ·have:S3.size=4:=rfl
  refine oB (bP S3) fun x15 h10=>oB (bP p0.aD4) fun x17 h11=>?_
  have:=lJ x15 x17
  refine oB (p2 ([x15,x17]:Z aB) p0.aD5 bU bU (by exact hB.arg)) fun x19 h12=>?_
  have:=aB.wt_eq x19
  have:=aB.wt_mk x19.aEa x19.aD7
  exact oS
 refine oD (fun g13=>?_) fun g13=>?_
 ·have:q7.size=6:=rfl
  refine oB (bP q7) fun x22 h14=>oB (bP p0.aEb) fun x24 h15=>oB (bP p0.aD4) fun x26 h16=>?_
  have:=GP x22 x24 x26
  refine oB (p2 ([x22,x24,x26]:Z aB) p0.aD5 bU bU (by exact hB.arg)) fun x28 h17=>?_
  have:=aB.wt_eq x28
  have:=aB.wt_mk x28.aEa x28.aD7
  exact oS
 refine oD (fun g18=>?_) fun g18=>?_
 ·have:IA.size=3:=rfl
  refine oB (bP IA) fun x31 h19=>oB (bP p0.aD4) fun x33 h20=>?_
  have:=lJ x31 x33
  refine oB (p2 ([x31,x33]:Z aB) p0.aD5 bU bU (by exact hB.arg)) fun x35 h21=>?_
  have:=aB.wt_eq x35
  have:=aB.wt_mk x35.aEa x35.aD7
  exact oS
 refine oD (fun g22=>?_) fun g22=>?_
 ·have:H9.size=3:=rfl
  refine oB (bP H9) fun x38 h23=>oB (bP p0.aD4) fun x40 h24=>?_
  have:=lJ x38 x40
  refine oB (p2 ([x38,x40]:Z aB) p0.aD5 bU bU (by exact hB.arg)) fun x42 h25=>?_
  have:=aB.wt_eq x42
  have:=aB.wt_mk x42.aEa x42.aD7
  exact oS
 refine oD (fun g26=>?_) fun g26=>?_
 ·have:GZ.size=2:=rfl
  refine oB (bP GZ) fun x45 h27=>?_
  have:=cH x45
  refine oB (p2 ([x45]:Z aB) p0.aD5 bU bU (by exact hB.arg)) fun x47 h28=>?_
  have:=aB.wt_eq x47
  have:=aB.wt_mk x47.aEa x47.aD7
  exact oS
 refine oD (fun g29=>?_) fun g29=>?_
 ·refine oB (bP p0.aD4) fun x50 h30=>?_
  have:=cH x50
  refine oB (p2 ([x50]:Z aB) p0.aD5 bU bU (by exact hB.arg)) fun x52 h31=>?_
  have:=aB.wt_eq x52
  have:=aB.wt_mk x52.aEa x52.aD7
  exact oS
 refine oD (fun g32=>?_) fun g32=>?_
 ·have:AF.size=4:=rfl
  refine oB (bP AF) fun x55 h33=>oB (bP p0.aEb) fun x57 h34=>?_
  have:=lJ x55 x57
  refine oB (p2 ([x55,x57]:Z aB) p0.aD5 bU bU (by exact hB.arg)) fun x59 h35=>?_
  have:=aB.wt_eq x59
  have:=aB.wt_mk x59.aEa x59.aD7
  exact oS
 refine oD (fun g36=>?_) fun g36=>?_
 ·have:abU.size=3:=rfl
  refine oB (bP abU) fun x62 h37=>oB (jN p0.aD6 bU) fun x64 h38=>?_
  have:=lJ x62 x64
  refine oB (p2 ([x62,x64]:Z aB) p0.aD5 bU bU (by exact hB.arg)) fun x66 h39=>?_
  have:=aB.wt_eq x66
  have:=aB.wt_mk x66.aEa x66.aD7
  exact oS
 have:AE.size=4:=rfl
 refine oB (bP AE) fun x68 h40=>?_
 have:=cH x68
 refine oB (p2 ([x68]:Z aB) p0.aD5 bU bU (by exact hB.arg)) fun x70 h41=>?_
 have:=aB.wt_eq x70
 refine SE p0.aEo 32 (fun i71 v73 hl43 hI44 _ _=>?_) ?_
 ·have:=bA p0.aEo
  have:=cZ p0.aEo i71 hl43
  refine Ok.lt fun y76 h45=>?_
  have:=congrArg wt h45
  have:=bW.wt_eq y76
  refine oB (bP y76.aEt) fun x79 h46=>oB (nR y76.aEh bU) fun x81 h47=>?_
  have:=cH x79
  have:=bA (x81)
  refine oG fun z48=>oB (pC y76.aEe bU bU (by rw [show y76=aR p0.aEo i71 by assumption];exact acM hB.arm (by assumption))) fun x84 h49=>?_
  have:=b6 ([x79]:Z aB) x81
  have:=cH x84
  refine oG fun z50=>?_
  have:=bA (v73)
  have:s_.size=0:=rfl
  have:=b6 (([x79]:Z aB)++x81) ([x84]:Z aB)
  have:=aB.wt_mk s_ ((([x79]:Z aB)++x81)++([x84]:Z aB))
  have:=cH (aB.mk s_ ((([x79]:Z aB)++x81)++([x84]:Z aB)))
  refine oG fun z51=>?_
  have:=b6 v73 ([(aB.mk s_ ((([x79]:Z aB)++x81)++([x84]:Z aB)))]:Z aB)
  exact rE
 intro v73 h42
 have:=aB.wt_mk x70.aEa v73
 exact oS
theorem ahW{n fu:Nat}(hfu:2147483648≤fu)(nA:GB fu)(bP:J6 fu)(jN:acI fu)(nR:M1 fu){p9:t0}(pC:OS n p9){p7:nV}(p2:GA n p7):GA (n+1) (N6 fu p9 p7):=by
 intro pD p4 hm hpre hB
 refine SE p4 32 (fun i1 v3 hl2 hI3 _ _=>?_) ?_
 ·have:=bA p4
  have:=cZ p4 i1 hl2
  refine Ok.lt fun y6 h4=>?_
  have:=congrArg wt h4
  refine oB (pC y6 bU bU (by rw [show y6=aR p4 i1 by assumption];exact acM hB (by assumption))) fun x9 h5=>?_
  have:=bA (v3)
  have:=cH x9
  refine oG fun z6=>?_
  have:=b6 v3 ([x9]:Z aB)
  exact rE
 intro v3 h1
 have:s_.size=0:=rfl
 have:=aB.wt_mk s_ v3
 exact oS
theorem aqW(n:Nat):bR fun fu=>OS n (nK fu)∧GA n (qA fu):=by
 induction n with
 |zero=>exact .all fun fu=>⟨fun _ h=>absurd h (Nat.not_lt_zero _),fun _ _ h=>absurd h (Nat.not_lt_zero _)⟩
 |succ n ih=>exact bR.succ ((ih.and (((((bR.ge 2147483648).and nA).and bP).and jN).and nR)).imp fun fu ⟨h,⟨⟨⟨⟨hfu,nA⟩,bP⟩,jN⟩,nR⟩⟩=>⟨fun p0=>by rw [nK];exact aoK hfu nA bP jN nR h.1 h.2 p0,fun pD p4=>by rw [qA];exact ahW hfu nA bP jN nR h.1 h.2 pD p4⟩)
theorem vU:bR ao8:=(aqW 8589934592).imp fun fu h p0 hpre hB=>h.1 p0 bU hpre hB
def ai0(fu:Nat):Prop:= ∀(pe:aL) (p7:Int),wt pe≤1073741824→Ok (nU fu pe p7) (fun _=>True)
def MR(n:Nat)(m:uS):Prop:= ∀(pe:aL) (p7:Int),wt pe<n→wt pe≤1073741824→Ok (m pe p7) (fun _=>True)
theorem ahS{n fu:Nat}(hfu:2147483648≤fu){p8:uS}(p9:MR n p8):MR (n+1) (N4 fu p8):=by
 intro pe p7 hm hpre
 refine oEN (fun i1 v2 hl2=>?_) ?_
 ·have:=aL.wt_eq pe
  have:=bA pe.aD5
  refine oD (fun g4=>?_) fun g4=>?_
  ·have:=cZ pe.aD5 i1 hl2
   refine Ok.lt fun y6 h5=>?_
   have:=congrArg wt h5
   exact oB (p9 y6 v2 bU bU) fun x9 _=>rE
  exact oK
 intro v2 _
 refine oEN (fun i10 v11 hl8=>?_) ?_
 ·have:=aL.wt_eq pe
  have:=bA pe.aEo
  refine oD (fun g10=>?_) fun g10=>?_
  ·have:=cZ pe.aEo i10 hl8
   refine Ok.lt fun y15 h11=>?_
   have:=congrArg wt h11
   have:=bW.wt_eq y15
   exact oB (p9 y15.aEe v11 bU bU) fun x18 _=>rE
  exact oK
 intro v11 _
 exact oS
theorem akO(n:Nat):bR fun fu=>MR n (nU fu):=by
 induction n with
 |zero=>exact .all fun fu=>fun _ _ h=>absurd h (Nat.not_lt_zero _)
 |succ n ih=>exact bR.succ ((ih.and (bR.ge 2147483648)).imp fun fu ⟨h,hfu⟩=>fun pe p7=>by rw [nU];exact ahS hfu h pe p7)
theorem NH:bR ai0:=(akO 8589934592).imp fun fu h pe p7 hpre=>h pe p7 bU hpre
def aaW(fu:Nat):Prop:= ∀(pk:Int),Ok (S6 fu pk) (fun _=>True)
theorem FL:bR aaW:=(bR.ge 2147483648).imp fun fu hfu pk=>by
 refine IG ?_ ?_
 ·exact oD (fun _=>oI) fun g2=>oI
 intro v1 _
 refine oC (fun _=>oS) fun g3=>oD (fun _=>oS) fun g4=>?_;refine IG ?_ ?_
 ·exact oD (fun _=>oI) fun g6=>oI
 intro v5 _
 refine oC (fun _=>oS) fun g7=>oD (fun _=>oS) fun g8=>oD (fun _=>oS) fun g9=>?_;refine IG ?_ ?_
 ·exact oD (fun _=>oI) fun g11=>oI
 intro v10 _
 exact oC (fun _=>oS) fun g12=>oD (fun _=>oS) fun g13=>oD (fun _=>oS) fun g14=>oS
def VY(fu:Nat):Prop:= ∀(ps:Y),Ok (N5 fu ps) (fun _=>True)
theorem CK:bR VY:=((bR.ge 2147483648).and eH).imp fun fu ⟨hfu,eH⟩ ps=>by
 have:DE.size=1:=rfl
 have:IL.size=1:=rfl
 have:QY.size=1:=rfl
 have:QZ.size=1:=rfl
 have:Q0.size=1:=rfl
 have:=av5 DE IL QY QZ Q0
 have:=aZ DE
 have:=aZ IL
 have:=aZ QY
 have:=aZ QZ
 have:=aZ Q0
 exact oB (eH ([DE,IL,QY,QZ,Q0]:LB) ps) fun x2 _=>oS
def VZ(fu:Nat):Prop:= ∀(pt:aA),Ok (pZ fu pt) (fun _=>True)
theorem mE:bR VZ:=(bR.ge 2147483648).imp fun fu hfu pt=>by
 refine oD (fun g1=>?_) fun g1=>?_
 ·exact oD (fun _=>oS) fun g2=>oS
 exact oS
def aiY(fu:Nat):Prop:= ∀(p0:aL),wt p0≤1073741824→Ok (nS fu p0) (fun _=>True)
def MP(n:Nat)(m:mI):Prop:= ∀(p0:aL),wt p0<n→wt p0≤1073741824→Ok (m p0) (fun _=>True)
theorem ahJ{n fu:Nat}(hfu:2147483648≤fu)(FL:aaW fu)(s9:alR fu)(bO:BR fu)(CK:VY fu)(eW:IR fu)(mE:VZ fu)(sN:V2 fu)(eV:IN fu){pA:mI}(pC:MP n pA):MP (n+1) (N2 fu pA):=by
 intro p0 hm hpre
 have:=aL.wt_eq p0
 refine oB6 (FL p0.aD8) fun x2 x3 x4 x5 x6 x7 _=>?_;refine IG ?_ ?_
 ·refine oB (s9 p0.aD8 1 12) fun x9 _=>oW (fun _=>oL) fun g4=>oB (bO p0.aEb) fun x12 _=>oN (fun _=>oL) fun g6=>?_;refine oW (fun g7=>?_) fun g7=>?_
  ·refine oN (fun _=>oL) fun g8=>?_;refine oW (fun g9=>?_) fun g9=>?_
   ·exact oN (fun _=>oL) fun g10=>oN (fun _=>oL) fun g11=>oI
   exact oN (fun _=>oL) fun g12=>oI
  refine oW (fun g13=>?_) fun g13=>?_
  ·exact oN (fun _=>oL) fun g14=>oN (fun _=>oL) fun g15=>oI
  exact oN (fun _=>oL) fun g16=>oI
 rintro⟨⟩-
 refine IG ?_ ?_
 ·refine oD (fun g18=>?_) fun g18=>?_
  ·refine oB (CK p0.aD4) fun x26 _=>oW (fun _=>oL) fun g20=>?_;refine oN (fun g21=>?_) fun g21=>?_
   ·refine oB (bO p0.aD4) fun x30 _=>oN (fun _=>oL) fun g23=>?_;refine oW (fun g24=>?_) fun g24=>?_
    ·exact oN (fun _=>oL) fun g25=>oI
    exact oI
   exact oI
  refine oN (fun g26=>?_) fun g26=>?_
  ·refine oB (bO p0.aD4) fun x36 _=>oN (fun _=>oL) fun g28=>?_;refine oW (fun g29=>?_) fun g29=>?_
   ·exact oN (fun _=>oL) fun g30=>oI
   exact oI
  exact oI
 rintro⟨⟩-
 refine IG ?_ ?_
 ·refine oD (fun g32=>?_) fun g32=>?_
  ·have:=bA p0.aD5
   refine oN (fun _=>oL) fun g33=>?_;refine oD (fun g34=>?_) fun g34=>?_
   ·refine oD (fun _=>oL) fun g35=>?_;refine oC (fun g36=>?_) fun g36=>?_
    ·exact oB (eW p0.aD6 bU) fun x46 _=>oW (fun _=>oL) fun g38=>oI
    exact oB (mE p0.aD6) fun x49 _=>oW (fun _=>oL) fun g40=>oI
   refine oC (fun g41=>?_) fun g41=>?_
   ·exact oB (eW p0.aD6 bU) fun x53 _=>oW (fun _=>oL) fun g43=>oI
   exact oB (mE p0.aD6) fun x56 _=>oW (fun _=>oL) fun g45=>oI
  refine oD (fun g46=>?_) fun g46=>?_
  ·have:=bA p0.aD5
   refine oD (fun _=>oL) fun g47=>?_;refine oC (fun g48=>?_) fun g48=>?_
   ·exact oB (eW p0.aD6 bU) fun x62 _=>oW (fun _=>oL) fun g50=>oI
   exact oB (mE p0.aD6) fun x65 _=>oW (fun _=>oL) fun g52=>oI
  refine oC (fun g53=>?_) fun g53=>?_
  ·exact oB (eW p0.aD6 bU) fun x69 _=>oW (fun _=>oL) fun g55=>oI
  exact oB (mE p0.aD6) fun x72 _=>oW (fun _=>oL) fun g57=>oI
 rintro⟨⟩-
 refine IG ?_ ?_
 ·refine oD (fun g59=>?_) fun g59=>?_
  ·exact oB (s9 p0.aEM (-999999) 999999) fun x76 _=>oW (fun _=>oL) fun g61=>oI
  refine oD (fun g62=>?_) fun g62=>?_
  ·exact oB (s9 p0.aEM 0 1) fun x80 _=>oW (fun _=>oL) fun g64=>oI
  exact oI
 rintro⟨⟩-
 refine IG ?_ ?_
 ·refine Ok.loop1 ?_;rintro i82 ⟨⟩ hl66
  have:=bA p0.aD5
  have:=cZ p0.aD5 i82 hl66
  refine Ok.lt fun y85 h68=>?_
  have:=congrArg wt h68
  exact oB (pC y85 bU bU) fun x88 _=>oW (fun _=>oR) fun g70=>rE
 rintro⟨⟩-
 refine IG ?_ ?_
 ·refine Ok.loop1 ?_;rintro i90 ⟨⟩ hl72
  have:=bA p0.aEo
  have:=cZ p0.aEo i90 hl72
  refine Ok.lt fun y93 h74=>?_
  have:=congrArg wt h74
  have:=bW.wt_eq y93
  exact oB (bO y93.aEt) fun x96 _=>oW (fun _=>oR) fun g76=>oB (sN y93.aEh) fun x99 _=>oW (fun _=>oR) fun g78=>oB (eV y93.aEh) fun x102 _=>oW (fun _=>oR) fun g80=>oB (pC y93.aEe bU bU) fun x105 _=>oW (fun _=>oR) fun g82=>rE
 rintro⟨⟩-
 exact oS
theorem akI(n:Nat):bR fun fu=>MP n (nS fu):=by
 induction n with
 |zero=>exact .all fun fu=>fun _ h=>absurd h (Nat.not_lt_zero _)
 |succ n ih=>exact bR.succ ((ih.and (((((((((bR.ge 2147483648).and FL).and s9).and bO).and CK).and eW).and mE).and sN).and eV)).imp fun fu ⟨h,⟨⟨⟨⟨⟨⟨⟨⟨hfu,FL⟩,s9⟩,bO⟩,CK⟩,eW⟩,mE⟩,sN⟩,eV⟩⟩=>fun p0=>by rw [nS];exact ahJ hfu FL s9 bO CK eW mE sN eV h p0)
theorem NF:bR aiY:=(akI 8589934592).imp fun fu h p0 hpre=>h p0 bU hpre
def VX(fu:Nat):Prop:= ∀(pe:aL),wt pe≤1073741824→Ok (CR fu pe) (fun _=>True)
theorem CJ:bR VX:=(((bR.ge 2147483648).and NH).and NF).imp fun fu ⟨⟨hfu,NH⟩,NF⟩ pe hpre=>by
 refine oB (NH pe 300 bU) fun x2 _=>?_;refine oD (fun g2=>?_) fun g2=>?_
 ·exact oB (NF pe bU) fun x5 _=>oS
 exact oS
def TN(fu:Nat):Prop:= ∀(pa pb:LB),Ok (JO fu pa pb) (fun _=>True)
theorem yV:bR TN:=(bR.ge 2147483648).imp fun fu hfu pa pb=>by
 have:=bA pa
 have:=bA pb
 refine oN (fun _=>oS) fun g1=>?_;refine IG ?_ ?_
 ·refine Ok.loop1 ?_;rintro i2 ⟨⟩ hl3
  have:=bA (pb)
  exact oG fun z5=>oN (fun _=>oR) fun g6=>rE
 rintro⟨⟩-
 exact oS
def acE(fu:Nat):Prop:= ∀(p0 p4:aL),wt p0≤536870912→Ok (kZ fu p0 p4) (fun _=>True)
def F8(n:Nat)(m:pW):Prop:= ∀(p0 p4:aL),wt p0<n→wt p0≤536870912→Ok (m p0 p4) (fun _=>True)
theorem Z2{n fu:Nat}(hfu:2147483648≤fu)(vR:OT fu)(yV:TN fu){p5:pW}(p6:F8 n p5):F8 (n+1) (GX fu p5):=by
 intro p0 p4 hm hpre
 have:=aL.wt_eq p0
 have:=aL.wt_eq p4
 refine oN (fun _=>oS) fun g1=>oN (fun _=>oS) fun g2=>oN (fun _=>oS) fun g3=>oN (fun _=>oS) fun g4=>oB (vR p0.aD6 p4.aD6 bU) fun x6 _=>oW (fun _=>oS) fun g6=>?_
 have:=bA p0.aD5
 have:=bA p4.aD5
 refine oN (fun _=>oS) fun g7=>?_
 have:=bA p0.aEo
 have:=bA p4.aEo
 refine oN (fun _=>oS) fun g8=>?_;refine IG ?_ ?_
 ·refine Ok.loop1 ?_;rintro i10 ⟨⟩ hl10
  have:=cZ p0.aD5 i10 hl10
  refine Ok.lt fun y13 h12=>?_
  have:=congrArg wt h12
  have:=bA (p4.aD5)
  refine oG fun z13=>?_
  have:=cZ p4.aD5 i10 z13
  refine Ok.lt fun y16 h14=>?_
  have:=congrArg wt h14
  exact oB (p6 y13 y16 bU bU) fun x19 _=>oW (fun _=>oR) fun g16=>rE
 rintro⟨⟩-
 refine IG ?_ ?_
 ·refine Ok.loop1 ?_;rintro i21 ⟨⟩ hl18
  have:=cZ p0.aEo i21 hl18
  refine Ok.lt fun y24 h20=>?_
  have:=congrArg wt h20
  have:=bA (p4.aEo)
  refine oG fun z21=>?_
  have:=cZ p4.aEo i21 z21
  refine Ok.lt fun y27 h22=>?_
  have:=congrArg wt h22
  have:=bW.wt_eq y24
  have:=bW.wt_eq y27
  exact oN (fun _=>oR) fun g23=>oB (yV y24.aEh y27.aEh) fun x31 _=>oW (fun _=>oR) fun g25=>oB (p6 y24.aEe y27.aEe bU bU) fun x34 _=>oW (fun _=>oR) fun g27=>rE
 rintro⟨⟩-
 exact oS
theorem adJ(n:Nat):bR fun fu=>F8 n (kZ fu):=by
 induction n with
 |zero=>exact .all fun fu=>fun _ _ h=>absurd h (Nat.not_lt_zero _)
 |succ n ih=>exact bR.succ ((ih.and (((bR.ge 2147483648).and vR).and yV)).imp fun fu ⟨h,⟨⟨hfu,vR⟩,yV⟩⟩=>fun p0 p4=>by rw [kZ];exact Z2 hfu vR yV h p0 p4)
theorem GL:bR acE:=(adJ 8589934592).imp fun fu h p0 p4 hpre=>h p0 p4 bU hpre
def aiZ(fu:Nat):Prop:= ∀(p0:aL) (p4 pE:LB),wl p4+wl pE+2*wt p0≤134217728→Ok (nT fu p0 p4 pE) (fun r=>wl r≤wl pE+wt p0+1)
def MQ(n:Nat)(m:sQ):Prop:= ∀(p0:aL) (p4 pE:LB),wt p0<n→wl p4+wl pE+2*wt p0≤134217728→Ok (m p0 p4 pE) (fun r=>wl r≤wl pE+wt p0+1)
theorem ahO{n fu:Nat}(hfu:2147483648≤fu)(eH:V0 fu){pD:sQ}(p3:MQ n pD):MQ (n+1) (N3 fu pD):=by
 intro p0 p4 pE hm hpre
 have:=aL.wt_eq p0
 refine Ok.sok (E:=fun v2=>wl v2+wl p0.aD5+wl p0.aEo≤wl pE+wt p0+1) ?_ ?_
 ·refine oD (fun g2=>?_) fun g2=>?_
  ·refine oB (eH p4 p0.aD4) fun x5 _=>?_;refine oW (fun g4=>?_) fun g4=>?_
   ·refine oB (eH pE p0.aD4) fun x8 _=>?_;refine oW (fun g6=>?_) fun g6=>?_
    ·have:=bA (pE)
     have:=cH p0.aD4
     have:=aZ p0.aD4
     refine oG fun z7=>?_
     have:=b6 pE ([p0.aD4]:LB)
     exact oI
    exact oI
   exact oI
  exact oI
 intro v2 h1
 refine SE p0.aD5 1 (fun i11 v13 hl9 hI10 _ _=>?_) ?_
 ·have:=bA p0.aD5
  refine oD (fun g11=>?_) fun g11=>?_
  ·refine oD (fun g12=>?_) fun g12=>?_
   ·have:=(aX:wl ([]:LB)=0∧_)
    have:=bA (p4)
    refine oG fun z13=>?_
    have:=b6 ([]:LB) p4
    have:=cH p0.aD4
    have:=aZ p0.aD4
    refine oG fun z14=>?_
    have:=cZ p0.aD5 i11 hl9
    refine Ok.lt fun y20 h15=>?_
    have:=congrArg wt h15
    have:=b6 (([])++p4) ([p0.aD4]:LB)
    exact oB (p3 y20 ((([])++p4)++([p0.aD4]:LB)) v13 bU bU) fun x23 h16=>rE
   have:=cZ p0.aD5 i11 hl9
   refine Ok.lt fun y24 h17=>?_
   have:=congrArg wt h17
   exact oB (p3 y24 p4 v13 bU bU) fun x27 h18=>rE
  have:=cZ p0.aD5 i11 hl9
  refine Ok.lt fun y28 h19=>?_
  have:=congrArg wt h19
  exact oB (p3 y28 p4 v13 bU bU) fun x31 h20=>rE
 intro v13 h8
 refine SE p0.aEo 1 (fun i32 v34 hl22 hI23 _ _=>?_) ?_
 ·have:=bA p0.aEo
  have:=cZ p0.aEo i32 hl22
  refine Ok.lt fun y37 h24=>?_
  have:=congrArg wt h24
  have:=(aX:wl ([]:LB)=0∧_)
  have:=bA (p4)
  refine oG fun z25=>?_
  have:=b6 ([]:LB) p4
  have:=bW.wt_eq y37
  have:=bA (y37.aEh)
  refine oG fun z26=>?_
  have:=b6 (([])++p4) y37.aEh
  exact oB (p3 y37.aEe ((([])++p4)++y37.aEh) v34 bU bU) fun x42 h27=>rE
 intro v34 h21
 exact oS
theorem akJ(n:Nat):bR fun fu=>MQ n (nT fu):=by
 induction n with
 |zero=>exact .all fun fu=>fun _ _ _ h=>absurd h (Nat.not_lt_zero _)
 |succ n ih=>exact bR.succ ((ih.and ((bR.ge 2147483648).and eH)).imp fun fu ⟨h,⟨hfu,eH⟩⟩=>fun p0 p4 pE=>by rw [nT];exact ahO hfu eH h p0 p4 pE)
theorem NG:bR aiZ:=(akJ 8589934592).imp fun fu h p0 p4 pE hpre=>h p0 p4 pE bU hpre
def Q9(fu:Nat):Prop:= ∀(pe:aL),wt pe≤67108864→Ok (xJ fu pe) (fun r=>wl r≤wt pe+1)
theorem w8:bR Q9:=((bR.ge 2147483648).and NG).imp fun fu ⟨hfu,NG⟩ pe hpre=>by
 have:=(aX:wl ([]:LB)=0∧_)
 exact oB (NG pe ([]:LB) ([]:LB) bU) fun x2 h1=>oS
def ai6(fu:Nat):Prop:= ∀(pt:aA) (p2:LB),wt pt+wl p2≤67108864→Ok (mJ fu pt p2) (fun _=>True)
theorem gP:bR ai6:=((((bR.ge 2147483648).and w9).and eH).and eW).imp fun fu ⟨⟨⟨hfu,w9⟩,eH⟩,eW⟩ pt p2 hpre=>by
 refine oB (w9 pt bU) fun x2 h1=>?_;refine IG ?_ ?_
 ·refine Ok.loop1 ?_;rintro i3 ⟨⟩ hl3
  have:=bA x2
  have:=cZ x2 i3 hl3
  have:=aZ (aR x2 i3)
  exact oB (eH p2 (aR x2 i3)) fun x7 _=>oW (fun _=>oR) fun g6=>rE
 rintro⟨⟩-
 exact oB (eW pt bU) fun x10 _=>oS
def amV(fu:Nat):Prop:= ∀(p1:Z aA) (p2:LB),wl p1+wl p2≤67108864→Ok (BI fu p1 p2) (fun _=>True)
theorem BE:bR amV:=((bR.ge 2147483648).and gP).imp fun fu ⟨hfu,gP⟩ p1 p2 hpre=>by
 refine IG ?_ ?_
 ·refine Ok.loop1 ?_;rintro i1 ⟨⟩ hl2
  have:=bA p1
  have:=cZ p1 i1 hl2
  exact oB (gP (aR p1 i1) p2 bU) fun x5 _=>oW (fun _=>oR) fun g5=>rE
 rintro⟨⟩-
 exact oS
def ai5(fu:Nat):Prop:= ∀(pe:aL),wt pe≤67108864→Ok (N8 fu pe) (fun _=>True)
theorem NL:bR ai5:=((bR.ge 2147483648).and GL).imp fun fu ⟨hfu,GL⟩ pe hpre=>by
 have:s_.size=0:=rfl
 have:=(aX:wl ([]:Z aA)=0∧_)
 have:=aA.wt_mk 0 s_ []
 have:=(aX:wl ([]:Z aL)=0∧_)
 have:=(aX:wl ([]:Z bW)=0∧_)
 have:=aL.wt_mk 0 s_ s_ 0 (aA.mk 0 s_ []) [] []
 exact oB (GL pe (aL.mk 0 s_ s_ 0 (aA.mk 0 s_ []) [] []) bU) fun x2 _=>oS
def afH(fu:Nat):Prop:= ∀(p1:LB) (pF:Int),Ok (gV fu p1 pF) (fun _=>True)
theorem dJ:bR afH:=(((bR.ge 2147483648).and sN).and eV).imp fun fu ⟨⟨hfu,sN⟩,eV⟩ p1 pF=>by
 refine oD (fun g1=>?_) fun g1=>?_
 ·refine oB (sN p1) fun x3 _=>?_;refine oC (fun g3=>?_) fun g3=>?_
  ·exact oB (eV p1) fun x6 _=>oS
  exact oS
 exact oS
def ai2(fu:Nat):Prop:= ∀(pe:aL) (p2:LB),wt pe+wl p2≤67108864→Ok (CY fu pe p2) (fun _=>True)
theorem o8:bR ai2:=((((bR.ge 2147483648).and w8).and eH).and CJ).imp fun fu ⟨⟨⟨hfu,w8⟩,eH⟩,CJ⟩ pe p2 hpre=>by
 refine oB (w8 pe bU) fun x2 h1=>?_;refine IG ?_ ?_
 ·refine Ok.loop1 ?_;rintro i3 ⟨⟩ hl3
  have:=bA x2
  have:=cZ x2 i3 hl3
  have:=aZ (aR x2 i3)
  exact oB (eH p2 (aR x2 i3)) fun x7 _=>oW (fun _=>oR) fun g6=>rE
 rintro⟨⟩-
 exact oB (CJ pe bU) fun x10 _=>oS
def amW(fu:Nat):Prop:= ∀(ps:aG),wt ps≤33554432→Ok (S9 fu ps) (fun _=>True)
theorem R3:bR amW:=(((((((bR.ge 2147483648).and bO).and BE).and gP).and NL).and dJ).and o8).imp fun fu ⟨⟨⟨⟨⟨⟨hfu,bO⟩,BE⟩,gP⟩,NL⟩,dJ⟩,o8⟩ ps hpre=>by
 have:=aG.wt_eq ps
 refine oB (bO ps.aD4) fun x2 _=>oW (fun _=>oS) fun g2=>?_
 have:=bA ps.aEn
 refine oD (fun _=>oS) fun g3=>?_
 have:kS.size=4:=rfl
 have:=cH kS
 have:=aZ kS
 refine oB (BE ps.aEn ([kS]:LB) bU) fun x6 _=>oW (fun _=>oS) fun g5=>oB (gP ps.aEl ([kS]:LB) bU) fun x9 _=>oW (fun _=>oS) fun g7=>?_;refine oW (fun g8=>?_) fun g8=>?_
 ·have:=bA ps.aEh
  refine oD (fun g9=>?_) fun g9=>?_
  ·exact oB (NL ps.aEe bU) fun x14 _=>oS
  exact oS
 refine oB (dJ ps.aEh 5) fun x16 _=>?_;refine oC (fun g12=>?_) fun g12=>?_
 ·have:=bA ps.aEh
  have:=fC ((ps.aEn.length:Int)+1)
  refine oD (fun g13=>?_) fun g13=>?_
  ·exact oB (o8 ps.aEe ps.aEh bU) fun x20 _=>oS
  exact oS
 exact oS
def UK(fu:Nat):Prop:= ∀(pt:aU),wt pt≤16777216→Ok (t9 fu pt) (fun _=>True)
theorem mS:bR UK:=((((bR.ge 2147483648).and R3).and bO).and dJ).imp fun fu ⟨⟨⟨hfu,R3⟩,bO⟩,dJ⟩ pt hpre=>by
 have:=(aX:wl ([]:LB)=0∧_)
 have:=aU.wt_eq pt
 refine SE pt.aEp 1 (fun i1 v3 hl2 hI3 _ _=>?_) ?_
 ·have:=bA pt.aEp
  have:=cZ pt.aEp i1 hl2
  refine Ok.lt fun y6 h4=>?_
  have:=congrArg wt h4
  refine oB (R3 y6 bU) fun x9 _=>oW (fun _=>oR) fun g6=>?_
  have:=bA (v3)
  have:=aG.wt_eq y6
  have:=cH y6.aD4
  have:=aZ y6.aD4
  refine oG fun z7=>?_
  have:=b6 v3 ([y6.aD4]:LB)
  exact rE
 intro v3 h1
 refine oC (fun g8=>?_) fun g8=>?_
 ·refine oC (fun _=>oS) fun g9=>oD (fun _=>oS) fun g10=>oD (fun _=>oS) fun g11=>oB (bO pt.aD4) fun x17 _=>?_;refine oC (fun g13=>?_) fun g13=>?_
  ·refine oB (dJ pt.aEc 4) fun x20 _=>?_;refine oC (fun g15=>?_) fun g15=>?_
   ·exact oB (dJ v3 6) fun x23 _=>oS
   exact oS
  exact oS
 refine oB (bO pt.aD4) fun x25 _=>?_;refine oC (fun g18=>?_) fun g18=>?_
 ·refine oB (dJ pt.aEc 4) fun x28 _=>?_;refine oC (fun g20=>?_) fun g20=>?_
  ·exact oB (dJ v3 6) fun x31 _=>oS
  exact oS
 exact oS
def MV(fu:Nat):Prop:= ∀(pd:aM),wt pd≤16777216→Ok (kQ fu pd) (fun _=>True)
theorem kK:bR MV:=((((bR.ge 2147483648).and BE).and bO).and dJ).imp fun fu ⟨⟨⟨hfu,BE⟩,bO⟩,dJ⟩ pd hpre=>by
 have:=(aX:wl ([]:LB)=0∧_)
 have:=aM.wt_eq pd
 refine SE pd.aD9 1 (fun i1 v3 hl2 hI3 _ _=>?_) ?_
 ·have:=bA pd.aD9
  have:=cZ pd.aD9 i1 hl2
  have:=aC.wt_eq (aR pd.aD9 i1)
  have:=bA ((aR pd.aD9 i1).aEm)
  refine oD (fun _=>oR) fun g4=>oB (BE ((aR pd.aD9 i1).aEm) pd.aEh bU) fun x8 _=>oW (fun _=>oR) fun g6=>?_
  have:=bA (v3)
  have:=cH ((aR pd.aD9 i1).aD4)
  have:=aZ ((aR pd.aD9 i1).aD4)
  refine oG fun z7=>?_
  have:=b6 v3 ([((aR pd.aD9 i1).aD4)]:LB)
  exact rE
 intro v3 h1
 refine oB (bO pd.aD4) fun x12 _=>?_;refine oC (fun g9=>?_) fun g9=>?_
 ·refine oB (dJ pd.aEh 3) fun x15 _=>?_;refine oC (fun g11=>?_) fun g11=>?_
  ·refine oD (fun g12=>?_) fun g12=>?_
   ·exact oB (dJ v3 5) fun x19 _=>oS
   exact oS
  exact oS
 exact oS
def UI(fu:Nat):Prop:= ∀(pb:aF),wt pb≤33554432→Ok (AB fu pb) (fun _=>True)
theorem zU:bR UI:=(((bR.ge 2147483648).and bO).and eW).imp fun fu ⟨⟨hfu,bO⟩,eW⟩ pb hpre=>by
 have:=aF.wt_eq pb
 refine oB (bO pb.aEb) fun x2 _=>?_;refine oC (fun g2=>?_) fun g2=>?_
 ·exact oB (eW pb.aD6 bU) fun x5 _=>oS
 exact oS
def afG(fu:Nat):Prop:= ∀(p1:Z aF) (p2:LB),wl p1+wl p2≤33554432→Ok (vA fu p1 p2) (fun _=>True)
theorem uZ:bR afG:=((((bR.ge 2147483648).and zU).and gP).and l4).imp fun fu ⟨⟨⟨hfu,zU⟩,gP⟩,l4⟩ p1 p2 hpre=>by
 refine IG ?_ ?_
 ·refine Ok.loop1 ?_;rintro i1 ⟨⟩ hl2
  have:=bA p1
  have:=cZ p1 i1 hl2
  refine oB (zU (aR p1 i1) bU) fun x5 _=>oW (fun _=>oR) fun g5=>?_
  have:=aF.wt_eq (aR p1 i1)
  exact oB (gP ((aR p1 i1).aD6) p2 bU) fun x8 _=>oW (fun _=>oR) fun g7=>oB (l4 ((aR p1 i1).aD6) bU) fun x11 _=>oC (fun _=>oR) fun g9=>rE
 rintro⟨⟩-
 exact oS
def MX(fu:Nat):Prop:= ∀(p0:aI),wt p0≤16777216→Ok (kR fu p0) (fun _=>True)
theorem kO:bR MX:=(((((((((bR.ge 2147483648).and bO).and dJ).and gP).and l4).and uZ).and I8).and mE).and o8).imp fun fu ⟨⟨⟨⟨⟨⟨⟨⟨hfu,bO⟩,dJ⟩,gP⟩,l4⟩,uZ⟩,I8⟩,mE⟩,o8⟩ p0 hpre=>by
 have:=aI.wt_eq p0
 refine oB (bO p0.aEb) fun x2 _=>oW (fun _=>oS) fun g2=>oB (dJ p0.aEh 3) fun x5 _=>oW (fun _=>oS) fun g4=>oB (gP p0.aEj p0.aEh bU) fun x8 _=>oW (fun _=>oS) fun g6=>oB (l4 p0.aEj bU) fun x11 _=>oC (fun _=>oS) fun g8=>?_
 have:=aA.wt_eq p0.aEj
 refine oD (fun _=>oS) fun g9=>oB (uZ p0.aEk p0.aEh bU) fun x15 _=>oW (fun _=>oS) fun g11=>?_;refine IG ?_ ?_
 ·refine Ok.loop1 ?_;rintro i17 ⟨⟩ hl13
  have:=bA p0.aEh
  have:=cZ p0.aEh i17 hl13
  have:=aZ (aR p0.aEh i17)
  exact oB (I8 (aR p0.aEh i17) p0.aEj bU) fun x21 _=>oW (fun _=>oR) fun g16=>rE
 rintro⟨⟩-
 refine IG ?_ ?_
 ·refine oC (fun g18=>?_) fun g18=>?_
  ·exact oB (gP p0.aEq p0.aEh bU) fun x25 _=>oW (fun _=>oL) fun g20=>oI
  exact oB (mE p0.aEq) fun x28 _=>oW (fun _=>oL) fun g22=>oI
 rintro⟨⟩-
 have:=(aX:wl ([]:LB)=0∧_)
 refine SE p0.aEw 1 (fun i30 v32 hl24 hI25 _ _=>?_) ?_
 ·have:=bA p0.aEw
  have:=cZ p0.aEw i30 hl24
  refine Ok.lt fun y35 h26=>?_
  have:=congrArg wt h26
  have:=aP.wt_eq y35
  have:=bA y35.aEh
  refine oD (fun _=>oR) fun g27=>oB (dJ y35.aEh 5) fun x39 _=>oW (fun _=>oR) fun g29=>oB (o8 y35.aEe y35.aEh bU) fun x42 _=>oW (fun _=>oR) fun g31=>?_
  have:=bA (v32)
  have:=cH y35.aD4
  have:=aZ y35.aD4
  refine oG fun z32=>?_
  have:=b6 v32 ([y35.aD4]:LB)
  exact rE
 intro v32 h23
 exact oB (dJ v32 6) fun x46 _=>oS
def MW(fu:Nat):Prop:= ∀(pf:aO),wt pf≤16777216→Ok (pY fu pf) (fun _=>True)
theorem kM:bR MW:=((((((bR.ge 2147483648).and gP).and bO).and dJ).and uZ).and o8).imp fun fu ⟨⟨⟨⟨⟨hfu,gP⟩,bO⟩,dJ⟩,uZ⟩,o8⟩ pf hpre=>by
 have:=(aX:wl ([]:LB)=0∧_)
 have:=aO.wt_eq pf
 refine SE pf.aEn 1 (fun i1 v3 hl2 hI3 _ _=>?_) ?_
 ·have:=bA pf.aEn
  have:=cZ pf.aEn i1 hl2
  have:=aV.wt_eq (aR pf.aEn i1)
  refine oB (gP ((aR pf.aEn i1).aD6) pf.aEh bU) fun x7 _=>oW (fun _=>oR) fun g5=>?_
  have:=bA (v3)
  have:=cH ((aR pf.aEn i1).aD4)
  have:=aZ ((aR pf.aEn i1).aD4)
  refine oG fun z6=>?_
  have:=b6 v3 ([((aR pf.aEn i1).aD4)]:LB)
  exact rE
 intro v3 h1
 refine oB (bO pf.aD4) fun x11 _=>?_;refine oC (fun g8=>?_) fun g8=>?_
 ·refine oB (dJ pf.aEh 3) fun x14 _=>?_;refine oC (fun g10=>?_) fun g10=>?_
  ·refine oB (uZ pf.aEk pf.aEh bU) fun x17 _=>?_;refine oC (fun g12=>?_) fun g12=>?_
   ·refine oB (dJ v3 5) fun x20 _=>?_;refine oC (fun g14=>?_) fun g14=>?_
    ·refine oB (gP pf.aEl pf.aEh bU) fun x23 _=>?_;refine oC (fun g16=>?_) fun g16=>?_
     ·exact oB (o8 pf.aEe v3 bU) fun x26 _=>oS
     exact oS
    exact oS
   exact oS
  exact oS
 exact oS
def apA(fu:Nat):Prop:= ∀(px:aB) (pi:Int),0≤pi∧wt px≤1073741824→Ok (dO fu px pi) (fun r=>wt r≤wt px)
theorem cJ:bR apA:=(bR.ge 2147483648).imp fun fu hfu px pi hpre=>by
 have:=aB.wt_eq px
 have:=bA px.aD7
 refine oD (fun g1=>?_) fun g1=>?_
 ·have:s_.size=0:=rfl
  have:=(aX:wl ([]:Z aB)=0∧_)
  have:=aB.wt_mk s_ []
  exact oS
 have:=bA (px.aD7)
 refine oG fun z2=>?_
 have:=cZ px.aD7 ((pi).toNat) z2.2
 exact oS
def afI(fu:Nat):Prop:= ∀(px:aB),wt px≤1073741824→Ok (lZ fu px) (fun r=>wl r≤wt px)
theorem gR:bR afI:=((bR.ge 2147483648).and jA).imp fun fu ⟨hfu,jA⟩ px hpre=>by
 have:=aB.wt_eq px
 refine wJ (jA px.aD7 bU) fun x2 x3 h1=>?_
 dsimp only at h1
 exact oS
def ai7(fu:Nat):Prop:= ∀(px:aB) (pi:Int),0≤pi→Ok (xQ fu px pi) (fun r=>wl r≤wl px.aD7)
theorem nQ:bR ai7:=((bR.ge 2147483648).and jT).imp fun fu ⟨hfu,jT⟩ px pi hpre=>by
 have:=aB.wt_eq px
 have:=bA px.aD7
 refine oB (jT pi (px.aD7.length:Int)) fun x2 h1=>oG fun z2=>?_
 have:=VT (x2:Int).toNat (px.aD7.length:Int).toNat px.aD7
 exact oS
def amX(fu:Nat):Prop:= ∀(p0:Z aB),wl p0≤67108864→Ok (KW fu p0) (fun r=>wl r≤2*wl p0)
theorem BF:bR amX:=((bR.ge 2147483648).and iM).imp fun fu ⟨hfu,iM⟩ p0 hpre=>by
 have:=(aX:wl ([]:Z aA)=0∧_)
 refine SE p0 2 (fun i1 v3 hl2 hI3 _ _=>?_) ?_
 ·have:=bA p0
  have:=cZ p0 i1 hl2
  refine oB (iM (aR p0 i1) bU) fun x7 h4=>?_
  have:=bA (v3)
  have:=cH x7
  refine oG fun z5=>?_
  have:=b6 v3 ([x7]:Z aA)
  exact rE
 intro v3 h1
 exact oS
def afL(fu:Nat):Prop:= ∀(p0:LB),wl p0≤1073741824→Ok (l0 fu p0) (fun r=>wt r≤wl p0)
theorem f8:bR afL:=((bR.ge 2147483648).and nR).imp fun fu ⟨hfu,nR⟩ p0 hpre=>by
 refine oB (nR p0 bU) fun x2 h1=>?_
 have:s_.size=0:=rfl
 have:=aB.wt_mk s_ x2
 exact oS
def afJ(fu:Nat):Prop:= ∀(p0:Z aA),wl p0≤33554432→Ok (D5 fu p0) (fun r=>wl r≤8*wl p0)
theorem u4:bR afJ:=((bR.ge 2147483648).and jN).imp fun fu ⟨hfu,jN⟩ p0 hpre=>by
 have:=(aX:wl ([]:Z aB)=0∧_)
 refine SE p0 8 (fun i1 v3 hl2 hI3 _ _=>?_) ?_
 ·have:=bA p0
  have:=cZ p0 i1 hl2
  refine oB (jN (aR p0 i1) bU) fun x7 h4=>?_
  have:=bA (v3)
  have:=cH x7
  refine oG fun z5=>?_
  have:=b6 v3 ([x7]:Z aB)
  exact rE
 intro v3 h1
 exact oS
def apB(fu:Nat):Prop:= ∀(p3:Bool) (px:aB),wt px≤1073741824→Ok (FY fu p3 px) (fun r=>wt r≤wt px)
theorem qX:bR apB:=((bR.ge 2147483648).and cU).imp fun fu ⟨hfu,cU⟩ p3 px hpre=>by
 refine oW (fun g1=>?_) fun g1=>?_
 ·have:s_.size=0:=rfl
  have:=(aX:wl ([]:Z aB)=0∧_)
  have:=aB.wt_mk s_ []
  exact oS
 refine oB (cU px bU) fun x3 _=>?_;refine oW (fun g3=>?_) fun g3=>?_
 ·have:s_.size=0:=rfl
  have:=(aX:wl ([]:Z aB)=0∧_)
  have:=aB.wt_mk s_ []
  exact oS
 exact oS
def UO(fu:Nat):Prop:= ∀(p1:aU),wt p1≤1048576→(∀a∈p1.aEp,MN a.aEe)→Ok (AC fu p1) (fun r=>wt r≤64*wt p1+64)
theorem zY:bR UO:=(((((((((bR.ge 2147483648).and mS).and bP).and f8).and eZ).and u4).and jN).and vU).and qX).imp fun fu ⟨⟨⟨⟨⟨⟨⟨⟨hfu,mS⟩,bP⟩,f8⟩,eZ⟩,u4⟩,jN⟩,vU⟩,qX⟩ p1 hpre hB=>by
 refine oB (mS p1 bU) fun x2 _=>?_;refine oW (fun g2=>?_) fun g2=>?_
 ·have:s_.size=0:=rfl
  have:=(aX:wl ([]:Z aB)=0∧_)
  have:=aB.wt_mk s_ []
  exact oS
 refine Ok.sok (E:=fun v5=>wl v5≤5) ?_ ?_
 ·have:=aU.wt_eq p1
  refine oC (fun g4=>?_) fun g4=>?_
  ·have:=(aX:wl ([]:LB)=0∧_)
   have:CW.size=4:=rfl
   have:=cH CW
   have:=aZ CW
   refine oG fun z5=>?_
   have:=b6 ([]:LB) ([CW]:LB)
   exact oI
  have:=(aX:wl ([]:LB)=0∧_)
  exact oI
 intro v5 h3
 refine Ok.sok (E:=fun v9=>wl v9≤11) ?_ ?_
 ·have:=aU.wt_eq p1
  refine oC (fun g7=>?_) fun g7=>?_
  ·have:=bA (v5)
   have:jV.size=5:=rfl
   have:=cH jV
   have:=aZ jV
   refine oG fun z8=>?_
   have:=b6 v5 ([jV]:LB)
   exact oI
  exact oI
 intro v9 h6
 have:rY.size=5:=rfl
 refine oB (bP rY) fun x13 h9=>?_
 have:=aU.wt_eq p1
 refine oB (bP p1.aD4) fun x15 h10=>oB (f8 p1.aEc bU) fun x17 h11=>oB (f8 v9 bU) fun x19 h12=>?_
 have:=azJ x13 x15 x17 x19
 refine oB (eZ ([x13,x15,x17,x19]:Z aB) bU) fun x21 h13=>?_
 have:=aB.wt_eq x21
 refine SE p1.aEp 64 (fun i22 v24 hl15 hI16 _ _=>?_) ?_
 ·have:=bA p1.aEp
  have:=cZ p1.aEp i22 hl15
  refine Ok.lt fun y27 h17=>?_
  have:=congrArg wt h17
  have:=aG.wt_eq y27
  refine oB (bP y27.aD4) fun x30 h18=>oB (u4 y27.aEn bU) fun x32 h19=>oB (jN y27.aEl bU) fun x34 h20=>?_
  have:s_.size=0:=rfl
  have:=aB.wt_mk s_ x32
  have:=GP x30 (aB.mk s_ x32) x34
  refine oB (eZ ([x30,(aB.mk s_ x32),x34]:Z aB) bU) fun x36 h21=>?_;refine oC (fun g22=>?_) fun g22=>?_
  ·refine oB (f8 y27.aEh bU) fun x39 h23=>oB (vU y27.aEe bU (by rw [show y27=aR p1.aEp i22 by assumption];exact acM hB (by assumption))) fun x41 h24=>?_
   have:=aB.wt_eq x36
   have:=bA (x36.aD7)
   have:=lJ x39 x41
   refine oG fun z25=>?_
   have:=bA (v24)
   have:=b6 x36.aD7 ([x39,x41]:Z aB)
   have:=aB.wt_mk x36.aEa (x36.aD7++([x39,x41]:Z aB))
   have:=cH (aB.mk x36.aEa (x36.aD7++([x39,x41]:Z aB)))
   refine oG fun z26=>?_
   have:=b6 v24 ([(aB.mk x36.aEa (x36.aD7++([x39,x41]:Z aB)))]:Z aB)
   exact rE
  have:=bA (v24)
  have:=aB.wt_eq x36
  have:=aB.wt_mk x36.aEa x36.aD7
  have:=cH (aB.mk x36.aEa x36.aD7)
  refine oG fun z27=>?_
  have:=b6 v24 ([(aB.mk x36.aEa x36.aD7)]:Z aB)
  exact rE
 intro v24 h14
 have:=aB.wt_mk x21.aEa v24
 exact oB (qX true (aB.mk x21.aEa v24) bU) fun x46 h28=>oS
def UN(fu:Nat):Prop:= ∀(p1:aB),wt p1≤65536→Ok (qY fu p1) (fun r=>wt r.1≤16*wt p1)
theorem zX:bR UN:=(((((((((((bR.ge 2147483648).and cJ).and gR).and eH).and nQ).and BF).and iM).and o7).and cU).and zY).and gZ).imp fun fu ⟨⟨⟨⟨⟨⟨⟨⟨⟨⟨hfu,cJ⟩,gR⟩,eH⟩,nQ⟩,BF⟩,iM⟩,o7⟩,cU⟩,zY⟩,gZ⟩ p1 hpre=>by
 refine oB (cJ p1 3 bU) fun x2 h1=>oB (gR x2 bU) fun x4 h2=>oB (cJ p1 1 bU) fun x6 h3=>oB (cJ p1 2 bU) fun x8 h4=>oB (gR x8 bU) fun x10 h5=>?_
 have:CW.size=4:=rfl
 refine oB (eH x4 CW) fun x12 _=>?_
 have:jV.size=5:=rfl
 refine oB (eH x4 jV) fun x14 _=>?_
 have:=aB.wt_eq p1
 refine oB (nQ p1 4 bU) fun x16 h8=>?_
 have:=(aX:wl ([]:Z aG)=0∧_)
 refine asA (PA:=fun a=>MN a.aEe) x16 8 (fun i17 v19 hl10 hI11 hI11B _ _=>?_) ?_
 ·have:=bA x16
  have:=cZ x16 i17 hl10
  refine oB (cJ (aR x16 i17) 0 bU) fun x23 h12=>oB (cJ (aR x16 i17) 1 bU) fun x25 h13=>?_
  have:=aB.wt_eq x25
  refine oB (BF x25.aD7 bU) fun x27 h14=>oB (cJ (aR x16 i17) 2 bU) fun x29 h15=>oB (iM x29 bU) fun x31 h16=>?_
  have:=aB.wt_eq (aR x16 i17)
  have:=bA ((aR x16 i17).aD7)
  refine oD (fun g17=>?_) fun g17=>?_
  ·refine oB (cJ (aR x16 i17) 3 bU) fun x34 h18=>oB (gR x34 bU) fun x36 h19=>oB (cJ (aR x16 i17) 4 bU) fun x38 h20=>TX (o7 x38 bU) fun x40 h21 h21B=>?_
   have:=bA (v19)
   have:=aB.wt_eq x23
   have:=aG.wt_mk x23.aEa x27 x31 true x36 x40
   have:=cH (aG.mk x23.aEa x27 x31 true x36 x40)
   refine oG fun z22=>?_
   have:=b6 v19 ([(aG.mk x23.aEa x27 x31 true x36 x40)]:Z aG)
   exact oX hI11B
  have:=bA (v19)
  have:=aB.wt_eq x23
  have:s_.size=0:=rfl
  have:=(aX:wl ([]:Z aA)=0∧_)
  have:=aA.wt_mk 0 s_ []
  have:=(aX:wl ([]:Z aL)=0∧_)
  have:=(aX:wl ([]:Z bW)=0∧_)
  have:=aL.wt_mk 0 s_ s_ 0 (aA.mk 0 s_ []) [] []
  have:=(aX:wl ([]:LB)=0∧_)
  have:=aG.wt_mk x23.aEa x27 x31 false [] (aL.mk 0 s_ s_ 0 (aA.mk 0 s_ []) [] [])
  have:=cH (aG.mk x23.aEa x27 x31 false [] (aL.mk 0 s_ s_ 0 (aA.mk 0 s_ []) [] []))
  refine oG fun z23=>?_
  have:=b6 v19 ([(aG.mk x23.aEa x27 x31 false [] (aL.mk 0 s_ s_ 0 (aA.mk 0 s_ []) [] []))]:Z aG)
  exact oX hI11B
 rintro v19 ⟨h9,h9B⟩
 refine oB (cU p1 bU) fun x44 _=>?_;refine oW (fun g25=>?_) fun g25=>?_
 ·have:s_.size=0:=rfl
  have:=(aX:wl ([]:LB)=0∧_)
  have:=aU.wt_mk s_ [] false false []
  exact oS
 have:=bA p1.aD7
 refine oD (fun g26=>?_) fun g26=>?_
 ·have:s_.size=0:=rfl
  have:=(aX:wl ([]:LB)=0∧_)
  have:=aU.wt_mk s_ [] false false []
  exact oS
 have:=aB.wt_eq x6
 have:=aU.wt_mk x6.aEa x10 x12 x14 v19
 refine oB (zY (aU.mk x6.aEa x10 x12 x14 v19) bU (by first|assumption|trivial)) fun x48 h27=>oB (gZ x48 p1 bU) fun x50 _=>?_;refine oW (fun g29=>?_) fun g29=>?_
 ·have:s_.size=0:=rfl
  have:=(aX:wl ([]:LB)=0∧_)
  have:=aU.wt_mk s_ [] false false []
  exact oS
 exact oS
def MS(fu:Nat):Prop:= ∀(pd:aM),wt pd≤1048576→Ok (uH fu pd) (fun r=>wt r≤64*wt pd+64)
theorem uB:bR MS:=(((((((bR.ge 2147483648).and bP).and f8).and eZ).and u4).and kK).and qX).imp fun fu ⟨⟨⟨⟨⟨⟨hfu,bP⟩,f8⟩,eZ⟩,u4⟩,kK⟩,qX⟩ pd hpre=>by
 have:S4.size=4:=rfl
 refine oB (bP S4) fun x2 h1=>?_
 have:=aM.wt_eq pd
 refine oB (bP pd.aD4) fun x4 h2=>oB (f8 pd.aEh bU) fun x6 h3=>?_
 have:=GP x2 x4 x6
 refine oB (eZ ([x2,x4,x6]:Z aB) bU) fun x8 h4=>?_
 have:=aB.wt_eq x8
 refine SE pd.aD9 64 (fun i9 v11 hl6 hI7 _ _=>?_) ?_
 ·have:=bA pd.aD9
  have:=cZ pd.aD9 i9 hl6
  have:=aC.wt_eq (aR pd.aD9 i9)
  refine oB (bP ((aR pd.aD9 i9).aD4)) fun x15 h8=>oB (u4 ((aR pd.aD9 i9).aEm) bU) fun x17 h9=>?_
  have:=cH x15
  have:=bA (x17)
  refine oG fun z10=>?_
  have:=bA (v11)
  have:s_.size=0:=rfl
  have:=b6 ([x15]:Z aB) x17
  have:=aB.wt_mk s_ (([x15]:Z aB)++x17)
  have:=cH (aB.mk s_ (([x15]:Z aB)++x17))
  refine oG fun z11=>?_
  have:=b6 v11 ([(aB.mk s_ (([x15]:Z aB)++x17))]:Z aB)
  exact rE
 intro v11 h5
 refine oB (kK pd bU) fun x21 _=>?_
 have:=aB.wt_mk x8.aEa v11
 exact oB (qX x21 (aB.mk x8.aEa v11) bU) fun x23 h13=>oS
def MY(fu:Nat):Prop:= ∀(px:aB),wt px≤65536→Ok (uL fu px) (fun r=>wt r.1≤16*wt px)
theorem uE:bR MY:=((((((((bR.ge 2147483648).and cJ).and gR).and nQ).and BF).and cU).and uB).and gZ).imp fun fu ⟨⟨⟨⟨⟨⟨⟨hfu,cJ⟩,gR⟩,nQ⟩,BF⟩,cU⟩,uB⟩,gZ⟩ px hpre=>by
 refine oB (cJ px 1 bU) fun x2 h1=>oB (cJ px 2 bU) fun x4 h2=>oB (gR x4 bU) fun x6 h3=>?_
 have:=aB.wt_eq px
 refine oB (nQ px 3 bU) fun x8 h4=>?_
 have:=(aX:wl ([]:Z aC)=0∧_)
 refine SE x8 4 (fun i9 v11 hl6 hI7 _ _=>?_) ?_
 ·have:=bA x8
  have:=cZ x8 i9 hl6
  refine oB (cJ (aR x8 i9) 0 bU) fun x15 h8=>?_
  have:=aB.wt_eq (aR x8 i9)
  refine oB (nQ (aR x8 i9) 1 bU) fun x17 h9=>oB (BF x17 bU) fun x19 h10=>?_
  have:=bA (v11)
  have:=aB.wt_eq x15
  have:=aC.wt_mk x15.aEa x19
  have:=cH (aC.mk x15.aEa x19)
  refine oG fun z11=>?_
  have:=b6 v11 ([(aC.mk x15.aEa x19)]:Z aC)
  exact rE
 intro v11 h5
 refine oB (cU px bU) fun x22 _=>?_;refine oW (fun g13=>?_) fun g13=>?_
 ·have:s_.size=0:=rfl
  have:=(aX:wl ([]:LB)=0∧_)
  have:=aM.wt_mk s_ [] []
  exact oS
 have:=bA px.aD7
 refine oD (fun g14=>?_) fun g14=>?_
 ·have:s_.size=0:=rfl
  have:=(aX:wl ([]:LB)=0∧_)
  have:=aM.wt_mk s_ [] []
  exact oS
 have:=aB.wt_eq x2
 have:=aM.wt_mk x2.aEa x6 v11
 refine oB (uB (aM.mk x2.aEa x6 v11) bU) fun x26 h15=>oB (gZ x26 px bU) fun x28 _=>?_;refine oW (fun g17=>?_) fun g17=>?_
 ·have:s_.size=0:=rfl
  have:=(aX:wl ([]:LB)=0∧_)
  have:=aM.wt_mk s_ [] []
  exact oS
 exact oS
def acH(fu:Nat):Prop:= ∀(px:aB),wt px≤33554432→Ok (A5 fu px) (fun r=>wl r≤4*wt px)
theorem s8:bR acH:=(((bR.ge 2147483648).and cJ).and iM).imp fun fu ⟨⟨hfu,cJ⟩,iM⟩ px hpre=>by
 have:=(aX:wl ([]:Z aF)=0∧_)
 have:=aB.wt_eq px
 refine SE px.aD7 4 (fun i1 v3 hl2 hI3 _ _=>?_) ?_
 ·have:=bA px.aD7
  have:=cZ px.aD7 i1 hl2
  refine oB (cJ (aR px.aD7 i1) 0 bU) fun x7 h4=>oB (cJ (aR px.aD7 i1) 1 bU) fun x9 h5=>oB (iM x9 bU) fun x11 h6=>?_
  have:=bA (v3)
  have:=aB.wt_eq x7
  have:=aF.wt_mk x7.aEa x11
  have:=cH (aF.mk x7.aEa x11)
  refine oG fun z7=>?_
  have:=b6 v3 ([(aF.mk x7.aEa x11)]:Z aF)
  exact rE
 intro v3 h1
 exact oS
def afK(fu:Nat):Prop:= ∀(p0:Z aF),wl p0≤16777216→Ok (D6 fu p0) (fun r=>wt r≤16*wl p0)
theorem u5:bR afK:=((((bR.ge 2147483648).and bP).and jN).and eZ).imp fun fu ⟨⟨⟨hfu,bP⟩,jN⟩,eZ⟩ p0 hpre=>by
 have:=(aX:wl ([]:Z aB)=0∧_)
 refine SE p0 16 (fun i1 v3 hl2 hI3 _ _=>?_) ?_
 ·have:=bA p0
  have:=cZ p0 i1 hl2
  have:=aF.wt_eq (aR p0 i1)
  refine oB (bP ((aR p0 i1).aEb)) fun x7 h4=>oB (jN ((aR p0 i1).aD6) bU) fun x9 h5=>?_
  have:=lJ x7 x9
  refine oB (eZ ([x7,x9]:Z aB) bU) fun x11 h6=>?_
  have:=bA (v3)
  have:=cH x11
  refine oG fun z7=>?_
  have:=b6 v3 ([x11]:Z aB)
  exact rE
 intro v3 h1
 have:s_.size=0:=rfl
 have:=aB.wt_mk s_ v3
 exact oS
def MU(fu:Nat):Prop:= ∀(p1:aI),wt p1≤1048576→(∀a∈p1.aEw,MN a.aEe)→Ok (uK fu p1) (fun r=>wt r≤64*wt p1+128)
theorem uD:bR MU:=(((((((((bR.ge 2147483648).and kO).and jN).and eZ).and bP).and f8).and u5).and vU).and qX).imp fun fu ⟨⟨⟨⟨⟨⟨⟨⟨hfu,kO⟩,jN⟩,eZ⟩,bP⟩,f8⟩,u5⟩,vU⟩,qX⟩ p1 hpre hB=>by
 refine oB (kO p1 bU) fun x2 _=>?_;refine oW (fun g2=>?_) fun g2=>?_
 ·have:s_.size=0:=rfl
  have:=(aX:wl ([]:Z aB)=0∧_)
  have:=aB.wt_mk s_ []
  exact oS
 refine Ok.sok (E:=fun v5=>wl v5≤8) ?_ ?_
 ·have:=aI.wt_eq p1
  refine oC (fun g4=>?_) fun g4=>?_
  ·have:=(aX:wl ([]:LB)=0∧_)
   have:xL.size=7:=rfl
   have:=cH xL
   have:=aZ xL
   refine oG fun z5=>?_
   have:=b6 ([]:LB) ([xL]:LB)
   exact oI
  have:=(aX:wl ([]:LB)=0∧_)
  exact oI
 intro v5 h3
 have:=aI.wt_eq p1
 refine Ok.sok (E:=fun(v8,v9)=>v8.size+wl v9≤8*wt p1.aEq+16) ?_ ?_
 ·refine oC (fun g7=>?_) fun g7=>?_
  ·refine oB (jN p1.aEq bU) fun x12 h8=>?_
   have:=cH x12
   refine oB (eZ ([x12]:Z aB) bU) fun x14 h9=>?_
   have:=aB.wt_eq x14
   exact oI
  have:s_.size=0:=rfl
  have:=(aX:wl ([]:Z aB)=0∧_)
  exact oI
 rintro⟨v8,v9⟩ h6
 dsimp only at h6
 have:S5.size=4:=rfl
 refine oB (bP S5) fun x16 h10=>oB (bP p1.aEb) fun x18 h11=>oB (f8 p1.aEh bU) fun x20 h12=>oB (jN p1.aEj bU) fun x22 h13=>oB (u5 p1.aEk bU) fun x24 h14=>oB (f8 v5 bU) fun x26 h15=>?_
 have:=aB.wt_mk v8 v9
 have:=anZ x16 x18 x20 x22 x24 x26 (aB.mk v8 v9)
 refine oB (eZ ([x16,x18,x20,x22,x24,x26,(aB.mk v8 v9)]:Z aB) bU) fun x28 h16=>?_
 have:=aB.wt_eq x28
 refine SE p1.aEw 64 (fun i29 v31 hl18 hI19 _ _=>?_) ?_
 ·have:=bA p1.aEw
  have:=cZ p1.aEw i29 hl18
  refine Ok.lt fun y34 h20=>?_
  have:=congrArg wt h20
  have:=aP.wt_eq y34
  refine oB (bP y34.aD4) fun x37 h21=>oB (f8 y34.aEh bU) fun x39 h22=>oB (vU y34.aEe bU (by rw [show y34=aR p1.aEw i29 by assumption];exact acM hB (by assumption))) fun x41 h23=>?_
  have:=GP x37 x39 x41
  refine oB (eZ ([x37,x39,x41]:Z aB) bU) fun x43 h24=>?_
  have:=bA (v31)
  have:=aB.wt_eq x43
  have:=aB.wt_mk x43.aEa x43.aD7
  have:=cH (aB.mk x43.aEa x43.aD7)
  refine oG fun z25=>?_
  have:=b6 v31 ([(aB.mk x43.aEa x43.aD7)]:Z aB)
  exact rE
 intro v31 h17
 have:=aB.wt_mk x28.aEa v31
 exact oB (qX true (aB.mk x28.aEa v31) bU) fun x46 h26=>oS
def M0(fu:Nat):Prop:= ∀(p1:aB),wt p1≤65536→Ok (uN fu p1) (fun r=>wt r.1≤16*wt p1)
theorem uG:bR M0:=((((((((((bR.ge 2147483648).and cJ).and gR).and iM).and s8).and nQ).and o7).and cU).and uD).and gZ).imp fun fu ⟨⟨⟨⟨⟨⟨⟨⟨⟨hfu,cJ⟩,gR⟩,iM⟩,s8⟩,nQ⟩,o7⟩,cU⟩,uD⟩,gZ⟩ p1 hpre=>by
 refine oB (cJ p1 1 bU) fun x2 h1=>oB (cJ p1 2 bU) fun x4 h2=>oB (gR x4 bU) fun x6 h3=>oB (cJ p1 3 bU) fun x8 h4=>oB (iM x8 bU) fun x10 h5=>oB (cJ p1 4 bU) fun x12 h6=>oB (s8 x12 bU) fun x14 h7=>oB (cJ p1 5 bU) fun x16 h8=>oB (cJ p1 6 bU) fun x18 h9=>?_;refine Ok.sok (E:=fun(v22,v19,v20,v21)=>wl v22+v21.size≤2*wt x18) ?_ ?_
 ·have:=aB.wt_eq x18
  have:=bA x18.aD7
  refine oD (fun g11=>?_) fun g11=>?_
  ·have:=bA (x18.aD7)
   refine oG fun z12=>?_
   have:=cZ x18.aD7 0 z12
   have:wl (List.take 1 x18.aD7)=wl (List.take 0 x18.aD7)+wt (aR x18.aD7 0)+1:=MM x18.aD7 0 z12
   refine oB (iM (aR x18.aD7 0) bU) fun x26 h13=>?_
   have:=aA.wt_eq x26
   exact oI
  have:s_.size=0:=rfl
  have:=(aX:wl ([]:Z aA)=0∧_)
  exact oI
 rintro⟨v22,v19,v20,v21⟩ h10
 dsimp only at h10
 have:=aB.wt_eq p1
 refine oB (nQ p1 7 bU) fun x28 h14=>?_
 have:=(aX:wl ([]:Z aP)=0∧_)
 refine asA (PA:=fun a=>MN a.aEe) x28 4 (fun i29 v31 hl16 hI17 hI17B _ _=>?_) ?_
 ·have:=bA x28
  have:=cZ x28 i29 hl16
  refine oB (cJ (aR x28 i29) 0 bU) fun x35 h18=>oB (cJ (aR x28 i29) 1 bU) fun x37 h19=>oB (gR x37 bU) fun x39 h20=>oB (cJ (aR x28 i29) 2 bU) fun x41 h21=>TX (o7 x41 bU) fun x43 h22 h22B=>?_
  have:=bA (v31)
  have:=aB.wt_eq x35
  have:=aP.wt_mk x35.aEa x39 x43
  have:=cH (aP.mk x35.aEa x39 x43)
  refine oG fun z23=>?_
  have:=b6 v31 ([(aP.mk x35.aEa x39 x43)]:Z aP)
  exact oX hI17B
 rintro v31 ⟨h15,h15B⟩
 refine oB (cU p1 bU) fun x46 _=>?_;refine oW (fun g25=>?_) fun g25=>?_
 ·have:s_.size=0:=rfl
  have:=(aX:wl ([]:Z aA)=0∧_)
  have:=aA.wt_mk 0 s_ []
  have:=(aX:wl ([]:LB)=0∧_)
  have:=(aX:wl ([]:Z aF)=0∧_)
  have:=aI.wt_mk s_ [] (aA.mk 0 s_ []) [] false false (aA.mk 0 s_ []) []
  exact oS
 have:=bA p1.aD7
 refine oD (fun g26=>?_) fun g26=>?_
 ·have:s_.size=0:=rfl
  have:=(aX:wl ([]:Z aA)=0∧_)
  have:=aA.wt_mk 0 s_ []
  have:=(aX:wl ([]:LB)=0∧_)
  have:=(aX:wl ([]:Z aF)=0∧_)
  have:=aI.wt_mk s_ [] (aA.mk 0 s_ []) [] false false (aA.mk 0 s_ []) []
  exact oS
 have:=aB.wt_eq x2
 have:=aB.wt_eq x16
 have:=bA x16.aD7
 have:=aA.wt_mk v20 v21 v22
 have:=aI.wt_mk x2.aEa x6 x10 x14 (decide ((x16.aD7.length:Int)>0)) v19 (aA.mk v20 v21 v22) v31
 refine oB (uD (aI.mk x2.aEa x6 x10 x14 (decide ((x16.aD7.length:Int)>0)) v19 (aA.mk v20 v21 v22) v31) bU (by first|assumption|trivial)) fun x50 h27=>oB (gZ x50 p1 bU) fun x52 _=>?_;refine oW (fun g29=>?_) fun g29=>?_
 ·have:s_.size=0:=rfl
  have:=(aX:wl ([]:Z aA)=0∧_)
  have:=aA.wt_mk 0 s_ []
  have:=(aX:wl ([]:LB)=0∧_)
  have:=(aX:wl ([]:Z aF)=0∧_)
  have:=aI.wt_mk s_ [] (aA.mk 0 s_ []) [] false false (aA.mk 0 s_ []) []
  exact oS
 exact oS
def MT(fu:Nat):Prop:= ∀(pf:aO),wt pf≤1048576→(MN pf.aEe)→Ok (uJ fu pf) (fun r=>wt r≤64*wt pf+128)
theorem uC:bR MT:=(((((((((bR.ge 2147483648).and kM).and bP).and jN).and eZ).and f8).and u5).and vU).and qX).imp fun fu ⟨⟨⟨⟨⟨⟨⟨⟨hfu,kM⟩,bP⟩,jN⟩,eZ⟩,f8⟩,u5⟩,vU⟩,qX⟩ pf hpre hB=>by
 refine oB (kM pf bU) fun x2 _=>?_;refine oW (fun g2=>?_) fun g2=>?_
 ·have:s_.size=0:=rfl
  have:=(aX:wl ([]:Z aB)=0∧_)
  have:=aB.wt_mk s_ []
  exact oS
 have:=(aX:wl ([]:Z aB)=0∧_)
 have:=aO.wt_eq pf
 refine SE pf.aEn 16 (fun i4 v6 hl4 hI5 _ _=>?_) ?_
 ·have:=bA pf.aEn
  have:=cZ pf.aEn i4 hl4
  have:=aV.wt_eq (aR pf.aEn i4)
  refine oB (bP ((aR pf.aEn i4).aD4)) fun x10 h6=>oB (jN ((aR pf.aEn i4).aD6) bU) fun x12 h7=>?_
  have:=lJ x10 x12
  refine oB (eZ ([x10,x12]:Z aB) bU) fun x14 h8=>?_
  have:=bA (v6)
  have:=cH x14
  refine oG fun z9=>?_
  have:=b6 v6 ([x14]:Z aB)
  exact rE
 intro v6 h3
 have:aoH.size=2:=rfl
 refine oB (bP aoH) fun x17 h10=>oB (bP pf.aD4) fun x19 h11=>oB (f8 pf.aEh bU) fun x21 h12=>oB (u5 pf.aEk bU) fun x23 h13=>oB (jN pf.aEl bU) fun x25 h14=>oB (vU pf.aEe bU (by first|assumption|trivial)) fun x27 h15=>?_
 have:s_.size=0:=rfl
 have:=aB.wt_mk s_ v6
 have:=anZ x17 x19 x21 x23 (aB.mk s_ v6) x25 x27
 exact oB (eZ ([x17,x19,x21,x23,(aB.mk s_ v6),x25,x27]:Z aB) bU) fun x29 h16=>oB (qX true x29 bU) fun x31 h17=>oS
def MZ(fu:Nat):Prop:= ∀(p1:aB),wt p1≤65536→Ok (uM fu p1) (fun r=>wt r.1≤16*wt p1)
theorem uF:bR MZ:=(((((((((bR.ge 2147483648).and cJ).and gR).and s8).and iM).and o7).and cU).and uC).and gZ).imp fun fu ⟨⟨⟨⟨⟨⟨⟨⟨hfu,cJ⟩,gR⟩,s8⟩,iM⟩,o7⟩,cU⟩,uC⟩,gZ⟩ p1 hpre=>by
 refine oB (cJ p1 1 bU) fun x2 h1=>oB (cJ p1 2 bU) fun x4 h2=>oB (gR x4 bU) fun x6 h3=>oB (cJ p1 3 bU) fun x8 h4=>oB (s8 x8 bU) fun x10 h5=>oB (cJ p1 5 bU) fun x12 h6=>oB (iM x12 bU) fun x14 h7=>oB (cJ p1 6 bU) fun x16 h8=>TX (o7 x16 bU) fun x18 h9 h9B=>oB (cJ p1 4 bU) fun x20 h10=>?_
 have:=(aX:wl ([]:Z aV)=0∧_)
 have:=aB.wt_eq x20
 refine SE x20.aD7 4 (fun i21 v23 hl12 hI13 _ _=>?_) ?_
 ·have:=bA x20.aD7
  have:=cZ x20.aD7 i21 hl12
  refine oB (cJ (aR x20.aD7 i21) 0 bU) fun x27 h14=>oB (cJ (aR x20.aD7 i21) 1 bU) fun x29 h15=>oB (iM x29 bU) fun x31 h16=>?_
  have:=bA (v23)
  have:=aB.wt_eq x27
  have:=aV.wt_mk x27.aEa x31
  have:=cH (aV.mk x27.aEa x31)
  refine oG fun z17=>?_
  have:=b6 v23 ([(aV.mk x27.aEa x31)]:Z aV)
  exact rE
 intro v23 h11
 refine oB (cU p1 bU) fun x34 _=>?_;refine oW (fun g19=>?_) fun g19=>?_
 ·have:s_.size=0:=rfl
  have:=(aX:wl ([]:Z aA)=0∧_)
  have:=aA.wt_mk 0 s_ []
  have:=(aX:wl ([]:Z aL)=0∧_)
  have:=(aX:wl ([]:Z bW)=0∧_)
  have:=aL.wt_mk 0 s_ s_ 0 (aA.mk 0 s_ []) [] []
  have:=(aX:wl ([]:LB)=0∧_)
  have:=(aX:wl ([]:Z aF)=0∧_)
  have:=aO.wt_mk s_ [] [] [] (aA.mk 0 s_ []) (aL.mk 0 s_ s_ 0 (aA.mk 0 s_ []) [] [])
  exact oS
 have:=aB.wt_eq p1
 have:=bA p1.aD7
 refine oD (fun g20=>?_) fun g20=>?_
 ·have:s_.size=0:=rfl
  have:=(aX:wl ([]:Z aA)=0∧_)
  have:=aA.wt_mk 0 s_ []
  have:=(aX:wl ([]:Z aL)=0∧_)
  have:=(aX:wl ([]:Z bW)=0∧_)
  have:=aL.wt_mk 0 s_ s_ 0 (aA.mk 0 s_ []) [] []
  have:=(aX:wl ([]:LB)=0∧_)
  have:=(aX:wl ([]:Z aF)=0∧_)
  have:=aO.wt_mk s_ [] [] [] (aA.mk 0 s_ []) (aL.mk 0 s_ s_ 0 (aA.mk 0 s_ []) [] [])
  exact oS
 have:=aB.wt_eq x2
 have:=aO.wt_mk x2.aEa x6 x10 v23 x14 x18
 refine oB (uC (aO.mk x2.aEa x6 x10 v23 x14 x18) bU (by first|assumption|trivial)) fun x38 h21=>oB (gZ x38 p1 bU) fun x40 _=>?_;refine oW (fun g23=>?_) fun g23=>?_
 ·have:s_.size=0:=rfl
  have:=(aX:wl ([]:Z aA)=0∧_)
  have:=aA.wt_mk 0 s_ []
  have:=(aX:wl ([]:Z aL)=0∧_)
  have:=(aX:wl ([]:Z bW)=0∧_)
  have:=aL.wt_mk 0 s_ s_ 0 (aA.mk 0 s_ []) [] []
  have:=(aX:wl ([]:LB)=0∧_)
  have:=(aX:wl ([]:Z aF)=0∧_)
  have:=aO.wt_mk s_ [] [] [] (aA.mk 0 s_ []) (aL.mk 0 s_ s_ 0 (aA.mk 0 s_ []) [] [])
  exact oS
 exact oS
end Go.Proofs.YtfcoaagbccmahaaGreat.W

namespace Go.Proofs.YtfcoaagbccmahaaGreat.W
set_option maxRecDepth 20000
set_option maxHeartbeats 4000000
open Go.RowKit Go.WalkArith Go.IntWalk
def acF(fu:Nat):Prop:= ∀(ps:Y) (p4:UInt8),ps.size≤1073741824→Ok (wB fu ps p4) (fun r=>wl r≤ps.size+1)
theorem GM:bR acF:=(bR.ge 2147483648).imp fun fu hfu ps p4 hpre=>by
 have:=(aX:wl ([]:LB)=0∧_)
 refine Ok.sok (E:=fun(v4,v2,v3)=>wl v4≤ps.size+1) ?_ ?_
 ·refine Ok.loopW (fun(v4,v2,v3)=>0≤v2∧v2≤v3∧v3≤(ps.size:Int)+1∧(wl v4:Int)≤v2) (fun(v4,v2,v3)=>((ps.size:Int)+2-v3).toNat) ?_ _ _ bU bU
  rintro⟨v4,v2,v3⟩ hI3
  try dsimp only at hI3
  refine oD (fun g4=>?_) fun g4=>?_
  ·refine oD (fun g5=>?_) fun g5=>?_
   ·refine oG fun z6=>?_
    have:=bA (v4)
    have:=GE ps (v2:Int).toNat (v3:Int).toNat
    have:=cH (ps.extract (v2:Int).toNat (v3:Int).toNat)
    have:=aZ (ps.extract (v2:Int).toNat (v3:Int).toNat)
    refine oG fun z7=>?_
    have:=b6 v4 ([(ps.extract (v2:Int).toNat (v3:Int).toNat)]:LB)
    have:=fC (v3+1)
    exact rE
   refine oG fun z8=>?_;refine oD (fun g9=>?_) fun g9=>?_
   ·refine oG fun z10=>?_
    have:=bA (v4)
    have:=GE ps (v2:Int).toNat (v3:Int).toNat
    have:=cH (ps.extract (v2:Int).toNat (v3:Int).toNat)
    have:=aZ (ps.extract (v2:Int).toNat (v3:Int).toNat)
    refine oG fun z11=>?_
    have:=b6 v4 ([(ps.extract (v2:Int).toNat (v3:Int).toNat)]:LB)
    have:=fC (v3+1)
    exact rE
   have:=fC (v3+1)
   exact rE
  exact oK
 rintro⟨v4,v2,v3⟩ h1
 dsimp only at h1
 exact oS
def afM(fu:Nat):Prop:= ∀(ps:Y),ps.size≤1073741824→Ok (JT fu ps) (fun _=>True)
theorem JA:bR afM:=(bR.ge 2147483648).imp fun fu hfu ps hpre=>by
 refine IG ?_ ?_
 ·refine Ok.loop1 ?_;rintro i1 ⟨⟩ hl2
  exact oG fun z4=>oN (fun _=>oR) fun g5=>rE
 rintro⟨⟩-
 exact oS
def ai9(fu:Nat):Prop:= ∀(p1:Y×(LB)×(Z aU)×(Z aM)×(Z aI)×(Z aO)) (p2:aB),wt p2≤65536∧wl p1.2.2.1+wl p1.2.2.2.1+wl p1.2.2.2.2.1+wl p1.2.2.2.2.2≤1073741824→Ok (C2 fu p1 p2) (fun r=>r.2.1.size+wl r.2.2.1+wl r.2.2.2.1+wl r.2.2.2.2.1+wl r.2.2.2.2.2.1+wl r.2.2.2.2.2.2≤p1.1.size+wl p1.2.1+wl p1.2.2.1+wl p1.2.2.2.1+wl p1.2.2.2.2.1+wl p1.2.2.2.2.2+16*wt p2+1)
theorem NN:bR ai9:=((((((bR.ge 2147483648).and cJ).and zX).and uE).and uG).and uF).imp fun fu ⟨⟨⟨⟨⟨hfu,cJ⟩,zX⟩,uE⟩,uG⟩,uF⟩ p1 p2 hpre=>by
 have:=bA p1.2.2.1
 have:=bA p1.2.2.2.1
 have:=bA p1.2.2.2.2.1
 have:=bA p1.2.2.2.2.2
 refine oB (cJ p2 0 bU) fun x2 h1=>?_
 have:=aB.wt_eq x2
 have:rY.size=5:=rfl
 refine oD (fun g2=>?_) fun g2=>?_
 ·have:=congrArg ByteArray.size g2
  refine wJ (zX p2 bU) fun x5 x6 h3=>?_
  dsimp only at h3
  have:=bA (p1.2.2.1)
  have:=cH x5
  refine oG fun z4=>?_
  have:=b6 p1.2.2.1 ([x5]:Z aU)
  exact oS
 have:S4.size=4:=rfl
 refine oD (fun g5=>?_) fun g5=>?_
 ·have:=congrArg ByteArray.size g5
  refine wJ (uE p2 bU) fun x10 x11 h6=>?_
  dsimp only at h6
  have:=bA (p1.2.2.2.1)
  have:=cH x10
  refine oG fun z7=>?_
  have:=b6 p1.2.2.2.1 ([x10]:Z aM)
  exact oS
 have:S5.size=4:=rfl
 refine oD (fun g8=>?_) fun g8=>?_
 ·have:=congrArg ByteArray.size g8
  refine wJ (uG p2 bU) fun x15 x16 h9=>?_
  dsimp only at h9
  have:=bA (p1.2.2.2.2.1)
  have:=cH x15
  refine oG fun z10=>?_
  have:=b6 p1.2.2.2.2.1 ([x15]:Z aI)
  exact oS
 have:aoH.size=2:=rfl
 refine oD (fun g11=>?_) fun g11=>?_
 ·have:=congrArg ByteArray.size g11
  refine wJ (uF p2 bU) fun x20 x21 h12=>?_
  dsimp only at h12
  have:=cH x20
  refine oG fun z13=>?_
  have:=b6 p1.2.2.2.2.2 ([x20]:Z aO)
  exact oS
 exact oS
def afN(fu:Nat):Prop:= ∀(p0:aN),wt p0≤4194304→Ok (JU fu p0) (fun _=>True)
theorem JB:bR afN:=(bR.ge 2147483648).imp fun fu hfu p0 hpre=>by
 have:=(aX:wl ([]:LB)=0∧_)
 have:=aN.wt_eq p0
 refine SE p0.aEi 1 (fun i1 v3 hl2 hI3 _ _=>?_) ?_
 ·have:=bA p0.aEi
  have:=bA (v3)
  have:=cZ p0.aEi i1 hl2
  have:=aU.wt_eq (aR p0.aEi i1)
  have:=cH ((aR p0.aEi i1).aD4)
  have:=aZ ((aR p0.aEi i1).aD4)
  refine oG fun z4=>?_
  have:=b6 v3 ([((aR p0.aEi i1).aD4)]:LB)
  exact rE
 intro v3 h1
 refine Ok.sok (E:=fun(v10,v11)=>wl v10+1*wl (List.take 0 p0.aEd)≤wl ([]:LB)+1*wl p0.aEd∧wl v11+1*wl (List.take 0 p0.aEd)≤wl ([]:LB)+1*wl p0.aEd) ?_ ?_
 ·refine Ok.loop0 (fun i7 (v10,v11)=>wl v10+1*wl (List.take 0 p0.aEd)≤wl ([]:LB)+1*wl (List.take i7 p0.aEd)∧wl v11+1*wl (List.take 0 p0.aEd)≤wl ([]:LB)+1*wl (List.take i7 p0.aEd)) (by exact bU) (by rintro i7 ⟨v10,v11⟩-hI;have:=qF p0.aEd i7;(try dsimp only at hI ⊢);omega) ?_;rintro i7 ⟨v10,v11⟩ hl6 hI7
  dsimp only at hI7
  have:=bA p0.aEd
  have:=qG p0.aEd i7 hl6
  have:=qF p0.aEd (i7+1)
  have:=bA (v10)
  have:=cZ p0.aEd i7 hl6
  have:=aM.wt_eq (aR p0.aEd i7)
  have:=cH ((aR p0.aEd i7).aD4)
  have:=aZ ((aR p0.aEd i7).aD4)
  refine oG fun z8=>?_;refine SE ((aR p0.aEd i7).aD9) 1 (fun i15 v17 hl10 hI11 _ _=>?_) ?_
  ·have:=bA ((aR p0.aEd i7).aD9)
   have:=bA (v17)
   have:=cZ ((aR p0.aEd i7).aD9) i15 hl10
   have:=aC.wt_eq (aR ((aR p0.aEd i7).aD9) i15)
   have:=cH ((aR ((aR p0.aEd i7).aD9) i15).aD4)
   have:=aZ ((aR ((aR p0.aEd i7).aD9) i15).aD4)
   refine oG fun z12=>?_
   have:=b6 v17 ([((aR ((aR p0.aEd i7).aD9) i15).aD4)]:LB)
   exact rE
  intro v17 h9
  have:=b6 v10 ([((aR p0.aEd i7).aD4)]:LB)
  exact rE
 rintro⟨v10,v11⟩ h5
 dsimp only at h5
 refine SE p0.aEs 1 (fun i21 v23 hl14 hI15 _ _=>?_) ?_
 ·have:=bA p0.aEs
  have:=cZ p0.aEs i21 hl14
  refine Ok.lt fun y26 h16=>?_
  have:=congrArg wt h16
  have:=bA (v23)
  have:=aO.wt_eq y26
  have:=cH y26.aD4
  have:=aZ y26.aD4
  refine oG fun z17=>?_
  have:=b6 v23 ([y26.aD4]:LB)
  exact rE
 intro v23 h13
 exact oS
def afO(fu:Nat):Prop:= ∀(pp:aN),wt pp≤4194304→Ok (zF fu pp) (fun _=>True)
theorem JC:bR afO:=(((((bR.ge 2147483648).and mS).and kK).and kO).and kM).imp fun fu ⟨⟨⟨⟨hfu,mS⟩,kK⟩,kO⟩,kM⟩ pp hpre=>by
 refine IG ?_ ?_
 ·refine Ok.loop1 ?_;rintro i1 ⟨⟩ hl2
  have:=aN.wt_eq pp
  have:=bA pp.aEi
  have:=cZ pp.aEi i1 hl2
  exact oB (mS (aR pp.aEi i1) bU) fun x5 _=>oW (fun _=>oR) fun g5=>rE
 rintro⟨⟩-
 refine IG ?_ ?_
 ·refine Ok.loop1 ?_;rintro i7 ⟨⟩ hl7
  have:=aN.wt_eq pp
  have:=bA pp.aEd
  have:=cZ pp.aEd i7 hl7
  exact oB (kK (aR pp.aEd i7) bU) fun x11 _=>oW (fun _=>oR) fun g10=>rE
 rintro⟨⟩-
 refine IG ?_ ?_
 ·refine Ok.loop1 ?_;rintro i13 ⟨⟩ hl12
  have:=aN.wt_eq pp
  have:=bA pp.aEg
  have:=cZ pp.aEg i13 hl12
  refine Ok.lt fun y16 h14=>?_
  have:=congrArg wt h14
  exact oB (kO y16 bU) fun x19 _=>oW (fun _=>oR) fun g16=>rE
 rintro⟨⟩-
 refine IG ?_ ?_
 ·refine Ok.loop1 ?_;rintro i21 ⟨⟩ hl18
  have:=aN.wt_eq pp
  have:=bA pp.aEs
  have:=cZ pp.aEs i21 hl18
  refine Ok.lt fun y24 h20=>?_
  have:=congrArg wt h20
  exact oB (kM y24 bU) fun x27 _=>oW (fun _=>oR) fun g22=>rE
 rintro⟨⟩-
 exact oS
def OU(fu:Nat):Prop:= ∀(p0:aN),wt p0≤4194304→Ok (nH fu p0) (fun _=>True)
theorem vS:bR OU:=(((((((bR.ge 2147483648).and JB).and bO).and dJ).and eH).and eV).and JC).imp fun fu ⟨⟨⟨⟨⟨⟨hfu,JB⟩,bO⟩,dJ⟩,eH⟩,eV⟩,JC⟩ p0 hpre=>by
 refine oB4 (JB p0 bU) fun x2 x3 x4 x5 _=>?_
 have:=aN.wt_eq p0
 refine oB (bO p0.aD4) fun x7 _=>oW (fun _=>oS) fun g3=>oB (dJ p0.aEF 5) fun x10 _=>oW (fun _=>oS) fun g5=>oB (eH p0.aEF p0.aD4) fun x13 _=>oC (fun _=>oS) fun g7=>?_
 have:=bA p0.aEi
 have:=bA p0.aEd
 have:=fC ((p0.aEi.length:Int)+(p0.aEd.length:Int))
 have:=bA p0.aEg
 have:=fC ((aW ((p0.aEi.length:Int)+(p0.aEd.length:Int)))+(p0.aEg.length:Int))
 have:=bA p0.aEs
 have:=fC ((aW ((aW ((p0.aEi.length:Int)+(p0.aEd.length:Int)))+(p0.aEg.length:Int)))+(p0.aEs.length:Int))
 refine oD (fun _=>oS) fun g8=>oB (eV x2) fun x17 _=>?_;refine oC (fun g10=>?_) fun g10=>?_
 ·refine oB (eV x3) fun x20 _=>?_;refine oC (fun g12=>?_) fun g12=>?_
  ·refine oB (eV x4) fun x23 _=>?_;refine oC (fun g14=>?_) fun g14=>?_
   ·refine oB (eV x5) fun x26 _=>?_;refine oC (fun g16=>?_) fun g16=>?_
    ·exact oB (JC p0 bU) fun x29 _=>oS
    exact oS
   exact oS
  exact oS
 exact oS
def OV(fu:Nat):Prop:= ∀(p0:aB),wt p0≤65536→Ok (jU fu p0) (fun r=>wt r.1≤20*wt p0)
theorem vT:bR OV:=((((((bR.ge 2147483648).and cJ).and jA).and cU).and NN).and vS).imp fun fu ⟨⟨⟨⟨⟨hfu,cJ⟩,jA⟩,cU⟩,NN⟩,vS⟩ p0 hpre=>by
 refine oB (cJ p0 2 bU) fun x2 h1=>?_
 have:=aB.wt_eq x2
 refine wJ (jA x2.aD7 bU) fun x4 x5 h2=>?_
 dsimp only at h2
 refine oB (cJ p0 1 bU) fun x7 h3=>oB (cU p0 bU) fun x9 _=>?_;refine oW (fun g5=>?_) fun g5=>?_
 ·have:s_.size=0:=rfl
  have:=(aX:wl ([]:LB)=0∧_)
  have:=(aX:wl ([]:Z aU)=0∧_)
  have:=(aX:wl ([]:Z aM)=0∧_)
  have:=(aX:wl ([]:Z aI)=0∧_)
  have:=(aX:wl ([]:Z aO)=0∧_)
  have:=aN.wt_mk s_ [] [] [] [] []
  exact oS
 have:=aB.wt_eq p0
 have:=bA p0.aD7
 refine oD (fun g6=>?_) fun g6=>?_
 ·have:s_.size=0:=rfl
  have:=(aX:wl ([]:LB)=0∧_)
  have:=(aX:wl ([]:Z aU)=0∧_)
  have:=(aX:wl ([]:Z aM)=0∧_)
  have:=(aX:wl ([]:Z aI)=0∧_)
  have:=(aX:wl ([]:Z aO)=0∧_)
  have:=aN.wt_mk s_ [] [] [] [] []
  exact oS
 have:=bA (p0.aD7)
 refine oG fun z7=>?_
 have:=cZ p0.aD7 0 z7
 have:wl (List.take 1 p0.aD7)=wl (List.take 0 p0.aD7)+wt (aR p0.aD7 0)+1:=MM p0.aD7 0 z7
 have:=aB.wt_eq (aR p0.aD7 0)
 have:abT.size=7:=rfl
 refine oN (fun g8=>?_) fun g8=>?_
 ·have:s_.size=0:=rfl
  have:=(aX:wl ([]:LB)=0∧_)
  have:=(aX:wl ([]:Z aU)=0∧_)
  have:=(aX:wl ([]:Z aM)=0∧_)
  have:=(aX:wl ([]:Z aI)=0∧_)
  have:=(aX:wl ([]:Z aO)=0∧_)
  have:=aN.wt_mk s_ [] [] [] [] []
  exact oS
 have:=congrArg ByteArray.size g8
 refine oG fun z9=>?_
 have:=cZ p0.aD7 2 z9
 have:wl (List.take 3 p0.aD7)=wl (List.take 2 p0.aD7)+wt (aR p0.aD7 2)+1:=MM p0.aD7 2 z9
 have:=aB.wt_eq (aR p0.aD7 2)
 have:s_.size=0:=rfl
 refine oN (fun g10=>?_) fun g10=>?_
 ·have:=IV g10
  have:=(aX:wl ([]:LB)=0∧_)
  have:=(aX:wl ([]:Z aU)=0∧_)
  have:=(aX:wl ([]:Z aM)=0∧_)
  have:=(aX:wl ([]:Z aI)=0∧_)
  have:=(aX:wl ([]:Z aO)=0∧_)
  have:=aN.wt_mk s_ [] [] [] [] []
  exact oS
 refine oW (fun g11=>?_) fun g11=>?_
 ·have:=(aX:wl ([]:LB)=0∧_)
  have:=(aX:wl ([]:Z aU)=0∧_)
  have:=(aX:wl ([]:Z aM)=0∧_)
  have:=(aX:wl ([]:Z aI)=0∧_)
  have:=(aX:wl ([]:Z aO)=0∧_)
  have:=aN.wt_mk s_ [] [] [] [] []
  exact oS
 have:=(aX:wl ([]:Z aU)=0∧_)
 have:=(aX:wl ([]:Z aM)=0∧_)
 have:=(aX:wl ([]:Z aI)=0∧_)
 have:=(aX:wl ([]:Z aO)=0∧_)
 have:=aB.wt_eq x7
 refine Ok.sok (E:=fun(v18,v19,v24,v25,v26,v27)=>v18.size+wl v19+wl v24+wl v25+wl v26+wl v27≤x7.aEa.size+wl x4+16*wl p0.aD7) ?_ ?_
 ·refine Ok.loop0 (fun i17 (v18,v19,v24,v25,v26,v27)=>v18.size+wl v19+wl v24+wl v25+wl v26+wl v27≤x7.aEa.size+wl x4+16*wl (List.take i17 p0.aD7)) (by exact bU) (by rintro i17 ⟨v18,v19,v24,v25,v26,v27⟩-hI;have:=qF p0.aD7 i17;(try dsimp only at hI ⊢);omega) ?_;rintro i17 ⟨v18,v19,v24,v25,v26,v27⟩ hl13 hI14
  dsimp only at hI14
  have:=qG p0.aD7 i17 hl13
  have:=qF p0.aD7 (i17+1)
  have:=cZ p0.aD7 i17 hl13
  refine wJ (NN (v18,v19,v24,v25,v26,v27) (aR p0.aD7 i17) bU) fun x31 x32 h15=>?_
  dsimp only at h15
  refine oW (fun g16=>?_) fun g16=>?_
  ·have:=(aX:wl ([]:LB)=0∧_)
   have:=(aX:wl ([]:Z aU)=0∧_)
   have:=(aX:wl ([]:Z aM)=0∧_)
   have:=(aX:wl ([]:Z aI)=0∧_)
   have:=(aX:wl ([]:Z aO)=0∧_)
   have:=aN.wt_mk s_ [] [] [] [] []
   exact oR
  exact rE
 rintro⟨v18,v19,v24,v25,v26,v27⟩ h12
 dsimp only at h12
 have:=aN.wt_mk v18 v19 v24 v25 v26 v27
 refine oB (vS (aN.mk v18 v19 v24 v25 v26 v27) bU) fun x35 _=>?_;refine oW (fun g18=>?_) fun g18=>?_
 ·have:=(aX:wl ([]:LB)=0∧_)
  have:=(aX:wl ([]:Z aU)=0∧_)
  have:=(aX:wl ([]:Z aM)=0∧_)
  have:=(aX:wl ([]:Z aI)=0∧_)
  have:=(aX:wl ([]:Z aO)=0∧_)
  have:=aN.wt_mk s_ [] [] [] [] []
  exact oS
 exact oS
def UL(fu:Nat):Prop:= ∀(ps:Y),ps.size≤16384→Ok (mV fu ps) (fun r=>wt r.1≤40*ps.size)
theorem zV:bR UL:=(((bR.ge 2147483648).and EK).and vT).imp fun fu ⟨⟨hfu,EK⟩,vT⟩ ps hpre=>by
 refine wJ (EK ps bU) fun x2 x3 h1=>?_
 dsimp only at h1
 refine oW (fun g2=>?_) fun g2=>?_
 ·have:s_.size=0:=rfl
  have:=(aX:wl ([]:LB)=0∧_)
  have:=(aX:wl ([]:Z aU)=0∧_)
  have:=(aX:wl ([]:Z aM)=0∧_)
  have:=(aX:wl ([]:Z aI)=0∧_)
  have:=(aX:wl ([]:Z aO)=0∧_)
  have:=aN.wt_mk s_ [] [] [] [] []
  exact oS
 refine wJ (vT x2 bU) fun x6 x7 h3=>?_
 dsimp only at h3
 exact oS
def UM(fu:Nat):Prop:= ∀(ps:Y),ps.size≤8192→Ok (lP fu ps) (fun r=>wt r.1≤40*(ps.size+1))
theorem zW:bR UM:=((((bR.ge 2147483648).and GM).and JA).and zV).imp fun fu ⟨⟨⟨hfu,GM⟩,JA⟩,zV⟩ ps hpre=>by
 refine oB (GM ps (10:UInt8) bU) fun x2 h1=>?_
 have:=(aX:wl ([]:Z aN)=0∧_)
 refine SE x2 40 (fun i3 v5 hl3 hI4 _ _=>?_) ?_
 ·have:=bA x2
  have:=cZ x2 i3 hl3
  have:=aZ (aR x2 i3)
  refine oB (JA (aR x2 i3) bU) fun x9 _=>oC (fun _=>rE) fun g6=>wJ (zV (aR x2 i3) bU) fun x12 x13 h7=>?_
  dsimp only at h7
  refine oW (fun g8=>?_) fun g8=>?_
  ·have:=aH.wt_mk []
   have:=bA v5
   exact oR
  have:=bA v5
  refine oD (fun g9=>?_) fun g9=>?_
  ·have:=aH.wt_mk []
   exact oR
  have:=bA (v5)
  have:=cH x12
  refine oG fun z10=>?_
  have:=b6 v5 ([x12]:Z aN)
  exact rE
 intro v5 h2
 have:=aH.wt_mk v5
 exact oS
def ai8(fu:Nat):Prop:= ∀(pc:DS),Ok (C1 fu pc) (fun r=>r.1.size≤4000)
theorem NM:bR ai8:=(bR.ge 2147483648).imp fun fu hfu pc=>by
 have:cV.size=110:=rfl
 have:cW.size=156:=rfl
 refine oG fun z1=>?_
 have:=eG cV cW
 have:c6.size=119:=rfl
 refine oG fun z2=>?_
 have:=eG (cV++cW) c6
 have:dH.size=86:=rfl
 refine oG fun z3=>Ok.lt fun d4 h4=>?_;refine oC (fun g5=>?_) fun g5=>?_
 ·have:=eG ((cV++cW)++c6) dH
  have:kC.size=120:=rfl
  refine oG fun z6=>?_
  have:=eG (((cV++cW)++c6)++dH) kC
  have:eK.size=127:=rfl
  refine oG fun z7=>?_
  have:=eG ((((cV++cW)++c6)++dH)++kC) eK
  have:fE.size=95:=rfl
  refine oG fun z8=>?_
  have:=eG (((((cV++cW)++c6)++dH)++kC)++eK) fE
  have:gH.size=107:=rfl
  refine oG fun z9=>?_
  have:=eG ((((((cV++cW)++c6)++dH)++kC)++eK)++fE) gH
  have:jD.size=51:=rfl
  refine oG fun z10=>?_
  have:=eG (((((((cV++cW)++c6)++dH)++kC)++eK)++fE)++gH) jD
  have:lR.size=140:=rfl
  refine oG fun z11=>?_
  have:=eG ((((((((cV++cW)++c6)++dH)++kC)++eK)++fE)++gH)++jD) lR
  have:qO.size=90:=rfl
  refine oG fun z12=>?_
  have:=eG (((((((((cV++cW)++c6)++dH)++kC)++eK)++fE)++gH)++jD)++lR) qO
  have:DA.size=1:=rfl
  refine oG fun z13=>?_
  have:=eG ((((((((((cV++cW)++c6)++dH)++kC)++eK)++fE)++gH)++jD)++lR)++qO) DA
  exact oS
 have:=eG ((cV++cW)++c6) dH
 have:kD.size=147:=rfl
 refine oG fun z14=>?_
 have:=eG (((cV++cW)++c6)++dH) kD
 have:eK.size=127:=rfl
 refine oG fun z15=>?_
 have:=eG ((((cV++cW)++c6)++dH)++kD) eK
 have:fE.size=95:=rfl
 refine oG fun z16=>?_
 have:=eG (((((cV++cW)++c6)++dH)++kD)++eK) fE
 have:gH.size=107:=rfl
 refine oG fun z17=>?_
 have:=eG ((((((cV++cW)++c6)++dH)++kD)++eK)++fE) gH
 have:jD.size=51:=rfl
 refine oG fun z18=>?_
 have:=eG (((((((cV++cW)++c6)++dH)++kD)++eK)++fE)++gH) jD
 have:lR.size=140:=rfl
 refine oG fun z19=>?_
 have:=eG ((((((((cV++cW)++c6)++dH)++kD)++eK)++fE)++gH)++jD) lR
 have:qO.size=90:=rfl
 refine oG fun z20=>?_
 have:=eG (((((((((cV++cW)++c6)++dH)++kD)++eK)++fE)++gH)++jD)++lR) qO
 have:DA.size=1:=rfl
 refine oG fun z21=>?_
 have:=eG ((((((((((cV++cW)++c6)++dH)++kD)++eK)++fE)++gH)++jD)++lR)++qO) DA
 exact oS
def amY(fu:Nat):Prop:= ∀(pc:DS),Ok (FZ fu pc) (fun r=>r.1.size≤3000)
theorem R4:bR amY:=(bR.ge 2147483648).imp fun fu hfu pc=>by
 refine Ok.sok (E:=fun(v1,v2)=>v1.size≤1000) ?_ ?_
 ·refine Ok.lt fun d3 h2=>?_;refine oC (fun g3=>?_) fun g3=>?_
  ·have:fD.size=50:=rfl
   have:PE.size=38:=rfl
   refine oG fun z4=>?_
   have:=eG fD PE
   exact oI
  refine oC (fun g5=>?_) fun g5=>?_
  ·have:fD.size=50:=rfl
   have:PC.size=64:=rfl
   refine oG fun z6=>?_
   have:=eG fD PC
   exact oI
  refine oC (fun g7=>?_) fun g7=>?_
  ·have:fD.size=50:=rfl
   have:O5.size=83:=rfl
   refine oG fun z8=>?_
   have:=eG fD O5
   exact oI
  refine oC (fun g9=>?_) fun g9=>?_
  ·have:fD.size=50:=rfl
   have:O7.size=45:=rfl
   refine oG fun z10=>?_
   have:=eG fD O7
   exact oI
  refine oC (fun g11=>?_) fun g11=>?_
  ·have:fD.size=50:=rfl
   have:O6.size=90:=rfl
   refine oG fun z12=>?_
   have:=eG fD O6
   exact oI
  refine oC (fun g13=>?_) fun g13=>?_
  ·have:fD.size=50:=rfl
   have:PB.size=45:=rfl
   refine oG fun z14=>?_
   have:=eG fD PB
   exact oI
  have:fD.size=50:=rfl
  have:O8.size=64:=rfl
  refine oG fun z15=>?_
  have:=eG fD O8
  exact oI
 rintro⟨v1,v2⟩ h1
 dsimp only at h1
 have:n8.size=23:=rfl
 refine oG fun z16=>?_
 have:B6.size=13:=rfl
 have:B5.size=68:=rfl
 have:B4.size=29:=rfl
 have:B7.size=43:=rfl
 have:B3.size=68:=rfl
 have:CA.size=25:=rfl
 have:CB.size=29:=rfl
 have:B8.size=45:=rfl
 have:B9.size=65:=rfl
 have:BZ.size=43:=rfl
 have:wl ([B6,B5,B4,B7,B3,CA,CB,B8,B9,BZ]:LB)=438:=rfl
 refine Ok.lt fun d19 h17=>Ok.lt fun y21 h18=>?_
 have:=congrArg wt h18
 simp only [aZ] at this
 have:y21.size≤200:=by rw [h18];exact DS.pick_size _ (by decide) (by decide)
 have:=eG v1 n8
 refine oG fun z19=>?_
 have:=eG (v1++n8) y21
 have:DA.size=1:=rfl
 refine oG fun z20=>?_;refine Ok.sok (E:=fun(v25,v26)=>v25.size≤2000) ?_ ?_
 ·refine Ok.lt fun d27 h22=>?_;refine oC (fun g23=>?_) fun g23=>?_
  ·have:=eG ((v1++n8)++y21) DA
   have:O9.size=83:=rfl
   refine oG fun z24=>?_
   have:=eG (((v1++n8)++y21)++DA) O9
   exact oI
  have:=eG ((v1++n8)++y21) DA
  exact oI
 rintro⟨v25,v26⟩ h21
 dsimp only at h21
 refine Ok.sok (E:=fun(v31,v32)=>v31.size≤2500) ?_ ?_
 ·refine Ok.lt fun d33 h26=>?_;refine oC (fun g27=>?_) fun g27=>?_
  ·have:PD.size=77:=rfl
   refine oG fun z28=>?_
   have:=eG v25 PD
   exact oI
  exact oI
 rintro⟨v31,v32⟩ h25
 dsimp only at h25
 refine Ok.lt fun d37 h29=>?_;refine oC (fun g30=>?_) fun g30=>?_
 ·have:FB.size=113:=rfl
  refine oG fun z31=>?_
  have:=eG v31 FB
  refine oG fun z32=>?_
  have:=eG (v31++FB) DA
  exact oS
 refine oG fun z33=>?_
 have:=eG v31 DA
 exact oS
def UP(fu:Nat):Prop:= ∀(pc:DS),Ok (q8 fu pc) (fun r=>r.1.size≤7001)
theorem zZ:bR UP:=(((bR.ge 2147483648).and NM).and R4).imp fun fu ⟨⟨hfu,NM⟩,R4⟩ pc=>by
 refine wJ (NM pc) fun x2 x3 h1=>?_
 dsimp only at h1
 refine Ok.lt fun d4 h2=>oC (fun _=>oS) fun g3=>?_
 have:VC.size=1:=rfl
 refine oG fun z4=>wJ (R4 d4) fun x9 x10 h5=>?_
 dsimp only at h5
 have:=eG x2 VC
 refine oG fun z6=>?_
 have:=eG (x2++VC) x9
 exact oS
def ajA(fu:Nat):Prop:= ∀(pc:DS),Ok (C3 fu pc) (fun r=>wt r.1≤327680)
theorem NO:bR ajA:=(((bR.ge 2147483648).and zZ).and zW).imp fun fu ⟨⟨hfu,zZ⟩,zW⟩ pc=>by
 refine wJ (zZ pc) fun x2 x3 h1=>?_
 dsimp only at h1
 refine wJ (zW x2 bU) fun x5 x6 h2=>?_
 dsimp only at h2
 have:=aH.wt_eq x5
 have:=aH.wt_mk x5.aD3
 exact oS
def bT:Nat→Nat
 |0=>1000
 |n+1=>2*bT n+20
theorem al0: ∀n:Nat,1000≤bT n
 |0=>Nat.le_refl _
 |n+1=>by unfold bT;have:=al0 n;omega
theorem arT(x:Int):0<x∧x≤4→bT x.toNat=2*bT (aW (x-1)).toNat+20:=fun h=>by
 rw [fC (x-1) (by omega)]
 obtain⟨n,rfl⟩: ∃n:Nat,x=((n+1:Nat):Int):=⟨x.toNat-1,by omega⟩
 have e:(((n+1:Nat):Int)-1).toNat=n:=by omega
 rw [e]
 simp only [Int.toNat_natCast]
 rfl
theorem al1(x:Int):x≤4→bT x.toNat≤20000:=fun h=>by
 have:x.toNat=0∨x.toNat=1∨x.toNat=2∨x.toNat=3∨x.toNat=4:=by omega
 rcases this with h|h|h|h|h<;>rw [h]<;>decide
def bX:Nat→Nat
 |0=>3000
 |n+1=>4*bX n+22000
theorem apL: ∀n:Nat,3000≤bX n
 |0=>Nat.le_refl _
 |n+1=>by unfold bX;have:=apL n;omega
theorem arU(x:Int):0<x∧x≤4→bX x.toNat=4*bX (aW (x-1)).toNat+22000:=fun h=>by
 rw [fC (x-1) (by omega)]
 obtain⟨n,rfl⟩: ∃n:Nat,x=((n+1:Nat):Int):=⟨x.toNat-1,by omega⟩
 have e:(((n+1:Nat):Int)-1).toNat=n:=by omega
 rw [e]
 simp only [Int.toNat_natCast]
 rfl
theorem atE(x:Int):x≤3→bX x.toNat≤1000000:=fun h=>by
 have:x.toNat=0∨x.toNat=1∨x.toNat=2∨x.toNat=3:=by omega
 rcases this with h|h|h|h<;>rw [h]<;>decide
theorem acO:bT (1:Int).toNat=2020:=rfl
theorem at1:bX (2:Int).toNat=158000:=rfl
theorem ajE:bT (2:Int).toNat=4060:=rfl
attribute [local irreducible] wt wl bT bX lt
def alS(fu:Nat):Prop:= ∀(pc:DS) (p3:LB) (p2:Int),wl p3≤1000∧ -100≤p2∧p2≤4→Ok (lY fu pc p3 p2) (fun r=>wt r.1≤bT p2.toNat)
def acB(n:Nat)(m:K6):Prop:= ∀(pc:DS) (p3:LB) (p2:Int),p2.toNat<n→wl p3≤1000∧ -100≤p2∧p2≤4→Ok (m pc p3 p2) (fun r=>wt r.1≤bT p2.toNat)
theorem aqX{n fu:Nat}(hfu:2147483648≤fu)(eT:V4 fu)(dY:V3 fu){pH:K6}(p8:acB n pH):acB (n+1) (VP fu pH):=by
 intro pc p3 p2 hm hpre
 have:=al0 p2.toNat
 have:=al0 (aW (p2-1)).toNat
 have:=arT p2
 have:=al1 (aW (p2-1))
 refine Ok.lt fun d1 h1=>?_;refine oC (fun g2=>?_) fun g2=>?_
 ·have:=bA p3
  refine oD (fun g3=>?_) fun g3=>?_
  ·refine Ok.lt fun d5 h4=>?_
   have:=anF d1 p3.length
   have:=bA (p3)
   refine oG fun z5=>?_
   have:=cZ p3 (d1.below p3.length) z5
   have:=aZ (aR p3 (d1.below p3.length))
   refine oB (eT (aR p3 (d1.below p3.length))) fun x9 h6=>?_
   have:=aA.wt_eq x9
   have:=aA.wt_mk x9.aD8 x9.aD4 x9.aD5
   exact oS
  refine oC (fun g7=>?_) fun g7=>?_
  ·have:eY.size=3:=rfl
   have:eQ.size=4:=rfl
   have:j9.size=4:=rfl
   have:=GP eY eQ j9
   have:=aZ eY
   have:=aZ eQ
   have:=aZ j9
   refine Ok.lt fun d11 h8=>Ok.lt fun y13 h9=>?_
   have:=congrArg wt h9
   simp only [aZ] at this
   have:y13.size≤4:=by rw [h9];exact DS.pick_size _ (by decide) (by decide)
   have:=(aX:wl ([]:Z aA)=0∧_)
   refine oB (dY y13 ([]:Z aA) bU) fun x16 h10=>?_
   have:=aA.wt_eq x16
   have:=aA.wt_mk x16.aD8 x16.aD4 x16.aD5
   exact oS
  refine oD (fun g11=>?_) fun g11=>?_
  ·have:eY.size=3:=rfl
   have:eQ.size=4:=rfl
   have:j9.size=4:=rfl
   have:=GP eY eQ j9
   have:=aZ eY
   have:=aZ eQ
   have:=aZ j9
   refine Ok.lt fun d18 h12=>Ok.lt fun y20 h13=>?_
   have:=congrArg wt h13
   simp only [aZ] at this
   have:y20.size≤4:=by rw [h13];exact DS.pick_size _ (by decide) (by decide)
   have:=(aX:wl ([]:Z aA)=0∧_)
   refine oB (dY y20 ([]:Z aA) bU) fun x23 h14=>?_
   have:=aA.wt_eq x23
   have:=aA.wt_mk x23.aD8 x23.aD4 x23.aD5
   exact oS
  refine oC (fun g15=>?_) fun g15=>?_
  ·have:=fC (p2-1)
   refine wJ (p8 d1 p3 (aW (p2-1)) bU bU) fun x26 x27 h16=>?_
   dsimp only at h16
   refine wJ (p8 x27 p3 (aW (p2-1)) bU bU) fun x29 x30 h17=>?_
   dsimp only at h17
   have:uQ.size=4:=rfl
   have:=aA.wt_eq x26
   have:=aA.wt_mk x26.aD8 x26.aD4 x26.aD5
   have:=aA.wt_eq x29
   have:=aA.wt_mk x29.aD8 x29.aD4 x29.aD5
   have:=lJ (aA.mk x26.aD8 x26.aD4 x26.aD5) (aA.mk x29.aD8 x29.aD4 x29.aD5)
   refine oB (dY uQ ([(aA.mk x26.aD8 x26.aD4 x26.aD5),(aA.mk x29.aD8 x29.aD4 x29.aD5)]:Z aA) bU) fun x32 h18=>?_
   have:=aA.wt_eq x32
   have:=aA.wt_mk x32.aD8 x32.aD4 x32.aD5
   exact oS
  have:cM.size=4:=rfl
  have:zB.size=3:=rfl
  have:=GP cM cM zB
  have:=aZ cM
  have:=aZ zB
  refine Ok.lt fun d33 h19=>Ok.lt fun y35 h20=>?_
  have:=congrArg wt h20
  simp only [aZ] at this
  have:y35.size≤4:=by rw [h20];exact DS.pick_size _ (by decide) (by decide)
  have:=fC (p2-1)
  refine wJ (p8 d33 p3 (aW (p2-1)) bU bU) fun x38 x39 h21=>?_
  dsimp only at h21
  have:=aA.wt_eq x38
  have:=aA.wt_mk x38.aD8 x38.aD4 x38.aD5
  have:=cH (aA.mk x38.aD8 x38.aD4 x38.aD5)
  refine oB (dY y35 ([(aA.mk x38.aD8 x38.aD4 x38.aD5)]:Z aA) bU) fun x41 h22=>?_
  have:=aA.wt_eq x41
  have:=aA.wt_mk x41.aD8 x41.aD4 x41.aD5
  exact oS
 refine oC (fun g23=>?_) fun g23=>?_
 ·have:eY.size=3:=rfl
  have:eQ.size=4:=rfl
  have:j9.size=4:=rfl
  have:=GP eY eQ j9
  have:=aZ eY
  have:=aZ eQ
  have:=aZ j9
  refine Ok.lt fun d43 h24=>Ok.lt fun y45 h25=>?_
  have:=congrArg wt h25
  simp only [aZ] at this
  have:y45.size≤4:=by rw [h25];exact DS.pick_size _ (by decide) (by decide)
  have:=(aX:wl ([]:Z aA)=0∧_)
  refine oB (dY y45 ([]:Z aA) bU) fun x48 h26=>?_
  have:=aA.wt_eq x48
  have:=aA.wt_mk x48.aD8 x48.aD4 x48.aD5
  exact oS
 refine oD (fun g27=>?_) fun g27=>?_
 ·have:eY.size=3:=rfl
  have:eQ.size=4:=rfl
  have:j9.size=4:=rfl
  have:=GP eY eQ j9
  have:=aZ eY
  have:=aZ eQ
  have:=aZ j9
  refine Ok.lt fun d50 h28=>Ok.lt fun y52 h29=>?_
  have:=congrArg wt h29
  simp only [aZ] at this
  have:y52.size≤4:=by rw [h29];exact DS.pick_size _ (by decide) (by decide)
  have:=(aX:wl ([]:Z aA)=0∧_)
  refine oB (dY y52 ([]:Z aA) bU) fun x55 h30=>?_
  have:=aA.wt_eq x55
  have:=aA.wt_mk x55.aD8 x55.aD4 x55.aD5
  exact oS
 refine oC (fun g31=>?_) fun g31=>?_
 ·have:=fC (p2-1)
  refine wJ (p8 d1 p3 (aW (p2-1)) bU bU) fun x58 x59 h32=>?_
  dsimp only at h32
  refine wJ (p8 x59 p3 (aW (p2-1)) bU bU) fun x61 x62 h33=>?_
  dsimp only at h33
  have:uQ.size=4:=rfl
  have:=aA.wt_eq x58
  have:=aA.wt_mk x58.aD8 x58.aD4 x58.aD5
  have:=aA.wt_eq x61
  have:=aA.wt_mk x61.aD8 x61.aD4 x61.aD5
  have:=lJ (aA.mk x58.aD8 x58.aD4 x58.aD5) (aA.mk x61.aD8 x61.aD4 x61.aD5)
  refine oB (dY uQ ([(aA.mk x58.aD8 x58.aD4 x58.aD5),(aA.mk x61.aD8 x61.aD4 x61.aD5)]:Z aA) bU) fun x64 h34=>?_
  have:=aA.wt_eq x64
  have:=aA.wt_mk x64.aD8 x64.aD4 x64.aD5
  exact oS
 have:cM.size=4:=rfl
 have:zB.size=3:=rfl
 have:=GP cM cM zB
 have:=aZ cM
 have:=aZ zB
 refine Ok.lt fun d65 h35=>Ok.lt fun y67 h36=>?_
 have:=congrArg wt h36
 simp only [aZ] at this
 have:y67.size≤4:=by rw [h36];exact DS.pick_size _ (by decide) (by decide)
 have:=fC (p2-1)
 refine wJ (p8 d65 p3 (aW (p2-1)) bU bU) fun x70 x71 h37=>?_
 dsimp only at h37
 have:=aA.wt_eq x70
 have:=aA.wt_mk x70.aD8 x70.aD4 x70.aD5
 have:=cH (aA.mk x70.aD8 x70.aD4 x70.aD5)
 refine oB (dY y67 ([(aA.mk x70.aD8 x70.aD4 x70.aD5)]:Z aA) bU) fun x73 h38=>?_
 have:=aA.wt_eq x73
 have:=aA.wt_mk x73.aD8 x73.aD4 x73.aD5
 exact oS
theorem asZ(n:Nat):bR fun fu=>acB n (lY fu):=by
 induction n with
 |zero=>exact .all fun fu=>fun _ _ _ h=>absurd h (Nat.not_lt_zero _)
 |succ n ih=>exact bR.succ ((ih.and (((bR.ge 2147483648).and eT).and dY)).imp fun fu ⟨h,⟨⟨hfu,eT⟩,dY⟩⟩=>fun pc p3 p2=>by rw [lY];exact aqX hfu eT dY h pc p3 p2)
theorem rV:bR alS:=(asZ 100).imp fun fu h pc p3 p2 hpre=>h pc p3 p2 bU hpre
def am2(fu:Nat):Prop:= ∀(pt:aA),wt pt≤268435456→Ok (iS fu pt) (fun r=>wt r≤wt pt)
def J4(n:Nat)(m:tI):Prop:= ∀(pt:aA),2*wt pt+1<n→wt pt≤268435456→Ok (m pt) (fun r=>wt r≤wt pt)
def DG(n:Nat)(m:nM):Prop:= ∀(p7:Z aA),2*wl p7<n→wl p7≤268435456→Ok (m p7) (fun r=>wl r≤wl p7)
theorem ak7{n fu:Nat}(hfu:2147483648≤fu){p5:tI}(pE:J4 n p5){p4:nM}(p9:DG n p4):J4 (n+1) (K0 fu p5 p4):=by
 intro pt hm hpre
 have:=aA.wt_eq pt
 refine oB (p9 pt.aD5 bU bU) fun x2 h1=>?_
 have:=aA.wt_mk pt.aD8 pt.aD4 x2
 exact oS
theorem aeR{n fu:Nat}(hfu:2147483648≤fu){p5:tI}(pE:J4 n p5){p4:nM}(p9:DG n p4):DG (n+1) (zI fu p5 p4):=by
 intro p7 hm hpre
 have:=(aX:wl ([]:Z aA)=0∧_)
 refine SE p7 1 (fun i1 v3 hl2 hI3 _ _=>?_) ?_
 ·have:=bA p7
  have:=cZ p7 i1 hl2
  refine oB (pE (aR p7 i1) bU bU) fun x7 h4=>?_
  have:=bA (v3)
  have:=cH x7
  refine oG fun z5=>?_
  have:=b6 v3 ([x7]:Z aA)
  exact rE
 intro v3 h1
 exact oS
theorem aoP(n:Nat):bR fun fu=>J4 n (iS fu)∧DG n (iP fu):=by
 induction n with
 |zero=>exact .all fun fu=>⟨fun _ h=>absurd h (Nat.not_lt_zero _),fun _ h=>absurd h (Nat.not_lt_zero _)⟩
 |succ n ih=>exact bR.succ ((ih.and (bR.ge 2147483648)).imp fun fu ⟨h,hfu⟩=>⟨fun pt=>by rw [iS];exact ak7 hfu h.1 h.2 pt,fun p7=>by rw [iP];exact aeR hfu h.1 h.2 p7⟩)
theorem R8:bR am2:=(aoP 8589934592).imp fun fu h pt hpre=>h.1 pt bU hpre
def am6(fu:Nat):Prop:= ∀(pA:Y) (pt:aA),pA.size+wt pt≤67108864→Ok (F4 fu pA pt) (fun r=>wt r≤pA.size+wt pt+1)
theorem KN:bR am6:=((bR.ge 2147483648).and R8).imp fun fu ⟨hfu,R8⟩ pA pt hpre=>by
 refine oB (R8 pt bU) fun x2 h1=>?_
 have:=cH x2
 have:=aA.wt_mk 3 pA ([x2]:Z aA)
 exact oS
def am4(fu:Nat):Prop:= ∀(pc:DS) (p2:Int),-100≤p2∧p2≤4→Ok (rN fu pc p2) (fun r=>wt r.1≤bT p2.toNat+60)
theorem lL:bR am4:=((((bR.ge 2147483648).and rV).and KN).and dY).imp fun fu ⟨⟨⟨hfu,rV⟩,KN⟩,dY⟩ pc p2 hpre=>by
 have:=al0 p2.toNat
 have:=al1 p2
 have:gA.size=1:=rfl
 have:AD.size=1:=rfl
 have:=lJ gA AD
 have:=aZ gA
 have:=aZ AD
 refine wJ (rV pc ([gA,AD]:LB) p2 bU) fun x2 x3 h1=>?_
 dsimp only at h1
 refine Ok.lt fun d4 h2=>?_;refine oC (fun g3=>?_) fun g3=>?_
 ·have:eB.size=3:=rfl
  have:bD.size=4:=rfl
  have:=lJ eB bD
  have:=aZ eB
  have:=aZ bD
  refine Ok.lt fun d7 h4=>Ok.lt fun y9 h5=>?_
  have:=congrArg wt h5
  simp only [aZ] at this
  have:y9.size≤4:=by rw [h5];exact DS.pick_size _ (by decide) (by decide)
  have:=aA.wt_eq x2
  have:=aA.wt_mk x2.aD8 x2.aD4 x2.aD5
  refine oB (KN y9 (aA.mk x2.aD8 x2.aD4 x2.aD5) bU) fun x12 h6=>?_
  have:=aA.wt_eq x12
  have:=aA.wt_mk x12.aD8 x12.aD4 x12.aD5
  exact oS
 refine oC (fun g7=>?_) fun g7=>?_
 ·have:eB.size=3:=rfl
  have:=aA.wt_eq x2
  have:=aA.wt_mk x2.aD8 x2.aD4 x2.aD5
  refine oB (KN eB (aA.mk x2.aD8 x2.aD4 x2.aD5) bU) fun x15 h8=>?_
  have:cM.size=4:=rfl
  have:=aA.wt_eq x15
  have:=aA.wt_mk x15.aD8 x15.aD4 x15.aD5
  have:=cH (aA.mk x15.aD8 x15.aD4 x15.aD5)
  refine oB (dY cM ([(aA.mk x15.aD8 x15.aD4 x15.aD5)]:Z aA) bU) fun x17 h9=>?_
  have:=aA.wt_eq x17
  have:=aA.wt_mk x17.aD8 x17.aD4 x17.aD5
  exact oS
 refine oC (fun g10=>?_) fun g10=>?_
 ·have:bD.size=4:=rfl
  have:=(aX:wl ([]:Z aA)=0∧_)
  have:=aA.wt_mk 4 bD []
  exact oS
 have:=aA.wt_eq x2
 have:=aA.wt_mk x2.aD8 x2.aD4 x2.aD5
 exact oS
def afE(fu:Nat):Prop:= ∀(pk:Int) (pG:Y) (pC:Z aL),pG.size+wl pC≤67108864→Ok (wC fu pk pG pC) (fun r=>wt r=pG.size+wl pC)
theorem oF:bR afE:=(bR.ge 2147483648).imp fun fu hfu pk pG pC hpre=>by
 have:=(aX:wl ([]:Z aL)=0∧_)
 have:=bA (pC)
 refine oG fun z1=>?_
 have:s_.size=0:=rfl
 have:=(aX:wl ([]:Z aA)=0∧_)
 have:=aA.wt_mk 0 s_ []
 have:=b6 ([]:Z aL) pC
 have:=(aX:wl ([]:Z bW)=0∧_)
 have:=aL.wt_mk pk s_ pG 0 (aA.mk 0 s_ []) (([])++pC) []
 exact oS
def aiX(fu:Nat):Prop:= ∀(pF:DS) (p6:LB) (p0:Int),wl p6+10*p0.toNat≤900∧ -100≤p0∧p0≤3→Ok (mH fu pF p6 p0) (fun r=>wt r.1≤bX p0.toNat)
def MO(n:Nat)(m:uR):Prop:= ∀(pF:DS) (p6:LB) (p0:Int),p0.toNat<n→wl p6+10*p0.toNat≤900∧ -100≤p0∧p0≤3→Ok (m pF p6 p0) (fun r=>wt r.1≤bX p0.toNat)
theorem ahC{n fu:Nat}(hfu:2147483648≤fu)(fX:E4 fu)(fP:EZ fu)(oF:afE fu)(rV:alS fu){pD:uR}(p1:MO n pD):MO (n+1) (N1 fu pD):=by
 intro pF p6 p0 hm hpre
 have:=apL p0.toNat
 have:=apL (aW (p0-1)).toNat
 have:=arU p0
 have:=acO
 have:=atE p0
 have:=fC (p0-1)
 refine Ok.lt fun d1 h1=>?_;refine Ok.sok (E:=fun v3=>p0≤0→v3≤2) ?_ ?_
 ·refine oD (fun g3=>?_) fun g3=>?_
  ·have:=DS.below_lt pF (n:=13) (by decide)
   exact oI
  have:=DS.below_lt pF (n:=13) (by decide)
  exact oI
 intro v3 h2
 refine oD (fun g4=>?_) fun g4=>?_
 ·refine Ok.lt fun d6 h5=>?_
  have:s_.size=0:=rfl
  have:=DS.below_lt d1 (n:=2) (by decide)
  have:=(aX:wl ([]:Z aA)=0∧_)
  have:=aA.wt_mk 0 s_ []
  have:=(aX:wl ([]:Z aL)=0∧_)
  have:=(aX:wl ([]:Z bW)=0∧_)
  have:=aL.wt_mk 2 s_ s_ (d1.below 2:Int) (aA.mk 0 s_ []) [] []
  exact oS
 refine IG ?_ ?_
 ·exact oD (fun _=>oI) fun g7=>oI
 intro v8 _
 refine oC (fun g8=>?_) fun g8=>?_
 ·have:=bA p6
  refine oD (fun g9=>?_) fun g9=>?_
  ·have:=bA (p6)
   refine oG fun z10=>Ok.lt fun d13 h11=>?_
   have:=asP d1 p6
   refine Ok.lt fun y15 h12=>?_
   have:=congrArg wt h12
   simp only [aZ] at this
   exact TX (fX y15) fun x18 h13 h13B=>oS
  refine Ok.lt fun d19 h14=>?_
  have:=DS.below_lt d1 (n:=20) (by decide)
  have:=fC ((d1.below 20:Int)-5)
  exact TX (fP (aW ((d1.below 20:Int)-5)) bU) fun x22 h15 h15B=>oS
 refine oD (fun g16=>?_) fun g16=>?_
 ·have:s_f.size=1:=rfl
  have:s_g.size=1:=rfl
  have:=lJ s_f s_g
  have:=aZ s_f
  have:=aZ s_g
  refine Ok.lt fun d24 h17=>Ok.lt fun y26 h18=>?_
  have:=congrArg wt h18
  simp only [aZ] at this
  have:y26.size≤1:=by rw [h18];exact DS.pick_size _ (by decide) (by decide)
  have:=fC (p0-1)
  refine wJ (p1 d24 p6 (aW (p0-1)) bU bU) fun x29 x30 h19=>?_
  dsimp only at h19
  have:=cH x29
  exact oB (oF 4 y26 ([x29]:Z aL) bU) fun x32 h20=>oS
 refine oD (fun g21=>?_) fun g21=>?_
 ·have:bD.size=4:=rfl
  have:eB.size=3:=rfl
  have:=lJ bD eB
  have:=aZ bD
  have:=aZ eB
  refine Ok.lt fun d34 h22=>Ok.lt fun y36 h23=>?_
  have:=congrArg wt h23
  simp only [aZ] at this
  have:y36.size≤4:=by rw [h23];exact DS.pick_size _ (by decide) (by decide)
  have:=fC (p0-1)
  refine wJ (p1 d34 p6 (aW (p0-1)) bU bU) fun x39 x40 h24=>?_
  dsimp only at h24
  refine wJ (p1 x40 p6 (aW (p0-1)) bU bU) fun x42 x43 h25=>?_
  dsimp only at h25
  have:fF.size=1:=rfl
  have:s_.size=0:=rfl
  have:=(aX:wl ([]:Z aA)=0∧_)
  have:=aA.wt_mk 0 s_ []
  have:=lJ x39 x42
  have:=(aX:wl ([]:Z bW)=0∧_)
  have:=aL.wt_mk 5 y36 fF 0 (aA.mk 0 s_ []) ([x39,x42]:Z aL) []
  exact oS
 refine oD (fun g26=>?_) fun g26=>?_
 ·have:=fC (p0-1)
  refine wJ (p1 d1 p6 (aW (p0-1)) bU bU) fun x46 x47 h27=>?_
  dsimp only at h27
  refine wJ (p1 x47 p6 (aW (p0-1)) bU bU) fun x49 x50 h28=>?_
  dsimp only at h28
  have:cL.size=4:=rfl
  have:=lJ x46 x49
  exact oB (oF 6 cL ([x46,x49]:Z aL) bU) fun x52 h29=>oS
 refine oD (fun g30=>?_) fun g30=>?_
 ·have:=(aX:wl ([]:LB)=0∧_)
  have:=bA (p6)
  refine oG fun z31=>?_
  have:=b6 ([]:LB) p6
  have:s_h.size=1:=rfl
  have:s_t.size=1:=rfl
  have:=lJ s_h s_t
  have:=aZ s_h
  have:=aZ s_t
  refine oG fun z32=>?_
  have:=fC (p0-1)
  refine wJ (p1 d1 p6 (aW (p0-1)) bU bU) fun x57 x58 h33=>?_
  dsimp only at h33
  refine wJ (p1 x58 p6 (aW (p0-1)) bU bU) fun x60 x61 h34=>?_
  dsimp only at h34
  have:=b6 (([])++p6) ([s_h,s_t]:LB)
  refine wJ (p1 x61 ((([])++p6)++([s_h,s_t]:LB)) (aW (p0-1)) bU bU) fun x63 x64 h35=>?_
  dsimp only at h35
  have:s_.size=0:=rfl
  have:=(aX:wl ([]:Z aA)=0∧_)
  have:=aA.wt_mk 0 s_ []
  have:=cH x57
  have:gL.size=3:=rfl
  have:=bW.wt_mk gL [] x60
  have:cL.size=4:=rfl
  have:=bW.wt_mk cL ([s_h,s_t]:LB) x63
  have:=lJ (bW.mk gL [] x60) (bW.mk cL ([s_h,s_t]:LB) x63)
  have:=aL.wt_mk 7 s_ s_ 0 (aA.mk 0 s_ []) ([x57]:Z aL) ([(bW.mk gL [] x60),(bW.mk cL ([s_h,s_t]:LB) x63)]:Z bW)
  exact oS
 refine oD (fun g36=>?_) fun g36=>?_
 ·have:=fC (p0-1)
  refine wJ (p1 d1 p6 (aW (p0-1)) bU bU) fun x67 x68 h37=>?_
  dsimp only at h37
  have:=(aX:wl ([]:LB)=0∧_)
  have:=bA (p6)
  refine oG fun z38=>?_
  have:=b6 ([]:LB) p6
  have:tG.size=1:=rfl
  have:=cH tG
  have:=aZ tG
  refine oG fun z39=>?_
  have:=b6 (([])++p6) ([tG]:LB)
  refine wJ (p1 x68 ((([])++p6)++([tG]:LB)) (aW (p0-1)) bU bU) fun x72 x73 h40=>?_
  dsimp only at h40
  have:=lJ x67 x72
  exact oB (oF 8 tG ([x67,x72]:Z aL) bU) fun x75 h41=>oS
 refine oD (fun g42=>?_) fun g42=>?_
 ·have:=fC (p0-1)
  refine wJ (p1 d1 p6 (aW (p0-1)) bU bU) fun x78 x79 h43=>?_
  dsimp only at h43
  refine wJ (p1 x79 p6 (aW (p0-1)) bU bU) fun x81 x82 h44=>?_
  dsimp only at h44
  refine wJ (p1 x82 p6 (aW (p0-1)) bU bU) fun x84 x85 h45=>?_
  dsimp only at h45
  have:s_.size=0:=rfl
  have:=GP x78 x81 x84
  exact oB (oF 9 s_ ([x78,x81,x84]:Z aL) bU) fun x87 h46=>oS
 refine oD (fun g47=>?_) fun g47=>?_
 ·have:DE.size=1:=rfl
  have:IL.size=1:=rfl
  have:QY.size=1:=rfl
  have:QZ.size=1:=rfl
  have:Q0.size=1:=rfl
  have:=av5 DE IL QY QZ Q0
  have:=aZ DE
  have:=aZ IL
  have:=aZ QY
  have:=aZ QZ
  have:=aZ Q0
  refine Ok.lt fun d89 h48=>Ok.lt fun y91 h49=>?_
  have:=congrArg wt h49
  simp only [aZ] at this
  have:y91.size≤1:=by rw [h49];exact DS.pick_size _ (by decide) (by decide)
  have:=fC (p0-1)
  refine wJ (p1 d89 p6 (aW (p0-1)) bU bU) fun x94 x95 h50=>?_
  dsimp only at h50
  refine wJ (p1 x95 p6 (aW (p0-1)) bU bU) fun x97 x98 h51=>?_
  dsimp only at h51
  have:=lJ x94 x97
  exact oB (oF 10 y91 ([x94,x97]:Z aL) bU) fun x100 h52=>oS
 refine oD (fun g53=>?_) fun g53=>?_
 ·have:=fC (p0-1)
  refine wJ (p1 d1 p6 (aW (p0-1)) bU bU) fun x103 x104 h54=>?_
  dsimp only at h54
  have:bD.size=4:=rfl
  have:s_.size=0:=rfl
  have:=(aX:wl ([]:Z aA)=0∧_)
  have:=aA.wt_mk 0 s_ []
  have:=cH x103
  have:=(aX:wl ([]:Z bW)=0∧_)
  have:=aL.wt_mk 11 bD s_ 0 (aA.mk 0 s_ []) ([x103]:Z aL) []
  exact oS
 refine oD (fun g55=>?_) fun g55=>?_
 ·have:gA.size=1:=rfl
  have:=cH gA
  have:=aZ gA
  refine wJ (rV d1 ([gA]:LB) 1 bU) fun x107 x108 h56=>?_
  dsimp only at h56
  have:=fC (p0-1)
  refine wJ (p1 x108 p6 (aW (p0-1)) bU bU) fun x110 x111 h57=>?_
  dsimp only at h57
  have:s_.size=0:=rfl
  have:=cH x110
  have:=(aX:wl ([]:Z bW)=0∧_)
  have:=aL.wt_mk 12 s_ s_ 0 x107 ([x110]:Z aL) []
  exact oS
 refine Ok.lt fun d112 h58=>?_
 have:=DS.below_lt d1 (n:=20) (by decide)
 have:=fC ((d1.below 20:Int)-5)
 exact TX (fP (aW ((d1.below 20:Int)-5)) bU) fun x115 h59 h59B=>oS
theorem akH(n:Nat):bR fun fu=>MO n (mH fu):=by
 induction n with
 |zero=>exact .all fun fu=>fun _ _ _ h=>absurd h (Nat.not_lt_zero _)
 |succ n ih=>exact bR.succ ((ih.and (((((bR.ge 2147483648).and fX).and fP).and oF).and rV)).imp fun fu ⟨h,⟨⟨⟨⟨hfu,fX⟩,fP⟩,oF⟩,rV⟩⟩=>fun pF p6 p0=>by rw [mH];exact ahC hfu fX fP oF rV h pF p6 p0)
theorem xA:bR aiX:=(akH 100).imp fun fu h pF p6 p0 hpre=>h pF p6 p0 bU hpre
def apC(fu:Nat):Prop:=Ok (F3 fu) (fun r=>wt r≤3)
theorem tZ:bR apC:=((bR.ge 2147483648).and dY).imp fun fu ⟨hfu,dY⟩=>by
 have:eY.size=3:=rfl
 have:=(aX:wl ([]:Z aA)=0∧_)
 exact oB (dY eY ([]:Z aA) bU) fun x2 h1=>oS
def ai4(fu:Nat):Prop:= ∀(pF:DS),Ok (C0 fu pF) (fun r=>wt r.1≤1000000)
theorem NK:bR ai4:=((((((((bR.ge 2147483648).and fP).and tZ).and eT).and dY).and rV).and lL).and xA).imp fun fu ⟨⟨⟨⟨⟨⟨⟨hfu,fP⟩,tZ⟩,eT⟩,dY⟩,rV⟩,lL⟩,xA⟩ pF=>by
 have:=acO
 have:=ajE
 have:=at1
 have:bD.size=4:=rfl
 have:jZ.size=2:=rfl
 have:eB.size=3:=rfl
 have:=GP bD jZ eB
 have:=aZ bD
 have:=aZ jZ
 have:=aZ eB
 refine Ok.lt fun d1 h1=>Ok.lt fun y3 h2=>?_
 have:=congrArg wt h2
 simp only [aZ] at this
 have:y3.size≤4:=by rw [h2];exact DS.pick_size _ (by decide) (by decide)
 refine Ok.lt fun d5 h3=>?_
 have:=DS.below_lt d1 (n:=9) (by decide)
 refine TX (fP (d1.below 9:Int) bU) fun x8 h4 h4B=>?_;refine Ok.sok (E:=fun(v9,v10,v11,v12,v13,v14)=>wl v9≤10∧v11.size+wl v12≤100∧wl v13≤100) ?_ ?_
 ·refine Ok.lt fun d15 h6=>?_;refine oC (fun g7=>?_) fun g7=>?_
  ·refine oB (tZ) fun x19 h8=>?_
   have:=aA.wt_eq x19
   have:=(aX:wl ([]:LB)=0∧_)
   have:=(aX:wl ([]:Z aF)=0∧_)
   exact oI
  refine oC (fun g9=>?_) fun g9=>?_
  ·have:gA.size=1:=rfl
   refine oB (eT gA) fun x22 h10=>?_
   have:cM.size=4:=rfl
   have:=cH x22
   refine oB (dY cM ([x22]:Z aA) bU) fun x24 h11=>?_
   have:=cH gA
   have:=aZ gA
   have:=aA.wt_eq x24
   have:=aF.wt_mk y3 x22
   have:=cH (aF.mk y3 x22)
   exact oI
  refine oC (fun g12=>?_) fun g12=>?_
  ·have:gA.size=1:=rfl
   refine oB (eT gA) fun x27 h13=>?_
   have:AD.size=1:=rfl
   refine oB (eT AD) fun x29 h14=>?_
   have:uQ.size=4:=rfl
   have:=lJ x27 x29
   refine oB (dY uQ ([x27,x29]:Z aA) bU) fun x31 h15=>?_
   have:=lJ gA AD
   have:=aZ gA
   have:=aZ AD
   have:=aA.wt_eq x31
   have:=(aX:wl ([]:Z aF)=0∧_)
   exact oI
  have:gA.size=1:=rfl
  refine oB (eT gA) fun x33 h16=>?_
  have:=cH gA
  have:=aZ gA
  have:=aA.wt_eq x33
  have:eC.size=3:=rfl
  have:=aF.wt_mk eC x33
  have:=cH (aF.mk eC x33)
  exact oI
 rintro⟨v9,v10,v11,v12,v13,v14⟩ h5
 dsimp only at h5
 refine Ok.sok (E:=fun(v38,v35,v36,v37,v34)=>wl v38+v37.size≤5000) ?_ ?_
 ·refine Ok.lt fun d39 h18=>?_;refine oC (fun g19=>?_) fun g19=>?_
  ·refine wJ (rV d39 v9 1 bU) fun x43 x44 h20=>?_
   dsimp only at h20
   have:=aA.wt_eq x43
   exact oI
  have:s_.size=0:=rfl
  have:=(aX:wl ([]:Z aA)=0∧_)
  exact oI
 rintro⟨v38,v35,v36,v37,v34⟩ h17
 dsimp only at h17
 refine Ok.lt fun d45 h21=>Ok.lt fun d47 h22=>?_;refine oC (fun g23=>?_) fun g23=>?_
 ·refine wJ (lL d47 2 bU) fun x51 x52 h24=>?_
  dsimp only at h24
  have:=DS.below_lt v34 (n:=4) (by decide)
  have:=aA.wt_mk v36 v37 v38
  have:fF.size=1:=rfl
  have:fB.size=1:=rfl
  have:=cH fB
  have:=aZ fB
  have:=aP.wt_mk fF ([fB]:LB) x8
  have:=cH (aP.mk fF ([fB]:LB) x8)
  have:=aI.wt_mk y3 v9 x51 v13 (decide (v34.below 4=0)) v35 (aA.mk v36 v37 v38) ([(aP.mk fF ([fB]:LB) x8)]:Z aP)
  exact oS
 refine oC (fun g25=>?_) fun g25=>?_
 ·have:gA.size=1:=rfl
  have:s_c.size=1:=rfl
  have:=lJ gA s_c
  have:=aZ gA
  have:=aZ s_c
  refine Ok.lt fun d54 h26=>Ok.lt fun y56 h27=>?_
  have:=congrArg wt h27
  simp only [aZ] at this
  have:y56.size≤1:=by rw [h27];exact DS.pick_size _ (by decide) (by decide)
  have:=bA (v9)
  have:=cH y56
  have:=aZ y56
  refine oG fun z28=>?_
  have:=b6 v9 ([y56]:LB)
  have:=aA.wt_mk v10 v11 v12
  have:=DS.below_lt v34 (n:=4) (by decide)
  have:=aA.wt_mk v36 v37 v38
  have:fF.size=1:=rfl
  have:fB.size=1:=rfl
  have:=cH fB
  have:=aZ fB
  have:=aP.wt_mk fF ([fB]:LB) x8
  have:=cH (aP.mk fF ([fB]:LB) x8)
  have:=aI.wt_mk y3 (v9++([y56]:LB)) (aA.mk v10 v11 v12) v13 (decide (v34.below 4=0)) v35 (aA.mk v36 v37 v38) ([(aP.mk fF ([fB]:LB) x8)]:Z aP)
  exact oS
 refine oC (fun g29=>?_) fun g29=>?_
 ·refine wJ (lL d47 1 bU) fun x61 x62 h30=>?_
  dsimp only at h30
  have:=bA (v13)
  have:=aF.wt_mk jZ x61
  have:=cH (aF.mk jZ x61)
  refine oG fun z31=>?_
  have:=aA.wt_mk v10 v11 v12
  have:=b6 v13 ([(aF.mk jZ x61)]:Z aF)
  have:=DS.below_lt v34 (n:=4) (by decide)
  have:=aA.wt_mk v36 v37 v38
  have:fF.size=1:=rfl
  have:fB.size=1:=rfl
  have:=cH fB
  have:=aZ fB
  have:=aP.wt_mk fF ([fB]:LB) x8
  have:=cH (aP.mk fF ([fB]:LB) x8)
  have:=aI.wt_mk y3 v9 (aA.mk v10 v11 v12) (v13++([(aF.mk jZ x61)]:Z aF)) (decide (v34.below 4=0)) v35 (aA.mk v36 v37 v38) ([(aP.mk fF ([fB]:LB) x8)]:Z aP)
  exact oS
 refine oC (fun g32=>?_) fun g32=>?_
 ·have:fB.size=1:=rfl
  have:tG.size=1:=rfl
  have:=lJ fB tG
  have:=aZ fB
  have:=aZ tG
  refine wJ (xA d47 ([fB,tG]:LB) 2 bU) fun x66 x67 h33=>?_
  dsimp only at h33
  have:=aA.wt_mk v10 v11 v12
  have:=DS.below_lt v34 (n:=4) (by decide)
  have:=aA.wt_mk v36 v37 v38
  have:fF.size=1:=rfl
  have:=cH fB
  have:=aP.wt_mk fF ([fB]:LB) x66
  have:=cH (aP.mk fF ([fB]:LB) x66)
  have:=aI.wt_mk y3 v9 (aA.mk v10 v11 v12) v13 (decide (v34.below 4=0)) v35 (aA.mk v36 v37 v38) ([(aP.mk fF ([fB]:LB) x66)]:Z aP)
  exact oS
 refine oC (fun g34=>?_) fun g34=>?_
 ·refine oB (tZ) fun x70 h35=>?_
  have:=aA.wt_mk v10 v11 v12
  have:=DS.below_lt v34 (n:=4) (by decide)
  have:fF.size=1:=rfl
  have:fB.size=1:=rfl
  have:=cH fB
  have:=aZ fB
  have:=aP.wt_mk fF ([fB]:LB) x8
  have:=cH (aP.mk fF ([fB]:LB) x8)
  have:=aI.wt_mk y3 v9 (aA.mk v10 v11 v12) v13 (decide (v34.below 4=0)) v35 x70 ([(aP.mk fF ([fB]:LB) x8)]:Z aP)
  exact oS
 refine oC (fun g36=>?_) fun g36=>?_
 ·have:=aA.wt_mk v10 v11 v12
  have:=DS.below_lt v34 (n:=4) (by decide)
  have:=aA.wt_mk v36 v37 v38
  have:fF.size=1:=rfl
  have:=(aX:wl ([]:LB)=0∧_)
  have:=aP.wt_mk fF ([]) x8
  have:=cH (aP.mk fF ([]) x8)
  have:=aI.wt_mk y3 v9 (aA.mk v10 v11 v12) v13 (decide (v34.below 4=0)) v35 (aA.mk v36 v37 v38) ([(aP.mk fF ([]) x8)]:Z aP)
  exact oS
 have:=aA.wt_mk v10 v11 v12
 have:=DS.below_lt v34 (n:=4) (by decide)
 have:=aA.wt_mk v36 v37 v38
 have:fF.size=1:=rfl
 have:fB.size=1:=rfl
 have:=cH fB
 have:=aZ fB
 have:=aP.wt_mk fF ([fB]:LB) x8
 have:=cH (aP.mk fF ([fB]:LB) x8)
 have:=aI.wt_mk y3 v9 (aA.mk v10 v11 v12) v13 (decide (v34.below 4=0)) v35 (aA.mk v36 v37 v38) ([(aP.mk fF ([fB]:LB) x8)]:Z aP)
 exact oS
def ao9(fu:Nat):Prop:= ∀(pc:DS),Ok (YC fu pc) (fun r=>wt r.1≤2000000)
theorem W8:bR ao9:=((((((bR.ge 2147483648).and eT).and tZ).and fX).and lL).and xA).imp fun fu ⟨⟨⟨⟨⟨hfu,eT⟩,tZ⟩,fX⟩,lL⟩,xA⟩ pc=>by
 have:=acO
 have:=ajE
 have:=atE 3 (by decide)
 have:s_f.size=1:=rfl
 have:s_g.size=1:=rfl
 have:=lJ s_f s_g
 have:=aZ s_f
 have:=aZ s_g
 refine Ok.lt fun d1 h1=>Ok.lt fun y3 h2=>?_
 have:=congrArg wt h2
 simp only [aZ] at this
 have:y3.size≤1:=by rw [h2];exact DS.pick_size _ (by decide) (by decide)
 have:gA.size=1:=rfl
 refine oB (eT gA) fun x6 h3=>oB (tZ) fun x8 h4=>?_
 have:fB.size=1:=rfl
 refine TX (fX fB) fun x10 h5 h5B=>Ok.lt fun d11 h6=>?_;refine oC (fun g7=>?_) fun g7=>?_
 ·refine wJ (lL d11 2 bU) fun x15 x16 h8=>?_
  dsimp only at h8
  have:=cH gA
  have:=aZ gA
  have:bD.size=4:=rfl
  have:=aF.wt_mk bD x6
  have:=cH (aF.mk bD x6)
  have:=aV.wt_mk fB x6
  have:=cH (aV.mk fB x6)
  have:fF.size=1:=rfl
  have:s_.size=0:=rfl
  have:=(aX:wl ([]:Z aA)=0∧_)
  have:=aA.wt_mk 0 s_ []
  have:=cH x10
  have:=(aX:wl ([]:Z bW)=0∧_)
  have:=aL.wt_mk 5 bD fF 0 (aA.mk 0 s_ []) ([x10]:Z aL) []
  have:=aO.wt_mk y3 ([gA]:LB) ([(aF.mk bD x6)]:Z aF) ([(aV.mk fB x6)]:Z aV) x15 (aL.mk 5 bD fF 0 (aA.mk 0 s_ []) ([x10]:Z aL) [])
  exact oS
 refine oC (fun g9=>?_) fun g9=>?_
 ·have:tG.size=1:=rfl
  have:=lJ fB tG
  have:=aZ fB
  have:=aZ tG
  refine Ok.lt fun d18 h10=>Ok.lt fun y20 h11=>?_
  have:=congrArg wt h11
  simp only [aZ] at this
  have:y20.size≤1:=by rw [h11];exact DS.pick_size _ (by decide) (by decide)
  have:=aV.wt_mk fB x6
  have:=cH (aV.mk fB x6)
  have:=aV.wt_mk y20 x8
  have:=cH (aV.mk y20 x8)
  refine oG fun z12=>?_
  have:=cH gA
  have:=aZ gA
  have:bD.size=4:=rfl
  have:=aF.wt_mk bD x6
  have:=cH (aF.mk bD x6)
  have:=b6 ([(aV.mk fB x6)]:Z aV) ([(aV.mk y20 x8)]:Z aV)
  have:fF.size=1:=rfl
  have:s_.size=0:=rfl
  have:=(aX:wl ([]:Z aA)=0∧_)
  have:=aA.wt_mk 0 s_ []
  have:=cH x10
  have:=(aX:wl ([]:Z bW)=0∧_)
  have:=aL.wt_mk 5 bD fF 0 (aA.mk 0 s_ []) ([x10]:Z aL) []
  have:=aO.wt_mk y3 ([gA]:LB) ([(aF.mk bD x6)]:Z aF) (([(aV.mk fB x6)]:Z aV)++([(aV.mk y20 x8)]:Z aV)) x8 (aL.mk 5 bD fF 0 (aA.mk 0 s_ []) ([x10]:Z aL) [])
  exact oS
 refine oC (fun g13=>?_) fun g13=>?_
 ·have:tG.size=1:=rfl
  have:=lJ fB tG
  have:=aZ fB
  have:=aZ tG
  refine wJ (xA d11 ([fB,tG]:LB) 3 bU) fun x25 x26 h14=>?_
  dsimp only at h14
  have:=cH gA
  have:=aZ gA
  have:bD.size=4:=rfl
  have:=aF.wt_mk bD x6
  have:=cH (aF.mk bD x6)
  have:=aV.wt_mk fB x6
  have:=cH (aV.mk fB x6)
  have:=aO.wt_mk y3 ([gA]:LB) ([(aF.mk bD x6)]:Z aF) ([(aV.mk fB x6)]:Z aV) x8 x25
  exact oS
 refine oC (fun g15=>?_) fun g15=>?_
 ·refine wJ (lL d11 1 bU) fun x29 x30 h16=>?_
  dsimp only at h16
  have:=cH gA
  have:=aZ gA
  have:bD.size=4:=rfl
  have:=aF.wt_mk bD x29
  have:=cH (aF.mk bD x29)
  have:=aV.wt_mk fB x6
  have:=cH (aV.mk fB x6)
  have:fF.size=1:=rfl
  have:s_.size=0:=rfl
  have:=(aX:wl ([]:Z aA)=0∧_)
  have:=aA.wt_mk 0 s_ []
  have:=cH x10
  have:=(aX:wl ([]:Z bW)=0∧_)
  have:=aL.wt_mk 5 bD fF 0 (aA.mk 0 s_ []) ([x10]:Z aL) []
  have:=aO.wt_mk y3 ([gA]:LB) ([(aF.mk bD x29)]:Z aF) ([(aV.mk fB x6)]:Z aV) x8 (aL.mk 5 bD fF 0 (aA.mk 0 s_ []) ([x10]:Z aL) [])
  exact oS
 refine oC (fun g17=>?_) fun g17=>?_
 ·have:s_.size=0:=rfl
  have:GZ.size=2:=rfl
  have:=lJ s_ GZ
  have:=aZ s_
  have:=aZ GZ
  refine Ok.lt fun d32 h18=>Ok.lt fun y34 h19=>?_
  have:=congrArg wt h19
  simp only [aZ] at this
  have:y34.size≤2:=by rw [h19];exact DS.pick_size _ (by decide) (by decide)
  have:=cH gA
  have:=aZ gA
  have:bD.size=4:=rfl
  have:=aF.wt_mk bD x6
  have:=cH (aF.mk bD x6)
  have:=aV.wt_mk fB x6
  have:=cH (aV.mk fB x6)
  have:fF.size=1:=rfl
  have:=(aX:wl ([]:Z aA)=0∧_)
  have:=aA.wt_mk 0 s_ []
  have:=cH x10
  have:=(aX:wl ([]:Z bW)=0∧_)
  have:=aL.wt_mk 5 bD fF 0 (aA.mk 0 s_ []) ([x10]:Z aL) []
  have:=aO.wt_mk y34 ([gA]:LB) ([(aF.mk bD x6)]:Z aF) ([(aV.mk fB x6)]:Z aV) x8 (aL.mk 5 bD fF 0 (aA.mk 0 s_ []) ([x10]:Z aL) [])
  exact oS
 have:=cH gA
 have:=aZ gA
 have:bD.size=4:=rfl
 have:=aF.wt_mk bD x6
 have:=cH (aF.mk bD x6)
 have:=aV.wt_mk fB x6
 have:=cH (aV.mk fB x6)
 have:fF.size=1:=rfl
 have:s_.size=0:=rfl
 have:=(aX:wl ([]:Z aA)=0∧_)
 have:=aA.wt_mk 0 s_ []
 have:=cH x10
 have:=(aX:wl ([]:Z bW)=0∧_)
 have:=aL.wt_mk 5 bD fF 0 (aA.mk 0 s_ []) ([x10]:Z aL) []
 have:=aO.wt_mk y3 ([gA]:LB) ([(aF.mk bD x6)]:Z aF) ([(aV.mk fB x6)]:Z aV) x8 (aL.mk 5 bD fF 0 (aA.mk 0 s_ []) ([x10]:Z aL) [])
 exact oS
def afF(fu:Nat):Prop:= ∀(pF:DS),Ok (zE fu pF) (fun r=>wt r.1≤10000)
theorem I9:bR afF:=((((((bR.ge 2147483648).and eT).and tZ).and fX).and fP).and oF).imp fun fu ⟨⟨⟨⟨⟨hfu,eT⟩,tZ⟩,fX⟩,fP⟩,oF⟩ pF=>by
 have:kS.size=4:=rfl
 refine oB (eT kS) fun x2 h1=>?_
 have:bD.size=4:=rfl
 have:jZ.size=2:=rfl
 have:eB.size=3:=rfl
 have:=GP bD jZ eB
 have:=aZ bD
 have:=aZ jZ
 have:=aZ eB
 refine Ok.lt fun d3 h2=>Ok.lt fun y5 h3=>?_
 have:=congrArg wt h3
 simp only [aZ] at this
 have:y5.size≤4:=by rw [h3];exact DS.pick_size _ (by decide) (by decide)
 refine Ok.lt fun d7 h4=>oB (tZ) fun x10 h5=>?_;refine oC (fun g6=>?_) fun g6=>?_
 ·refine oC (fun g7=>?_) fun g7=>?_
  ·refine Ok.lt fun d13 h8=>?_
   have:fB.size=1:=rfl
   refine TX (fX fB) fun x17 h9 h9B=>TX (fP 1 bU) fun x19 h10 h10B=>?_
   have:DE.size=1:=rfl
   have:fF.size=1:=rfl
   have:s_.size=0:=rfl
   have:=(aX:wl ([]:Z aA)=0∧_)
   have:=aA.wt_mk 0 s_ []
   have:=cH x17
   have:=(aX:wl ([]:Z bW)=0∧_)
   have:=aL.wt_mk 5 y5 fF 0 (aA.mk 0 s_ []) ([x17]:Z aL) []
   have:=lJ (aL.mk 5 y5 fF 0 (aA.mk 0 s_ []) ([x17]:Z aL) []) x19
   refine oB (oF 10 DE ([(aL.mk 5 y5 fF 0 (aA.mk 0 s_ []) ([x17]:Z aL) []),x19]:Z aL) bU) fun x21 h11=>?_
   have:=(aX:wl ([]:Z aL)=0∧_)
   have:=aL.wt_mk 0 s_ s_ 0 (aA.mk 0 s_ []) [] []
   have:=(aX:wl ([]:LB)=0∧_)
   have:=aG.wt_mk fF [] x10 false [] (aL.mk 0 s_ s_ 0 (aA.mk 0 s_ []) [] [])
   have:=cH (aG.mk fF [] x10 false [] (aL.mk 0 s_ s_ 0 (aA.mk 0 s_ []) [] []))
   have:fV.size=5:=rfl
   have:=cH x2
   have:tG.size=1:=rfl
   have:=lJ fB tG
   have:=aZ fB
   have:=aZ tG
   have:=aG.wt_mk fV ([x2]:Z aA) x10 true ([fB,tG]:LB) x21
   have:=cH (aG.mk fV ([x2]:Z aA) x10 true ([fB,tG]:LB) x21)
   refine oG fun z12=>?_;refine Ok.sok (E:=fun v23=>wl v23≤10) ?_ ?_
   ·refine Ok.lt fun d24 h14=>?_;refine oC (fun g15=>?_) fun g15=>?_
    ·have:eC.size=3:=rfl
     have:=cH eC
     have:=aZ eC
     exact oI
    exact oI
   intro v23 h13
   refine Ok.lt fun d28 h16=>?_;refine oC (fun g17=>?_) fun g17=>?_
   ·have:AD.size=1:=rfl
    have:=lJ kS AD
    have:=aZ kS
    have:=aZ AD
    refine Ok.lt fun d31 h18=>Ok.lt fun y33 h19=>?_
    have:=congrArg wt h19
    simp only [aZ] at this
    have:y33.size≤4:=by rw [h19];exact DS.pick_size _ (by decide) (by decide)
    refine oB (eT y33) fun x36 h20=>?_
    have:=DS.below_lt d3 (n:=3) (by decide)
    have:=aA.wt_mk 0 s_ ([])
    have:=aL.wt_mk 0 s_ s_ 0 (aA.mk 0 s_ ([])) ([]) ([])
    have:=aG.wt_mk fF ([]) x36 false ([]) (aL.mk 0 s_ s_ 0 (aA.mk 0 s_ ([])) ([]) ([]))
    have:=lJ (aG.mk fF ([]) x36 false ([]) (aL.mk 0 s_ s_ 0 (aA.mk 0 s_ ([])) ([]) ([]))) (aG.mk fV ([x2]:Z aA) x10 true ([fB,tG]:LB) x21)
    have:=aU.wt_mk y5 v23 false (decide (d3.below 3=0)) ([(aG.mk fF ([]) x36 false ([]) (aL.mk 0 s_ s_ 0 (aA.mk 0 s_ ([])) ([]) ([]))),(aG.mk fV ([x2]:Z aA) x10 true ([fB,tG]:LB) x21)]:Z aG)
    exact oS
   have:=DS.below_lt d3 (n:=3) (by decide)
   have:=aA.wt_mk 0 s_ ([])
   have:=aL.wt_mk 0 s_ s_ 0 (aA.mk 0 s_ ([])) ([]) ([])
   have:=aG.wt_mk fF ([]) x10 true ([]) (aL.mk 0 s_ s_ 0 (aA.mk 0 s_ ([])) ([]) ([]))
   have:=lJ (aG.mk fF ([]) x10 true ([]) (aL.mk 0 s_ s_ 0 (aA.mk 0 s_ ([])) ([]) ([]))) (aG.mk fV ([x2]:Z aA) x10 true ([fB,tG]:LB) x21)
   have:=aU.wt_mk y5 v23 false (decide (d3.below 3=0)) ([(aG.mk fF ([]) x10 true ([]) (aL.mk 0 s_ s_ 0 (aA.mk 0 s_ ([])) ([]) ([]))),(aG.mk fV ([x2]:Z aA) x10 true ([fB,tG]:LB) x21)]:Z aG)
   exact oS
  refine Ok.lt fun d37 h21=>?_;refine Ok.sok (E:=fun v40=>wl v40≤10) ?_ ?_
  ·refine Ok.lt fun d41 h23=>?_;refine oC (fun g24=>?_) fun g24=>?_
   ·have:eC.size=3:=rfl
    have:=cH eC
    have:=aZ eC
    exact oI
   have:=(aX:wl ([]:LB)=0∧_)
   exact oI
  intro v40 h22
  refine Ok.lt fun d45 h25=>?_;refine oC (fun g26=>?_) fun g26=>?_
  ·have:AD.size=1:=rfl
   have:=lJ kS AD
   have:=aZ kS
   have:=aZ AD
   refine Ok.lt fun d48 h27=>Ok.lt fun y50 h28=>?_
   have:=congrArg wt h28
   simp only [aZ] at this
   have:y50.size≤4:=by rw [h28];exact DS.pick_size _ (by decide) (by decide)
   refine oB (eT y50) fun x53 h29=>?_
   have:=DS.below_lt d3 (n:=3) (by decide)
   have:fF.size=1:=rfl
   have:s_.size=0:=rfl
   have:=(aX:wl ([]:Z aA)=0∧_)
   have:=aA.wt_mk 0 s_ []
   have:=(aX:wl ([]:Z aL)=0∧_)
   have:=(aX:wl ([]:Z bW)=0∧_)
   have:=aL.wt_mk 0 s_ s_ 0 (aA.mk 0 s_ []) [] []
   have:=(aX:wl ([]:LB)=0∧_)
   have:=aG.wt_mk fF [] x53 false [] (aL.mk 0 s_ s_ 0 (aA.mk 0 s_ []) [] [])
   have:=cH (aG.mk fF [] x53 false [] (aL.mk 0 s_ s_ 0 (aA.mk 0 s_ []) [] []))
   have:=aU.wt_mk y5 v40 false (decide (d3.below 3=0)) ([(aG.mk fF [] x53 false [] (aL.mk 0 s_ s_ 0 (aA.mk 0 s_ []) [] []))]:Z aG)
   exact oS
  have:=DS.below_lt d3 (n:=3) (by decide)
  have:fF.size=1:=rfl
  have:s_.size=0:=rfl
  have:=(aX:wl ([]:Z aA)=0∧_)
  have:=aA.wt_mk 0 s_ []
  have:=(aX:wl ([]:Z aL)=0∧_)
  have:=(aX:wl ([]:Z bW)=0∧_)
  have:=aL.wt_mk 0 s_ s_ 0 (aA.mk 0 s_ []) [] []
  have:=(aX:wl ([]:LB)=0∧_)
  have:=aG.wt_mk fF [] x10 true [] (aL.mk 0 s_ s_ 0 (aA.mk 0 s_ []) [] [])
  have:=cH (aG.mk fF [] x10 true [] (aL.mk 0 s_ s_ 0 (aA.mk 0 s_ []) [] []))
  have:=aU.wt_mk y5 v40 false (decide (d3.below 3=0)) ([(aG.mk fF [] x10 true [] (aL.mk 0 s_ s_ 0 (aA.mk 0 s_ []) [] []))]:Z aG)
  exact oS
 refine Ok.sok (E:=fun v55=>wl v55≤1000∧0<v55.length) ?_ ?_
 ·refine Ok.lt fun d56 h31=>?_;refine oC (fun g32=>?_) fun g32=>?_
  ·have:fB.size=1:=rfl
   refine TX (fX fB) fun x61 h33 h33B=>TX (fP 1 bU) fun x63 h34 h34B=>?_
   have:DE.size=1:=rfl
   have:fF.size=1:=rfl
   have:s_.size=0:=rfl
   have:=(aX:wl ([]:Z aA)=0∧_)
   have:=aA.wt_mk 0 s_ []
   have:=cH x61
   have:=(aX:wl ([]:Z bW)=0∧_)
   have:=aL.wt_mk 5 y5 fF 0 (aA.mk 0 s_ []) ([x61]:Z aL) []
   have:=lJ (aL.mk 5 y5 fF 0 (aA.mk 0 s_ []) ([x61]:Z aL) []) x63
   refine oB (oF 10 DE ([(aL.mk 5 y5 fF 0 (aA.mk 0 s_ []) ([x61]:Z aL) []),x63]:Z aL) bU) fun x65 h35=>?_
   have:=(aX:wl ([]:Z aL)=0∧_)
   have:=aL.wt_mk 0 s_ s_ 0 (aA.mk 0 s_ []) [] []
   have:=(aX:wl ([]:LB)=0∧_)
   have:=aG.wt_mk fF [] x10 false [] (aL.mk 0 s_ s_ 0 (aA.mk 0 s_ []) [] [])
   have:=cH (aG.mk fF [] x10 false [] (aL.mk 0 s_ s_ 0 (aA.mk 0 s_ []) [] []))
   have:fV.size=5:=rfl
   have:=cH x2
   have:tG.size=1:=rfl
   have:=lJ fB tG
   have:=aZ fB
   have:=aZ tG
   have:=aG.wt_mk fV ([x2]:Z aA) x10 true ([fB,tG]:LB) x65
   have:=cH (aG.mk fV ([x2]:Z aA) x10 true ([fB,tG]:LB) x65)
   refine oG fun z36=>?_
   have:=b6 ([(aG.mk fF [] x10 false [] (aL.mk 0 s_ s_ 0 (aA.mk 0 s_ []) [] []))]:Z aG) ([(aG.mk fV ([x2]:Z aA) x10 true ([fB,tG]:LB) x65)]:Z aG)
   exact oI
  have:fF.size=1:=rfl
  have:s_.size=0:=rfl
  have:=(aX:wl ([]:Z aA)=0∧_)
  have:=aA.wt_mk 0 s_ []
  have:=(aX:wl ([]:Z aL)=0∧_)
  have:=(aX:wl ([]:Z bW)=0∧_)
  have:=aL.wt_mk 0 s_ s_ 0 (aA.mk 0 s_ []) [] []
  have:=(aX:wl ([]:LB)=0∧_)
  have:=aG.wt_mk fF [] x10 false [] (aL.mk 0 s_ s_ 0 (aA.mk 0 s_ []) [] [])
  have:=cH (aG.mk fF [] x10 false [] (aL.mk 0 s_ s_ 0 (aA.mk 0 s_ []) [] []))
  exact oI
 intro v55 h30
 refine Ok.sok (E:=fun v67=>wl v67≤10) ?_ ?_
 ·refine Ok.lt fun d68 h38=>?_;refine oC (fun g39=>?_) fun g39=>?_
  ·have:eC.size=3:=rfl
   have:=cH eC
   have:=aZ eC
   exact oI
  have:=(aX:wl ([]:LB)=0∧_)
  exact oI
 intro v67 h37
 refine Ok.lt fun d72 h40=>?_;refine oC (fun g41=>?_) fun g41=>?_
 ·have:=DS.below_lt d3 (n:=3) (by decide)
  have:=aU.wt_mk y5 v67 true (decide (d3.below 3=0)) v55
  exact oS
 refine oC (fun g42=>?_) fun g42=>?_
 ·have:s_.size=0:=rfl
  have:eY.size=3:=rfl
  have:s_A.size=1:=rfl
  have:=GP s_ eY s_A
  have:=aZ s_
  have:=aZ eY
  have:=aZ s_A
  refine Ok.lt fun d76 h43=>Ok.lt fun y78 h44=>?_
  have:=congrArg wt h44
  simp only [aZ] at this
  have:y78.size≤3:=by rw [h44];exact DS.pick_size _ (by decide) (by decide)
  have:=DS.below_lt d3 (n:=3) (by decide)
  have:=aU.wt_mk y78 v67 false (decide (d3.below 3=0)) v55
  exact oS
 refine oC (fun g45=>?_) fun g45=>?_
 ·have:=bA (v67)
  have:eC.size=3:=rfl
  have:=cH eC
  have:=aZ eC
  refine oG fun z46=>?_
  have:=b6 v67 ([eC]:LB)
  have:=DS.below_lt d3 (n:=3) (by decide)
  have:=aU.wt_mk y5 (v67++([eC]:LB)) false (decide (d3.below 3=0)) v55
  exact oS
 refine oC (fun g47=>?_) fun g47=>?_
 ·have:=bA (v55)
  refine oG fun z48=>?_
  have:=cZ v55 0 z48
  have:wl (List.take 1 v55)=wl (List.take 0 v55)+wt (aR v55 0)+1:=MM v55 0 z48
  refine Ok.lt fun y84 h49=>?_
  have:=congrArg wt h49
  have:=cH y84
  refine oG fun z50=>?_
  have:=DS.below_lt d3 (n:=3) (by decide)
  have:=b6 v55 ([y84]:Z aG)
  have:=aU.wt_mk y5 v67 false (decide (d3.below 3=0)) (v55++([y84]:Z aG))
  exact oS
 have:=DS.below_lt d3 (n:=3) (by decide)
 have:=aU.wt_mk y5 v67 false (decide (d3.below 3=0)) v55
 exact oS
def ai3(fu:Nat):Prop:= ∀(pc:DS),Ok (CZ fu pc) (fun r=>wt r.1≤10000)
theorem NJ:bR ai3:=((((bR.ge 2147483648).and eT).and dY).and lL).imp fun fu ⟨⟨⟨hfu,eT⟩,dY⟩,lL⟩ pc=>by
 have:=acO
 have:=ajE
 have:gA.size=1:=rfl
 refine oB (eT gA) fun x2 h1=>?_
 have:cM.size=4:=rfl
 have:=cH x2
 refine oB (dY cM ([x2]:Z aA) bU) fun x4 h2=>Ok.lt fun d5 h3=>?_;refine oC (fun g4=>?_) fun g4=>?_
 ·have:AD.size=1:=rfl
  have:=lJ gA AD
  have:=aZ gA
  have:=aZ AD
  refine Ok.lt fun d8 h5=>Ok.lt fun y10 h6=>?_
  have:=congrArg wt h6
  simp only [aZ] at this
  have:y10.size≤1:=by rw [h6];exact DS.pick_size _ (by decide) (by decide)
  have:=cH gA
  have:=cH y10
  have:=aZ y10
  refine oG fun z7=>?_
  have:=b6 ([gA]:LB) ([y10]:LB)
  have:gL.size=3:=rfl
  have:=(aX:wl ([]:Z aA)=0∧_)
  have:=aC.wt_mk gL []
  have:cL.size=4:=rfl
  have:=lJ x2 x4
  have:=aC.wt_mk cL ([x2,x4]:Z aA)
  have:=lJ (aC.mk gL []) (aC.mk cL ([x2,x4]:Z aA))
  have:=aM.wt_mk cM (([gA]:LB)++([y10]:LB)) ([(aC.mk gL []),(aC.mk cL ([x2,x4]:Z aA))]:Z aC)
  exact oS
 refine oC (fun g8=>?_) fun g8=>?_
 ·refine Ok.lt fun d14 h9=>?_
  have:=DS.below_lt d5 (n:=2) (by decide)
  have:gL.size=3:=rfl
  have:=(aX:wl ([]:Z aA)=0∧_)
  have:=aC.wt_mk gL []
  have:cL.size=4:=rfl
  have:=lJ x2 x4
  have:=aC.wt_mk cL ([x2,x4]:Z aA)
  have:=lJ (aC.mk gL []) (aC.mk cL ([x2,x4]:Z aA))
  refine oG fun z10=>?_
  have:=cH gA
  have:=aZ gA
  have:=VT (0:Int).toNat (d5.below 2:Int).toNat ([(aC.mk gL []),(aC.mk cL ([x2,x4]:Z aA))]:Z aC)
  have:=aM.wt_mk cM ([gA]:LB) (List.drop (0:Int).toNat (List.take (d5.below 2:Int).toNat ([(aC.mk gL []),(aC.mk cL ([x2,x4]:Z aA))]:Z aC)))
  exact oS
 refine oC (fun g11=>?_) fun g11=>?_
 ·refine wJ (lL d5 2 bU) fun x19 x20 h12=>?_
  dsimp only at h12
  have:=cH gA
  have:=aZ gA
  have:gL.size=3:=rfl
  have:=cH x19
  have:=aC.wt_mk gL ([x19]:Z aA)
  have:cL.size=4:=rfl
  have:=lJ x2 x4
  have:=aC.wt_mk cL ([x2,x4]:Z aA)
  have:=lJ (aC.mk gL ([x19]:Z aA)) (aC.mk cL ([x2,x4]:Z aA))
  have:=aM.wt_mk cM ([gA]:LB) ([(aC.mk gL ([x19]:Z aA)),(aC.mk cL ([x2,x4]:Z aA))]:Z aC)
  exact oS
 refine oC (fun g13=>?_) fun g13=>?_
 ·have:cL.size=4:=rfl
  have:s_.size=0:=rfl
  have:X7.size=3:=rfl
  have:=GP cL s_ X7
  have:=aZ cL
  have:=aZ s_
  have:=aZ X7
  refine Ok.lt fun d22 h14=>Ok.lt fun y24 h15=>?_
  have:=congrArg wt h15
  simp only [aZ] at this
  have:y24.size≤4:=by rw [h15];exact DS.pick_size _ (by decide) (by decide)
  have:=cH gA
  have:=aZ gA
  have:=(aX:wl ([]:Z aA)=0∧_)
  have:=aC.wt_mk y24 []
  have:=lJ x2 x4
  have:=aC.wt_mk cL ([x2,x4]:Z aA)
  have:=lJ (aC.mk y24 []) (aC.mk cL ([x2,x4]:Z aA))
  have:=aM.wt_mk cM ([gA]:LB) ([(aC.mk y24 []),(aC.mk cL ([x2,x4]:Z aA))]:Z aC)
  exact oS
 have:=cH gA
 have:=aZ gA
 have:gL.size=3:=rfl
 have:=(aX:wl ([]:Z aA)=0∧_)
 have:=aC.wt_mk gL []
 have:cL.size=4:=rfl
 have:=lJ x2 x4
 have:=aC.wt_mk cL ([x2,x4]:Z aA)
 have:=lJ (aC.mk gL []) (aC.mk cL ([x2,x4]:Z aA))
 have:=aM.wt_mk cM ([gA]:LB) ([(aC.mk gL []),(aC.mk cL ([x2,x4]:Z aA))]:Z aC)
 exact oS
def amZ(fu:Nat):Prop:= ∀(pF:DS),Ok (xR fu pF) (fun r=>wt r.1≤12000000)
theorem R5:bR amZ:=(((((bR.ge 2147483648).and I9).and NJ).and NK).and W8).imp fun fu ⟨⟨⟨⟨hfu,I9⟩,NJ⟩,NK⟩,W8⟩ pF=>by
 refine Ok.lt fun d1 h1=>?_
 have:=DS.below_lt pF (n:=5) (by decide)
 have:=(aX:wl ([]:Z aU)=0∧_)
 have:=(aX:wl ([]:Z aM)=0∧_)
 have:=(aX:wl ([]:Z aI)=0∧_)
 have:=(aX:wl ([]:Z aO)=0∧_)
 refine Ok.sok (E:=fun(v9,v10,v11,v12,v4)=>wl v9+wl v10+wl v11+wl v12≤10000005) ?_ ?_
 ·refine Ok.loop0 (fun i3 (v9,v10,v11,v12,v4)=>wl v9+wl v10+wl v11+wl v12≤2000001*i3∧i3≤5) (by exact bU) (by rintro i3 ⟨v9,v10,v11,v12,v4⟩-hI;(try dsimp only at hI ⊢);omega) ?_;rintro i3 ⟨v9,v10,v11,v12,v4⟩ hl3 hI4
  dsimp only at hI4
  refine Ok.lt fun d15 h5=>?_;refine oC (fun g6=>?_) fun g6=>?_
  ·refine wJ (I9 d15) fun x19 x20 h7=>?_
   dsimp only at h7
   have:=bA (v9)
   have:=cH x19
   refine oG fun z8=>?_
   have:=b6 v9 ([x19]:Z aU)
   exact rE
  refine oC (fun g9=>?_) fun g9=>?_
  ·refine wJ (NJ d15) fun x24 x25 h10=>?_
   dsimp only at h10
   have:=bA (v10)
   have:=cH x24
   refine oG fun z11=>?_
   have:=b6 v10 ([x24]:Z aM)
   exact rE
  refine oC (fun g12=>?_) fun g12=>?_
  ·refine wJ (NK d15) fun x29 x30 h13=>?_
   dsimp only at h13
   have:=bA (v11)
   have:=cH x29
   refine oG fun z14=>?_
   have:=b6 v11 ([x29]:Z aI)
   exact rE
  refine wJ (W8 d15) fun x33 x34 h15=>?_
  dsimp only at h15
  have:=bA (v12)
  have:=cH x33
  refine oG fun z16=>?_
  have:=b6 v12 ([x33]:Z aO)
  exact rE
 rintro⟨v9,v10,v11,v12,v4⟩ h2
 dsimp only at h2
 refine Ok.lt fun d36 h17=>?_;refine oC (fun g18=>?_) fun g18=>?_
 ·have:s_.size=0:=rfl
  have:gU.size=4:=rfl
  have:=lJ s_ gU
  have:=aZ s_
  have:=aZ gU
  refine Ok.lt fun d39 h19=>Ok.lt fun y41 h20=>?_
  have:=congrArg wt h20
  simp only [aZ] at this
  have:y41.size≤4:=by rw [h20];exact DS.pick_size _ (by decide) (by decide)
  have:=cH gU
  have:=aN.wt_mk y41 ([gU]:LB) v9 v10 v11 v12
  exact oS
 refine oC (fun g21=>?_) fun g21=>?_
 ·have:gU.size=4:=rfl
  have:s_q.size=1:=rfl
  have:s_p.size=1:=rfl
  have:=GP gU s_q s_p
  have:=aZ gU
  have:=aZ s_q
  have:=aZ s_p
  refine Ok.lt fun d44 h22=>Ok.lt fun y46 h23=>?_
  have:=congrArg wt h23
  simp only [aZ] at this
  have:y46.size≤4:=by rw [h23];exact DS.pick_size _ (by decide) (by decide)
  have:=cH gU
  have:=cH y46
  have:=aZ y46
  refine oG fun z24=>?_
  have:=b6 ([gU]:LB) ([y46]:LB)
  have:=aN.wt_mk s_p (([gU]:LB)++([y46]:LB)) v9 v10 v11 v12
  exact oS
 have:s_p.size=1:=rfl
 have:gU.size=4:=rfl
 have:=cH gU
 have:=aZ gU
 have:=aN.wt_mk s_p ([gU]:LB) v9 v10 v11 v12
 exact oS
def afP(fu:Nat):Prop:= ∀(pc:DS),Ok (oZ fu pc) (fun r=>wt r.1≤13000000)
theorem agL:bR afP:=(((bR.ge 2147483648).and NO).and R5).imp fun fu ⟨⟨hfu,NO⟩,R5⟩ pc=>by
 refine wJ (NO pc) fun x2 x3 h1=>?_
 dsimp only at h1
 refine Ok.lt fun d4 h2=>?_;refine oC (fun g3=>?_) fun g3=>?_
 ·refine wJ (R5 d4) fun x8 x9 h4=>?_
  dsimp only at h4
  have:=aH.wt_eq x2
  have:=bA (x2.aD3)
  have:=cH x8
  refine oG fun z5=>?_
  have:=b6 x2.aD3 ([x8]:Z aN)
  have:=aH.wt_mk (x2.aD3++([x8]:Z aN))
  exact oS
 have:=aH.wt_eq x2
 have:=aH.wt_mk x2.aD3
 exact oS
end Go.Proofs.YtfcoaagbccmahaaGreat.W
