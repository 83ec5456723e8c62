/- Rules. No conditions. -/
import Derived.Test.YtfcoaagbccmahaaGreatQh559122c9
set_option linter.unusedSimpArgs false
set_option linter.unusedVariables false
namespace Go.Proofs.YtfcoaagbccmahaaGreat.W
set_option maxRecDepth 20000
set_option maxHeartbeats 4000000
open Go.RowKit Go.WalkArith Go.IntWalk
def adM(fu:Nat):Prop:= ∀(px:UInt8),Ok (MM fu px) (fun _=>True)
theorem L8:eK adM:=(bP 2147483648).imp fun fu hfu px=>by
 refine oD (fun g1=>?_) fun g1=>?_
 ·refine oD (fun _=>oS) fun g2=>?_;refine oD (fun g3=>?_) fun g3=>?_
  ·exact oD (fun _=>oS) fun g4=>oD (fun _=>oS) fun g5=>oD (fun _=>oS) fun g6=>oD (fun _=>oS) fun g7=>oD (fun _=>oS) fun g8=>oD (fun _=>oS) fun g9=>oD (fun _=>oS) fun g10=>oS
  exact oD (fun _=>oS) fun g11=>oD (fun _=>oS) fun g12=>oD (fun _=>oS) fun g13=>oD (fun _=>oS) fun g14=>oD (fun _=>oS) fun g15=>oD (fun _=>oS) fun g16=>oS
 refine oD (fun g17=>?_) fun g17=>?_
 ·exact oD (fun _=>oS) fun g18=>oD (fun _=>oS) fun g19=>oD (fun _=>oS) fun g20=>oD (fun _=>oS) fun g21=>oD (fun _=>oS) fun g22=>oD (fun _=>oS) fun g23=>oD (fun _=>oS) fun g24=>oS
 exact oD (fun _=>oS) fun g25=>oD (fun _=>oS) fun g26=>oD (fun _=>oS) fun g27=>oD (fun _=>oS) fun g28=>oD (fun _=>oS) fun g29=>oD (fun _=>oS) fun g30=>oS
def ao1(fu:Nat):Prop:= ∀(px pC pD:Int),Ok (IZ fu px pC pD) (fun _=>True)
theorem tW:eK ao1:=(bP 2147483648).imp fun fu hfu px pC pD=>by
 exact oD (fun _=>oS) fun g1=>oS
def J0(fu:Nat):Prop:= ∀(ps:Y),ps.size≤1073741824→Ok (DH fu ps) (fun _=>True)
theorem tE:eK J0:=(((bP 2147483648).and L8).and tW).imp fun fu ⟨⟨hfu,L8⟩,tW⟩ ps hpre=>by
 refine JO ?_ ?_
 ·refine gD ?_;rintro i1 ⟨⟩ hl2
  exact oG fun z4=>oB (L8 (HX ps i1)) fun x6 _=>oW (fun _=>oR) fun g6=>sP
 rintro⟨⟩-
 exact oB (tW (ps.size:Int) 1 12) fun x9 _=>oS
def ap9(fu:Nat):Prop:= ∀(px:aB) (p3:Int),wt px≤1073741824→Ok (sI fu px p3) (fun _=>True)
def S3(n:Nat)(m:CM):Prop:= ∀(px:aB) (p3:Int),wt px<n→wt px≤1073741824→Ok (m px p3) (fun _=>True)
theorem aoB{n fu:Nat}(hfu:2147483648≤fu){p6:CM}(p8:S3 n p6):S3 (n+1) (U6 fu p6):=by
 intro px p3 hm hpre
 refine oEN (fun i1 v2 hl2=>?_) ?_
 ·have:=aB.we px
  have:=bE px.aFv
  refine oD (fun g4=>?_) fun g4=>?_
  ·have:=c8 px.aFv i1 hl2
   exact oB (p8 (aR px.aFv i1) v2 bS bS) fun x7 _=>sP
  exact oK
 intro v2 _
 exact oS
theorem arW(n:Nat):eK fun fu=>S3 n (sI fu):=by
 induction n with
 |zero=>exact .all fun fu=>fun _ _ h=>absurd h (Nat.not_lt_zero _)
 |succ n ih=>exact bY ((ih.and (bP 2147483648)).imp fun fu ⟨h,hfu⟩=>fun px p3=>by rw [sI];exact aoB hfu h px p3)
theorem TZ:eK ap9:=(arW 8589934592).imp fun fu h px p3 hpre=>h px p3 bS hpre
def ap8(fu:Nat):Prop:= ∀(px:aB),wt px≤1073741824→Ok (sH fu px) (fun _=>True)
def S2(n:Nat)(m:CL):Prop:= ∀(px:aB),wt px<n→wt px≤1073741824→Ok (m px) (fun _=>True)
theorem an8{n fu:Nat}(hfu:2147483648≤fu)(tE:J0 fu){p7:CL}(p9:S2 n p7):S2 (n+1) (U5 fu p7):=by
 intro px hm hpre
 have:=aB.we px
 have:s_.size=0:=rfl
 refine oN (fun g1=>?_) fun g1=>?_
 ·have:=J8 g1
  exact oB (tE px.aFy bS) fun x3 _=>oC (fun _=>oS) fun g3=>oS
 refine JO ?_ ?_
 ·refine gD ?_;rintro i5 ⟨⟩ hl5
  have:=bE px.aFv
  have:=c8 px.aFv i5 hl5
  exact oB (p9 (aR px.aFv i5) bS bS) fun x9 _=>oW (fun _=>oR) fun g8=>sP
 rintro⟨⟩-
 exact oS
theorem arV(n:Nat):eK fun fu=>S2 n (sH fu):=by
 induction n with
 |zero=>exact .all fun fu=>fun _ h=>absurd h (Nat.not_lt_zero _)
 |succ n ih=>exact bY ((ih.and ((bP 2147483648).and tE)).imp fun fu ⟨h,⟨hfu,tE⟩⟩=>fun px=>by rw [sH];exact an8 hfu tE h px)
theorem TY:eK ap8:=(arV 8589934592).imp fun fu h px hpre=>h px bS hpre
def YG(fu:Nat):Prop:= ∀(pa pb:Int),Ok (SI fu pa pb) (fun _=>True)
theorem uI:eK YG:=(bP 2147483648).imp fun fu hfu pa pb=>by
 exact oD (fun _=>oS) fun g1=>oS
def ab4(fu:Nat):Prop:= ∀(px:aB),wt px≤1073741824→Ok (kF fu px) (fun _=>True)
def FA(n:Nat)(m:sF):Prop:= ∀(px:aB),wt px<n→wt px≤1073741824→Ok (m px) (fun _=>True)
theorem aaQ{n fu:Nat}(hfu:2147483648≤fu)(uI:YG fu){p1:sF}(p4:FA n p1):FA (n+1) (FP fu p1):=by
 intro px hm hpre
 have:=aB.we px
 have:s_.size=0:=rfl
 refine oN (fun _=>oS) fun g1=>?_;refine oEN (fun i2 v3 hl3=>?_) ?_
 ·have:=bE px.aFv
  have:=c8 px.aFv i2 hl3
  exact oB (p4 (aR px.aFv i2) bS bS) fun x7 _=>oB (uI v3 x7) fun x9 _=>sP
 intro v3 _
 exact oS
theorem acT(n:Nat):eK fun fu=>FA n (kF fu):=by
 induction n with
 |zero=>exact .all fun fu=>fun _ h=>absurd h (Nat.not_lt_zero _)
 |succ n ih=>exact bY ((ih.and ((bP 2147483648).and uI)).imp fun fu ⟨h,⟨hfu,uI⟩⟩=>fun px=>by rw [kF];exact aaQ hfu uI h px)
theorem FH:eK ab4:=(acT 8589934592).imp fun fu h px hpre=>h px bS hpre
def WI(fu:Nat):Prop:= ∀(px:aB),wt px≤1073741824→Ok (jM fu px) (fun _=>True)
theorem c3:eK WI:=((((bP 2147483648).and TZ).and TY).and FH).imp fun fu ⟨⟨⟨hfu,TZ⟩,TY⟩,FH⟩ px hpre=>by
 refine oB (TZ px 900 bS) fun x2 _=>?_;refine oD (fun g2=>?_) fun g2=>?_
 ·refine oB (TY px bS) fun x5 _=>?_;refine oC (fun g4=>?_) fun g4=>?_
  ·exact oB (FH px bS) fun x8 _=>oS
  exact oS
 exact oS
def HV(fu:Nat):Prop:= ∀(p0:Z aB),wl p0≤1073741824→Ok (D0 fu p0) (fun r=>wl r.1≤wl p0)
theorem jR:eK HV:=(bP 2147483648).imp fun fu hfu p0 hpre=>by
 have:=dJ
 refine T8 p0 1 (fun i1 v3 hl2 hI3 _ _=>?_) ?_
 ·have:=bE p0
  have:=c8 p0 i1 hl2
  have:=aB.we (aR p0 i1)
  have:s_.size=0:=rfl
  refine oD (fun _=>oR) fun g4=>?_
  have:=J8 g4
  have:=bE (v3)
  have:=cO ((aR p0 i1).aFy)
  have:=bC ((aR p0 i1).aFy)
  refine oG fun z5=>?_
  have:=cE v3 ([((aR p0 i1).aFy)]:LB)
  exact sP
 intro v3 h1
 exact oS
def LS(fu:Nat):Prop:= ∀(ps:Y),Ok (cN fu ps) (fun r=>wt r=ps.size)
theorem bQ:eK LS:=(bP 2147483648).imp fun fu hfu ps=>by
 have:=mI
 have:=aB.wm ps []
 exact oS
def OQ(fu:Nat):Prop:= ∀(p0:LB),wl p0≤1073741824→Ok (I7 fu p0) (fun r=>wl r≤wl p0)
theorem oZ:eK OQ:=((bP 2147483648).and bQ).imp fun fu ⟨hfu,bQ⟩ p0 hpre=>by
 have:=mI
 refine T8 p0 1 (fun i1 v3 hl2 hI3 _ _=>?_) ?_
 ·have:=bE p0
  have:=c8 p0 i1 hl2
  have:=bC (aR p0 i1)
  refine oB (bQ (aR p0 i1)) fun x7 h4=>?_
  have:=bE (v3)
  have:=cO x7
  refine oG fun z5=>?_
  have:=cE v3 ([x7]:Z aB)
  exact sP
 intro v3 h1
 exact oS
def adN(fu:Nat):Prop:= ∀(p0:Z aB),wl p0≤1073741824→Ok (nU fu p0) (fun r=>wt r=wl p0)
theorem fH:eK adN:=(bP 2147483648).imp fun fu hfu p0 hpre=>by
 have:=mI
 have:=bE (p0)
 refine oG fun z1=>?_
 have:s_.size=0:=rfl
 have:=cE ([]:Z aB) p0
 have:=aB.wm s_ (([])++p0)
 exact oS
def ab1(fu:Nat):Prop:= ∀(pa pb:aB),wt pa≤1073741824→Ok (gI fu pa pb) (fun _=>True)
def E9(n:Nat)(m:sE):Prop:= ∀(pa pb:aB),wt pa<n→wt pa≤1073741824→Ok (m pa pb) (fun _=>True)
theorem aaG{n fu:Nat}(hfu:2147483648≤fu){p2:sE}(p5:E9 n p2):E9 (n+1) (FL fu p2):=by
 intro pa pb hm hpre
 have:=aB.we pa
 have:=aB.we pb
 refine oN (fun _=>oS) fun g1=>?_
 have:=bE pa.aFv
 have:=bE pb.aFv
 refine oN (fun _=>oS) fun g2=>?_;refine JO ?_ ?_
 ·refine gD ?_;rintro i3 ⟨⟩ hl4
  have:=bE (pb.aFv)
  refine oG fun z6=>?_
  have:=c8 pa.aFv i3 hl4
  have:=c8 pb.aFv i3 z6
  exact oB (p5 (aR pa.aFv i3) (aR pb.aFv i3) bS bS) fun x8 _=>oW (fun _=>oR) fun g8=>sP
 rintro⟨⟩-
 exact oS
theorem acQ(n:Nat):eK fun fu=>E9 n (gI fu):=by
 induction n with
 |zero=>exact .all fun fu=>fun _ _ h=>absurd h (Nat.not_lt_zero _)
 |succ n ih=>exact bY ((ih.and (bP 2147483648)).imp fun fu ⟨h,hfu⟩=>fun pa pb=>by rw [gI];exact aaG hfu h pa pb)
theorem iN:eK ab1:=(acQ 8589934592).imp fun fu h pa pb hpre=>h pa pb bS hpre
def YF(fu:Nat):Prop:= ∀(p0:LB) (ps:Y),Ok (mL fu p0 ps) (fun _=>True)
theorem eN:eK YF:=(bP 2147483648).imp fun fu hfu p0 ps=>by
 refine JO ?_ ?_
 ·refine gD ?_;rintro i1 ⟨⟩ hl2
  have:=bE p0
  exact oD (fun _=>oR) fun g4=>sP
 rintro⟨⟩-
 exact oS
def ab2(fu:Nat):Prop:= ∀(ps:Y),Ok (zM fu ps) (fun _=>True)
theorem FF:eK ab2:=((bP 2147483648).and eN).imp fun fu ⟨hfu,eN⟩ ps=>by
 have:fE.size=3:=rfl
 have:eU.size=4:=rfl
 have:kK.size=5:=rfl
 have:BP.size=3:=rfl
 have:IQ.size=2:=rfl
 have:JL.size=3:=rfl
 have:BC.size=4:=rfl
 have:JM.size=3:=rfl
 have:sA.size=6:=rfl
 have:BD.size=4:=rfl
 have:sQ.size=4:=rfl
 have:nL.size=5:=rfl
 have:wl ([fE,eU,kK,BP,IQ,JL,BC,JM,sA,BD,sQ,nL]:LB)=58:=rfl
 exact oB (eN ([fE,eU,kK,BP,IQ,JL,BC,JM,sA,BD,sQ,nL]:LB) ps) fun x2 _=>oS
def CY(fu:Nat):Prop:= ∀(ps:Y),Ok (dX fu ps) (fun _=>True)
theorem bO:eK CY:=(((bP 2147483648).and tW).and FF).imp fun fu ⟨⟨hfu,tW⟩,FF⟩ ps=>by
 refine oB (tW (ps.size:Int) 1 8) fun x2 _=>oW (fun _=>oS) fun g2=>oB (FF ps) fun x5 _=>oC (fun _=>oS) fun g4=>?_;refine JO ?_ ?_
 ·refine gD ?_;rintro i7 ⟨⟩ hl6
  refine oG fun z8=>?_;refine oD (fun g9=>?_) fun g9=>?_
  ·refine oW (fun g10=>?_) fun g10=>?_
   ·exact oD (fun _=>oR) fun g11=>oD (fun _=>oR) fun g12=>oD (fun _=>oR) fun g13=>sP
   exact sP
  exact oD (fun _=>oR) fun g14=>oD (fun _=>oR) fun g15=>oD (fun _=>oR) fun g16=>sP
 rintro⟨⟩-
 exact oS
def YI(fu:Nat):Prop:= ∀(p0:LB),Ok (I8 fu p0) (fun _=>True)
theorem tF:eK YI:=((bP 2147483648).and bO).imp fun fu ⟨hfu,bO⟩ p0=>by
 refine JO ?_ ?_
 ·refine gD ?_;rintro i1 ⟨⟩ hl2
  have:=bE p0
  have:=c8 p0 i1 hl2
  have:=bC (aR p0 i1)
  exact oB (bO (aR p0 i1)) fun x5 _=>oW (fun _=>oR) fun g5=>sP
 rintro⟨⟩-
 exact oS
def JY(fu:Nat):Prop:= ∀(p0:LB),Ok (l0 fu p0) (fun _=>True)
theorem fB:eK JY:=((bP 2147483648).and eN).imp fun fu ⟨hfu,eN⟩ p0=>by
 refine JO ?_ ?_
 ·refine gD ?_;rintro i1 ⟨⟩ hl2
  have:=bE p0
  refine oG fun z4=>?_
  have:=XZ (0:Int).toNat (i1:Int).toNat p0
  have:=c8 p0 i1 hl2
  have:=bC (aR p0 i1)
  exact oB (eN (List.drop (0:Int).toNat (List.take (i1:Int).toNat p0)) (aR p0 i1)) fun x6 _=>oC (fun _=>oR) fun g6=>sP
 rintro⟨⟩-
 exact oS
def YK(fu:Nat):Prop:= ∀(ps:Y),Ok (qO fu ps) (fun r=>wt r=ps.size)
theorem fV:eK YK:=(bP 2147483648).imp fun fu hfu ps=>by
 have:=b9
 have:=aA.wm 1 ps []
 exact oS
def YJ(fu:Nat):Prop:= ∀(ps:Y) (pD:Z aA),ps.size+wl pD≤1073741824→Ok (iJ fu ps pD) (fun r=>wt r=ps.size+wl pD)
theorem eE:eK YJ:=(bP 2147483648).imp fun fu hfu ps pD hpre=>by
 have:=b9
 have:=bE (pD)
 refine oG fun z1=>?_
 have:=cE ([]:Z aA) pD
 have:=aA.wm 2 ps (([])++pD)
 exact oS
def afF(fu:Nat):Prop:= ∀(p3:aA),wt p3≤67108864→Ok (oU fu p3) (fun r=>wt r+1≤8*(wt p3+1))
def ae9(n:Nat)(m:E6):Prop:= ∀(p3:aA),wt p3<n→wt p3≤67108864→Ok (m p3) (fun r=>wt r+1≤8*(wt p3+1))
theorem auE{n fu:Nat}(hfu:2147483648≤fu)(bQ:LS fu)(fH:adN fu){pK:E6}(pP:ae9 n pK):ae9 (n+1) (ahO fu pK):=by
 intro p3 hm hpre
 refine JO ?_ ?_
 ·have:=aA.we p3
  refine oD (fun g2=>?_) fun g2=>?_
  ·have:asB.size=1:=rfl
   refine oG fun z3=>?_
   have:=fR asB p3.aFs
   exact oB (bQ (asB++p3.aFs)) fun x4 h4=>oL
  refine oD (fun g5=>?_) fun g5=>?_
  ·have:BP.size=3:=rfl
   refine oB (bQ BP) fun x7 h6=>oB (bQ p3.aFs) fun x9 h7=>?_
   have:=mE x7 x9
   exact oB (fH ([x7,x9]:Z aB) bS) fun x11 h8=>oL
  refine oD (fun g9=>?_) fun g9=>?_
  ·have:=bE p3.aFt
   refine oD (fun g10=>?_) fun g10=>?_
   ·exact oB (bQ p3.aFs) fun x15 h11=>oL
   exact oI
  exact oI
 rintro⟨⟩-
 refine g0 (E:=fun v17=>wl v17≤6) ?_ ?_
 ·have:=aA.we p3
  refine oD (fun g13=>?_) fun g13=>?_
  ·have:kK.size=5:=rfl
   refine oB (bQ kK) fun x20 h14=>?_
   have:=mI
   have:=cO x20
   refine oG fun z15=>?_
   have:=cE ([]:Z aB) ([x20]:Z aB)
   exact oI
  have:=mI
  exact oI
 intro v17 h12
 have:=aA.we p3
 refine oB (bQ p3.aFs) fun x23 h16=>?_
 have:=bE (v17)
 have:=cO x23
 refine oG fun z17=>?_
 have:=cE v17 ([x23]:Z aB)
 refine T8 p3.aFt 8 (fun i25 v27 hl19 hI20 _ _=>?_) ?_
 ·have:=bE p3.aFt
  have:=c8 p3.aFt i25 hl19
  refine oB (pP (aR p3.aFt i25) bS bS) fun x31 h21=>?_
  have:=bE (v27)
  have:=cO x31
  refine oG fun z22=>?_
  have:=cE v27 ([x31]:Z aB)
  exact sP
 intro v27 h18
 have:s_.size=0:=rfl
 have:=aB.wm s_ v27
 exact oS
theorem av1(n:Nat):eK fun fu=>ae9 n (oU fu):=by
 induction n with
 |zero=>exact .all fun fu=>fun _ h=>absurd h (Nat.not_lt_zero _)
 |succ n ih=>exact bY ((ih.and (((bP 2147483648).and bQ).and fH)).imp fun fu ⟨h,⟨⟨hfu,bQ⟩,fH⟩⟩=>fun p3=>by rw [oU];exact auE hfu bQ fH h p3)
theorem j9:eK afF:=(av1 8589934592).imp fun fu h p3 hpre=>h p3 bS hpre
def aqD(fu:Nat):Prop:= ∀(pt:aA) (pC:Int),wt pt≤1073741824→Ok (sK fu pt pC) (fun _=>True)
def S5(n:Nat)(m:CQ):Prop:= ∀(pt:aA) (pC:Int),wt pt<n→wt pt≤1073741824→Ok (m pt pC) (fun _=>True)
theorem aoK{n fu:Nat}(hfu:2147483648≤fu){pE:CQ}(pL:S5 n pE):S5 (n+1) (U7 fu pE):=by
 intro pt pC hm hpre
 refine oEN (fun i1 v2 hl2=>?_) ?_
 ·have:=aA.we pt
  have:=bE pt.aFt
  refine oD (fun g4=>?_) fun g4=>?_
  ·have:=c8 pt.aFt i1 hl2
   exact oB (pL (aR pt.aFt i1) v2 bS bS) fun x7 _=>sP
  exact oK
 intro v2 _
 exact oS
theorem ar0(n:Nat):eK fun fu=>S5 n (sK fu):=by
 induction n with
 |zero=>exact .all fun fu=>fun _ _ h=>absurd h (Nat.not_lt_zero _)
 |succ n ih=>exact bY ((ih.and (bP 2147483648)).imp fun fu ⟨h,hfu⟩=>fun pt pC=>by rw [sK];exact aoK hfu h pt pC)
theorem T5:eK aqD:=(ar0 8589934592).imp fun fu h pt pC hpre=>h pt pC bS hpre
def afD(fu:Nat):Prop:= ∀(pt:aA),wt pt≤1073741824→Ok (lT fu pt) (fun _=>True)
def HO(n:Nat)(m:t1):Prop:= ∀(pt:aA),wt pt<n→wt pt≤1073741824→Ok (m pt) (fun _=>True)
theorem acX{n fu:Nat}(hfu:2147483648≤fu)(uI:YG fu){p8:t1}(pJ:HO n p8):HO (n+1) (IP fu p8):=by
 intro pt hm hpre
 refine oEN (fun i1 v2 hl2=>?_) ?_
 ·have:=aA.we pt
  have:=bE pt.aFt
  have:=c8 pt.aFt i1 hl2
  refine oB (pJ (aR pt.aFt i1) bS bS) fun x6 _=>?_
  have:=fK (1+x6)
  exact oB (uI v2 (bB (1+x6))) fun x8 _=>sP
 intro v2 _
 exact oS
theorem agH(n:Nat):eK fun fu=>HO n (lT fu):=by
 induction n with
 |zero=>exact .all fun fu=>fun _ h=>absurd h (Nat.not_lt_zero _)
 |succ n ih=>exact bY ((ih.and ((bP 2147483648).and uI)).imp fun fu ⟨h,⟨hfu,uI⟩⟩=>fun pt=>by rw [lT];exact acX hfu uI h pt)
theorem IC:eK afD:=(agH 8589934592).imp fun fu h pt hpre=>h pt bS hpre
def adP(fu:Nat):Prop:= ∀(ps:Y),Ok (CP fu ps) (fun _=>True)
theorem CI:eK adP:=(bP 2147483648).imp fun fu hfu ps=>by
 exact oD (fun _=>oS) fun g1=>oS
def aqB(fu:Nat):Prop:= ∀(p3:aA),wt p3≤1073741824→Ok (m5 fu p3) (fun _=>True)
def S4(n:Nat)(m:wF):Prop:= ∀(p3:aA),wt p3<n→wt p3≤1073741824→Ok (m p3) (fun _=>True)
theorem aoH{n fu:Nat}(hfu:2147483648≤fu)(bO:CY fu)(CI:adP fu){pF:wF}(pM:S4 n pF):S4 (n+1) (MS fu pF):=by
 intro p3 hm hpre
 have:=aA.we p3
 refine oB (bO p3.aFs) fun x2 _=>?_;refine JO ?_ ?_
 ·refine JO ?_ ?_
  ·exact oD (fun _=>oI) fun g4=>oI
  intro v4 _
  refine oC (fun g5=>?_) fun g5=>?_
  ·exact oC (fun _=>oI) fun g6=>oI
  refine oD (fun g7=>?_) fun g7=>?_
  ·exact oC (fun _=>oI) fun g8=>oI
  refine oD (fun g9=>?_) fun g9=>?_
  ·refine oC (fun g10=>?_) fun g10=>?_
   ·exact oD (fun _=>oI) fun g11=>oB (CI p3.aFs) fun x14 _=>oC (fun _=>oI) fun g13=>oI
   exact oB (CI p3.aFs) fun x17 _=>oC (fun _=>oI) fun g15=>oI
  exact oL
 intro v3 _
 refine oEN (fun i19 v20 hl17=>?_) ?_
 ·have:=bE p3.aFt
  refine oC (fun g19=>?_) fun g19=>?_
  ·have:=c8 p3.aFt i19 hl17
   exact oB (pM (aR p3.aFt i19) bS bS) fun x25 _=>sP
  exact sP
 intro v20 _
 exact oS
theorem arZ(n:Nat):eK fun fu=>S4 n (m5 fu):=by
 induction n with
 |zero=>exact .all fun fu=>fun _ h=>absurd h (Nat.not_lt_zero _)
 |succ n ih=>exact bY ((ih.and (((bP 2147483648).and bO).and CI)).imp fun fu ⟨h,⟨⟨hfu,bO⟩,CI⟩⟩=>fun p3=>by rw [m5];exact aoH hfu bO CI h p3)
theorem T4:eK aqB:=(arZ 8589934592).imp fun fu h p3 hpre=>h p3 bS hpre
def J1(fu:Nat):Prop:= ∀(pt:aA),wt pt≤1073741824→Ok (jK fu pt) (fun _=>True)
theorem fC:eK J1:=((((bP 2147483648).and T5).and IC).and T4).imp fun fu ⟨⟨⟨hfu,T5⟩,IC⟩,T4⟩ pt hpre=>by
 refine oB (T5 pt 60 bS) fun x2 _=>?_;refine oD (fun g2=>?_) fun g2=>?_
 ·refine oB (IC pt bS) fun x5 _=>?_;refine oD (fun g4=>?_) fun g4=>?_
  ·exact oB (T4 pt bS) fun x8 _=>oS
  exact oS
 exact oS
def QK(fu:Nat):Prop:= ∀(pa pb:aA),wt pa≤1073741824→Ok (gC fu pa pb) (fun _=>True)
def BS(n:Nat)(m:lS):Prop:= ∀(pa pb:aA),2*wt pa+1<n→wt pa≤1073741824→Ok (m pa pb) (fun _=>True)
def LQ(n:Nat)(m:sL):Prop:= ∀(pa pb:Z aA),2*wl pa<n→wl pa≤1073741824→Ok (m pa pb) (fun _=>True)
theorem acS{n fu:Nat}(hfu:2147483648≤fu){p1:lS}(p9:BS n p1){p4:sL}(pG:LQ n p4):BS (n+1) (B6 fu p1 p4):=by
 intro pa pb hm hpre
 have:=aA.we pa
 have:=aA.we pb
 refine oD (fun g1=>?_) fun g1=>?_
 ·refine oD (fun g2=>?_) fun g2=>?_
  ·exact oB (pG pa.aFt pb.aFt bS bS) fun x4 _=>oS
  exact oS
 exact oS
theorem aoN{n fu:Nat}(hfu:2147483648≤fu){p1:lS}(p9:BS n p1){p4:sL}(pG:LQ n p4):LQ (n+1) (HF fu p1 p4):=by
 intro pa pb hm hpre
 have:=bE pa
 have:=bE pb
 refine oN (fun _=>oS) fun g1=>?_;refine JO ?_ ?_
 ·refine gD ?_;rintro i2 ⟨⟩ hl3
  have:=bE (pb)
  refine oG fun z5=>?_
  have:=c8 pa i2 hl3
  have:=c8 pb i2 z5
  exact oB (p9 (aR pa i2) (aR pb i2) bS bS) fun x7 _=>oW (fun _=>oR) fun g7=>sP
 rintro⟨⟩-
 exact oS
theorem agC(n:Nat):eK fun fu=>BS n (gC fu)∧LQ n (mB fu):=by
 induction n with
 |zero=>exact .all fun fu=>⟨fun _ _ h=>absurd h (Nat.not_lt_zero _),fun _ _ h=>absurd h (Nat.not_lt_zero _)⟩
 |succ n ih=>exact bY ((ih.and (bP 2147483648)).imp fun fu ⟨h,hfu⟩=>⟨fun pa pb=>by rw [gC];exact acS hfu h.1 h.2 pa pb,fun pa pb=>by rw [mB];exact aoN hfu h.1 h.2 pa pb⟩)
theorem wV:eK QK:=(agC 8589934592).imp fun fu h pa pb hpre=>h.1 pa pb bS hpre
def aqF(fu:Nat):Prop:= ∀(pt:aA) (p7:LB),wt pt+wl p7≤268435456→Ok (m7 fu pt p7) (fun r=>wl r≤wl p7+wt pt+1)
def S6(n:Nat)(m:y2):Prop:= ∀(pt:aA) (p7:LB),wt pt<n→wt pt+wl p7≤268435456→Ok (m pt p7) (fun r=>wl r≤wl p7+wt pt+1)
theorem aoQ{n fu:Nat}(hfu:2147483648≤fu)(eN:YF fu){pH:y2}(pO:S6 n pH):S6 (n+1) (MX fu pH):=by
 intro pt p7 hm hpre
 have:=aA.we pt
 refine g0 (E:=fun v2=>wl v2+wl pt.aFt≤wl p7+wt pt+1) ?_ ?_
 ·refine oD (fun g2=>?_) fun g2=>?_
  ·refine oB (eN p7 pt.aFs) fun x5 _=>?_;refine oW (fun g4=>?_) fun g4=>?_
   ·have:=bE (p7)
    have:=cO pt.aFs
    have:=bC pt.aFs
    refine oG fun z5=>?_
    have:=cE p7 ([pt.aFs]:LB)
    exact oI
   exact oI
  exact oI
 intro v2 h1
 refine T8 pt.aFt 1 (fun i8 v10 hl7 hI8 _ _=>?_) ?_
 ·have:=bE pt.aFt
  have:=c8 pt.aFt i8 hl7
  exact oB (pO (aR pt.aFt i8) v10 bS bS) fun x14 h9=>sP
 intro v10 h6
 exact oS
theorem ar3(n:Nat):eK fun fu=>S6 n (m7 fu):=by
 induction n with
 |zero=>exact .all fun fu=>fun _ _ h=>absurd h (Nat.not_lt_zero _)
 |succ n ih=>exact bY ((ih.and ((bP 2147483648).and eN)).imp fun fu ⟨h,⟨hfu,eN⟩⟩=>fun pt p7=>by rw [m7];exact aoQ hfu eN h pt p7)
theorem T6:eK aqF:=(ar3 8589934592).imp fun fu h pt p7 hpre=>h pt p7 bS hpre
def S9(fu:Nat):Prop:= ∀(pt:aA),wt pt≤268435456→Ok (qL fu pt) (fun r=>wl r≤wt pt+1)
theorem yC:eK S9:=((bP 2147483648).and T6).imp fun fu ⟨hfu,T6⟩ pt hpre=>by
 have:=dJ
 exact oB (T6 pt ([]:LB) bS) fun x2 h1=>oS
def S8(fu:Nat):Prop:= ∀(pt:aA),wt pt≤1073741824→Ok (eI fu pt) (fun _=>True)
def xP(n:Nat)(m:m3):Prop:= ∀(pt:aA),wt pt<n→wt pt≤1073741824→Ok (m pt) (fun _=>True)
theorem R3{n fu:Nat}(hfu:2147483648≤fu){p5:m3}(pA:xP n p5):xP (n+1) (tZ fu p5):=by
 intro pt hm hpre
 refine JO ?_ ?_
 ·refine gD ?_;rintro i1 ⟨⟩ hl2
  have:=aA.we pt
  have:=bE pt.aFt
  have:=c8 pt.aFt i1 hl2
  exact oB (pA (aR pt.aFt i1) bS bS) fun x5 _=>oC (fun _=>oR) fun g5=>sP
 rintro⟨⟩-
 exact oS
theorem UF(n:Nat):eK fun fu=>xP n (eI fu):=by
 induction n with
 |zero=>exact .all fun fu=>fun _ h=>absurd h (Nat.not_lt_zero _)
 |succ n ih=>exact bY ((ih.and (bP 2147483648)).imp fun fu ⟨h,hfu⟩=>fun pt=>by rw [eI];exact R3 hfu h pt)
theorem mY:eK S8:=(UF 8589934592).imp fun fu h pt hpre=>h pt bS hpre
def JZ(fu:Nat):Prop:= ∀(pt:aA) (pv:Y),wt pt+pv.size≤1073741824→Ok (eR fu pt pv) (fun _=>True)
def s4(n:Nat)(m:iG):Prop:= ∀(pt:aA) (pv:Y),wt pt<n→wt pt+pv.size≤1073741824→Ok (m pt pv) (fun _=>True)
theorem JS{n fu:Nat}(hfu:2147483648≤fu){p2:iG}(p6:s4 n p2):s4 (n+1) (tI fu p2):=by
 intro pt pv hm hpre
 refine JO ?_ ?_
 ·refine oD (fun g2=>?_) fun g2=>?_
  ·exact oD (fun _=>oI) fun g3=>oI
  exact oI
 intro v1 _
 refine oEN (fun i4 v5 hl5=>?_) ?_
 ·have:=aA.we pt
  have:=bE pt.aFt
  have:=c8 pt.aFt i4 hl5
  exact oB (p6 (aR pt.aFt i4) pv bS bS) fun x9 _=>sP
 intro v5 _
 exact oS
theorem KY(n:Nat):eK fun fu=>s4 n (eR fu):=by
 induction n with
 |zero=>exact .all fun fu=>fun _ _ h=>absurd h (Nat.not_lt_zero _)
 |succ n ih=>exact bY ((ih.and (bP 2147483648)).imp fun fu ⟨h,hfu⟩=>fun pt pv=>by rw [eR];exact JS hfu h pt pv)
theorem tD:eK JZ:=(KY 8589934592).imp fun fu h pt pv hpre=>h pt pv bS hpre
def ah8(fu:Nat):Prop:= ∀(pv:Y) (pt:aA),pv.size+wt pt≤1073741824→Ok (KZ fu pv pt) (fun _=>True)
theorem KK:eK ah8:=((bP 2147483648).and tD).imp fun fu ⟨hfu,tD⟩ pv pt hpre=>by
 exact oB (tD pt pv bS) fun x2 _=>oS
theorem avQ(d:DS)(l:LB):0<l.length→(d.pick l).size+1≤wl l:=fun h=>by
 have:=FU (d.pick_mem h)
 exact this
theorem aqM(d:DS)(n:Nat):0<n→d.below n<n:=fun h=>d.below_lt h
theorem auR(E:Int): -9223372036854775808≤bB E∧bB E≤9223372036854775807:=by
 unfold bB IntKind.wrap
 simp [IntKind.bits,IntKind.signed]
 omega
inductive OC:aM→Prop
 |mk {k:Int} {t n:ByteArray} {i:Int} {ty:aA} {args:List aM} {arms:List cC} (h:(k=2→0≤i∧i≤1)∧(k=1→i.natAbs≤9223372036854775808)) (ha: ∀a∈args,OC a) (hm: ∀m∈arms,OC m.aFE):OC (.mk k t n i ty args arms)
theorem OC.num{e:aM}(h:OC e):(e.aFw=2→0≤e.aGa∧e.aGa≤1)∧(e.aFw=1→e.aGa.natAbs≤9223372036854775808):=by cases h;assumption
theorem OC.arg{e:aM}(h:OC e): ∀a∈e.aFt,OC a:=by cases h;assumption
theorem OC.arm{e:aM}(h:OC e): ∀m∈e.aFP,OC m.aFE:=by cases h;assumption
theorem OC.zero:OC (aM.mk 0 s_ s_ 0 (aA.mk 0 s_ []) [] []):= .mk ⟨by omega,by omega⟩ (by simp) (by simp)
section
variable {α:Type}
theorem ao4{P:α→Prop}: ∀a∈([]:Z α),P a:=by simp
theorem as3{P:α→Prop}{l:Z α}{x:α}(h: ∀a∈l,P a)(hx:P x): ∀a∈l++ [x],P a:=by
 intro a ha
 rcases List.mem_append.1 ha with ha|ha
 ·exact h a ha
 ·obtain rfl:=List.mem_singleton.1 ha
  exact hx
theorem afI [Inhabited α]{P:α→Prop}{l:Z α}{i:Nat}(h: ∀a∈l,P a)(hi:i<l.length):P (aR l i):=h _ (cA hi)
variable [Wt α]
theorem amN(a:Z α)(x:α):(a.length=0→wl (List.drop 1 (a++ [x]))=0)∧(0<a.length→wl (List.drop 1 (a++ [x]))=wl (List.drop 1 a)+wt x+1):=by
 cases a with
 |nil=>exact⟨fun _=>rfl,fun h=>by simp at h⟩
 |cons b a=>exact⟨fun h=>by simp at h,fun _=>by simp only [List.cons_append,List.drop_succ_cons,List.drop_zero];rw [(cE _ _).1,(cO _).1];omega⟩
theorem ay0(v:Z α):wl (List.drop (1:Int).toNat (List.take (((v.length:Nat):Int):Int).toNat v))=wl (List.drop 1 v):=by
 have:List.take (((v.length:Nat):Int):Int).toNat v=v:=by simp
 rw [this]
 rfl
theorem B3(L:Z α)(x:Int)(k:Nat):(((k:Int)≤((L.length:Nat):Int)∧x=k)∨(((L.length:Nat):Int)≤k∧x=((L.length:Nat):Int)))→wl (List.drop (x:Int).toNat (List.take (((L.length:Nat):Int):Int).toNat L))+wl (List.take k L)≤wl L:=by
 have e:List.take (((L.length:Nat):Int):Int).toNat L=L:=by simp
 rw [e]
 rintro(⟨h,rfl⟩|⟨h,rfl⟩)
 ·have:=LL k L
  simp only [Int.toNat_natCast]
  omega
 ·simp only [Int.toNat_natCast,List.drop_length]
  have:=rR L k
  show 0+_≤_
  omega
theorem avP(L:Z α)(x:Int):(((2:Int)≤((L.length:Nat):Int)∧x=2)∨(((L.length:Nat):Int)≤2∧x=((L.length:Nat):Int)))→wl (List.drop (1:Int).toNat (List.take (x:Int).toNat L))+wl (List.take 1 L)≤wl (List.take 2 L):=by
 have key: ∀M:Z α,wl (List.drop (1:Int).toNat M)+wl (List.take 1 M)=wl M:=fun M=>by
  have:=LL 1 M
  show wl (List.drop 1 M)+_=_
  omega
 rintro(⟨h,rfl⟩|⟨h,rfl⟩)
 ·have:=key (L.take 2)
  rw [List.take_take] at this
  exact Nat.le_of_eq this
 ·have h2:L.length≤2:=by omega
  have:=key L
  rw [show List.take (((L.length:Nat):Int):Int).toNat L=L by simp,List.take_of_length_le h2]
  exact Nat.le_of_eq this
variable [Inhabited α]
theorem anA(L:Z α)(a b c:α)(k k1:Nat)(hk:k+1=k1):(k<L.length→wt (aR ((([])++L)++([a,b,c]:Z α)) k)+1+wl (List.take k L)=wl (List.take k1 L))∧(L.length≤k→k<L.length+3→wt (aR ((([])++L)++([a,b,c]:Z α)) k)≤wt a+wt b+wt c∧wl (List.take k L)=wl L∧wl (List.take k1 L)=wl L)∧wl (List.take k1 L)≤wl L:=by
 subst hk
 rw [List.nil_append]
 refine⟨fun h=>?_,fun h h3=>⟨?_,by rw [List.take_of_length_le h],by rw [List.take_of_length_le (by omega)]⟩,rR L _⟩
 ·have h2:=rT L k h
  have e:aR (L++ [a,b,c]) k=aR L k:=by
   unfold aR
   rw [List.getElem?_append_left h]
  rw [e]
  omega
 ·have e:aR (L++ [a,b,c]) k=aR [a,b,c] (k-L.length):=by
   unfold aR
   rw [List.getElem?_append_right h]
  rw [e]
  have:k-L.length=0∨k-L.length=1∨k-L.length=2:=by omega
  rcases this with h|h|h<;>rw [h]<;>simp [aR]<;>omega
end
theorem oX{α β:Type}[Wt α]{v:Z α}{x:α}{PA:α→Prop}{E:Z α→Prop}{Q:β→Prop}{m:Z α→Prop}(hB: ∀a∈v,PA a)(h:m (v++ [x]):=by first|omega|(dsimp only;omega))(hx:PA x:=by first|assumption|exact OC.zero):Ok (some (LR.next (v++ [x]))) (PL Q (fun v=>m v∧ ∀a∈v,PA a) E):=⟨_,rfl,h,as3 hB hx⟩
theorem oS2{α:Type}{P1 P2:α→Prop}{a:α}(h:P1 a:=by first|omega|(dsimp only;omega))(k:P2 a:=by first|assumption|exact OC.zero|exact .mk ⟨by omega,by omega⟩ (by first|assumption|exact ao4) (by first|assumption|exact ao4)):Ok (some a) (fun a=>P1 a∧P2 a):=⟨a,rfl,h,k⟩
def ayJ(p r:eC):Prop:=r.aGb=p.aGb∧p.aF2≤r.aF2∧r.aF2≤((p.aGb.size:Nat):Int)∧r.aFY=p.aFY∧r.aF5=p.aF5
def adO(fu:Nat):Prop:= ∀p:eC,0≤p.aF2→p.aF2≤((p.aGb.size:Nat):Int)→p.aGb.size≤1048576→Ok (CO fu p) (ayJ p)
theorem ad6:eK adO:=(bP 2147483648).imp fun fu hfu p h0 h1 h2=>by
 unfold CO
 refine g0 (E:=fun v1=>p.aF2≤v1∧v1≤((p.aGb.size:Nat):Int)) ?_ (fun v1 h=>Ok.some ⟨rfl,h.1,h.2,rfl,rfl⟩)
 refine Ok.loopW (fun v1=>p.aF2≤v1∧v1≤((p.aGb.size:Nat):Int)) (fun v1=>(((p.aGb.size:Nat):Int)-v1).toNat) ?_ _ _ bS bS
 intro v1 hI
 have:=fK (v1+1)
 unfold abD
 refine mD (fun g=>?_) (fun g=>Ok.brk hI)
 refine Ok.gdk bS (fun z=>?_)
 refine mD (fun _=>Ok.next bS) (fun _=>?_)
 refine mD (fun _=>Ok.next bS) (fun _=>Ok.brk hI)
def aiK(p:eC)(r:aB×eC):Prop:=r.2.aGb=p.aGb∧p.aF2≤r.2.aF2∧r.2.aF2≤((p.aGb.size:Nat):Int)∧(r.2.aF5=false→r.2.aFY=p.aFY∧(wt r.1:Int)+1≤2*(r.2.aF2-p.aF2))
def asZ(n:Nat)(r:eC→J (aB×eC)):Prop:= ∀p:eC,(14-p.aFY).toNat<n→0≤p.aF2→p.aF2≤((p.aGb.size:Nat):Int)→p.aGb.size≤1048576→0≤p.aFY→p.aFY≤14→p.aF5=false→Ok (r p) (aiK p)
theorem aoD(n fu:Nat)(hfu:2147483648≤fu)(k1:adO fu)(k2:adM fu)(r:CN)(hr:asZ n r):asZ (n+1) (MP fu r):=by
 intro p hn h0 h1 h2 hd hd2 hb
 unfold MP
 refine Ok.bd (k1 p h0 h1 h2) ?_;rintro x ⟨e1,e2,e3,e4,e5⟩
 have e3':x.aF2≤((x.aGb.size:Nat):Int):=by rw [e1];exact e3
 have bad: ∀v:Int,p.aF2≤v→v≤((p.aGb.size:Nat):Int)→Ok (some ((aB.mk s_ []),(eC.mk x.aGb v x.aFY (bB (x.aF0+1)) true))) (aiK p):=fun v hv hv2=>Ok.some ⟨e1,hv,hv2,fun h=>by cases h⟩
 refine mD (fun _=>bad _ e2 e3) (fun g1=>?_)
 refine mD (fun _=>bad _ e2 e3) (fun g2=>?_)
 refine g0 (E:=fun v=>x.aF2≤v∧v≤((x.aGb.size:Nat):Int)) ?_ ?_
 ·have hz:x.aGb.size≤1048576:=by rw [e1];exact h2
  refine Ok.loopW (fun v1=>x.aF2≤v1∧v1≤((x.aGb.size:Nat):Int)) (fun v1=>(((x.aGb.size:Nat):Int)-v1).toNat) ?_ _ _ bS bS
  intro v1 hI
  have:=fK (v1+1)
  unfold abB
  refine mD (fun g=>?_) (fun g=>Ok.brk hI)
  refine Ok.gdk bS (fun z=>?_)
  refine Ok.bd (k2 _) ?_;rintro b-
  exact Ok.sw (fun _=>Ok.next bS) (fun _=>Ok.brk hI)
 intro v hv
 refine mD (fun g3=>?_) (fun g3=>?_)
 ·refine Ok.gdk bS (fun z=>Ok.some ⟨e1,by show _≤v;omega,by show v≤_;rw [← e1];exact hv.2,fun _=>⟨e4,?_⟩⟩)
  show(wt (aB.mk _ []):Int)+1≤2*(v-p.aF2)
  rw [aB.wm,HY]
  have:wl ([]:Z aB)=0:=rfl
  omega
 ·refine Ok.gdk bS (fun z=>?_)
  have hvp:v≤((p.aGb.size:Nat):Int):=by rw [← e1];exact hv.2
  refine YL (fun _=>bad _ (by omega) hvp) (fun g4=>?_)
  refine mD (fun _=>bad _ (by omega) hvp) (fun g5=>?_)
  have w1:=fK (v+1)
  have w2:=fK (x.aFY+1)
  have hz:x.aGb.size≤1048576:=by rw [e1];exact h2
  refine g0 (E:=fun(q:Y×Int×Int×Int×Bool×Z aB)=>q.1=p.aGb∧p.aF2≤q.2.1∧q.2.1≤((p.aGb.size:Nat):Int)∧q.2.2.2.2.1=true) ?_ ?_
  ·refine Ok.loopW (fun(q:Y×Int×Int×Int×Bool×Z aB)=>q.1=p.aGb∧v+1≤q.2.1∧q.2.1≤((p.aGb.size:Nat):Int)∧(q.2.2.2.2.1=false→q.2.2.1=p.aFY+1∧(wl q.2.2.2.2.2:Int)≤2*(q.2.1-(v+1)))) (fun q=>(2*(((p.aGb.size:Nat):Int)-q.2.1)).toNat+(if q.2.2.2.2.1 then 0 else 1)) ?_ _ _ ?_ ?_
   ·rintro⟨v17,v18,v19,v20,v21,v23⟩ ⟨i1,i2,i3,i4⟩
    dsimp only at i1 i2 i3 i4
    subst i1
    unfold abC
    refine amE (fun g6=>?_) (fun g6=>Ok.brk ⟨rfl,by show p.aF2≤v18;omega,i3,g6⟩)
    subst g6
    obtain⟨i5,i6⟩:=i4 rfl
    subst i5
    refine Ok.bd (k1 _ (by show 0≤v18;omega) i3 h2) ?_;rintro y ⟨f1,f2,f3,f4,f5⟩
    replace f1:y.aGb=p.aGb:=f1
    replace f2:v18≤y.aF2:=f2
    replace f3:y.aF2≤((p.aGb.size:Nat):Int):=f3
    replace f4:y.aFY=p.aFY+1:=f4
    replace f5:y.aF5=false:=f5
    have hl:=bE v23
    have step: ∀q:aB×eC,aiK y q→Ok (gd ((v23).length+(([q.1]:Z aB)).length≤68719476736) (some (LR.next (q.2.aGb,q.2.aF2,q.2.aFY,q.2.aF0,q.2.aF5,(v23++([q.1]:Z aB)))))) (PL (aiK p) (fun s'=>(fun(q:Y×Int×Int×Int×Bool×Z aB)=>q.1=p.aGb∧v+1≤q.2.1∧q.2.1≤((p.aGb.size:Nat):Int)∧(q.2.2.2.2.1=false→q.2.2.1=p.aFY+1∧(wl q.2.2.2.2.2:Int)≤2*(q.2.1-(v+1)))) s'∧(fun(q:Y×Int×Int×Int×Bool×Z aB)=>(2*(((p.aGb.size:Nat):Int)-q.2.1)).toNat+(if q.2.2.2.2.1 then 0 else 1)) s'<(fun(q:Y×Int×Int×Int×Bool×Z aB)=>(2*(((p.aGb.size:Nat):Int)-q.2.1)).toNat+(if q.2.2.2.2.1 then 0 else 1)) (p.aGb,v18,p.aFY+1,v20,false,v23)) (fun(q:Y×Int×Int×Int×Bool×Z aB)=>q.1=p.aGb∧p.aF2≤q.2.1∧q.2.1≤((p.aGb.size:Nat):Int)∧q.2.2.2.2.1=true)):=by
     rintro⟨a,b⟩ ⟨j1,j2,j3,j4⟩
     dsimp only at j1 j2 j3 j4
     have j3':b.aF2≤((p.aGb.size:Nat):Int):=by rw [← f1];exact j3
     have l1:=cO a
     refine Ok.gdk (by dsimp only;omega) (fun _=>Ok.next ⟨⟨j1.trans f1,by show v+1≤b.aF2;omega,j3',fun hb2=>?_⟩,?_⟩)
     ·obtain⟨j5,j6⟩:=j4 hb2
      refine⟨by show b.aFY=_;rw [j5,f4],?_⟩
      show(wl (v23++ [a]):Int)≤2*(b.aF2-(v+1))
      have:=cE v23 [a]
      omega
     ·dsimp only
      cases hbb:b.aF5 with
      |true=>rw [if_pos rfl,if_neg Bool.false_ne_true];omega
      |false=>
       obtain⟨j5,j6⟩:=j4 hbb
       rw [if_neg Bool.false_ne_true]
       omega
    have call:Ok (r y) (aiK y):=hr y (by rw [f4];omega) (by omega) (by rw [f1];exact f3) (by rw [f1];exact h2) (by rw [f4];omega) (by rw [f4];omega) f5
    have w3:=fK (y.aF2+1)
    have w4:=fK (y.aFY-1)
    have hys:y.aGb.size=p.aGb.size:=by rw [f1]
    refine mD (fun g7=>?_) (fun g7=>Ok.bd call step)
    refine Ok.gdk (by omega) (fun z2=>?_)
    refine mD (fun g8=>Ok.ret ⟨f1,by show p.aF2≤bB _;omega,by show bB _≤_;omega,fun _=>⟨by show bB _=_;omega,?_⟩⟩) (fun g8=>Ok.bd call step)
    show(wt (aB.mk s_ v23):Int)+1≤2*(bB (y.aF2+1)-p.aF2)
    rw [aB.wm]
    have:s_.size=0:=rfl
    omega
   ·dsimp only
    have: ∀b:Bool,(if b then 0 else 1)≤1:=by decide
    have:=this x.aF5
    omega
   ·have hxs:x.aGb.size=p.aGb.size:=by rw [e1]
    refine⟨e1,by dsimp only;omega,by dsimp only;omega,fun _=>⟨by dsimp only;omega,?_⟩⟩
    show((wl ([]:Z aB):Nat):Int)≤2*(bB (v+1)-(v+1))
    have:wl ([]:Z aB)=0:=rfl
    omega
  ·rintro⟨v17,v18,v19,v20,v21,v23⟩ ⟨i1,i2,i3,i4⟩
   dsimp only at i1 i2 i3 i4
   exact Ok.some ⟨i1,i2,i3,fun h=>by rw [show v21=false from h] at i4;cases i4⟩
theorem arX(n:Nat):eK fun fu=>asZ n (t5 fu):=by
 induction n with
 |zero=>exact .all fun fu p h=>absurd h (Nat.not_lt_zero _)
 |succ n ih=>
  refine bY ((ih.and (((bP 2147483648).and ad6).and L8)).imp fun fu h=>?_)
  intro p
  rw [t5]
  exact aoD n fu h.2.1.1 h.2.1.2 h.2.2 _ h.1 p
def ab3(fu:Nat):Prop:= ∀ps:Y,ps.size≤1048576→Ok (zN fu ps) (fun r=>wt r.1≤2*ps.size)
theorem FG:eK ab3:=(((arX 15).and ad6).and c3).imp fun fu hh ps h=>by
 obtain⟨⟨k1,k2⟩,k3⟩:=hh
 have zero: ∀b:Bool,Ok (some ((aB.mk s_ []),b)) (fun r=>wt r.1≤2*ps.size):=fun b=>Ok.some (by
  show wt (aB.mk s_ [])≤_
  rw [aB.wm]
  have:s_.size=0:=rfl
  have:wl ([]:Z aB)=0:=rfl
  omega)
 unfold zN
 refine Ok.bd (k1 _ (by show(14-(0:Int)).toNat<15;omega) (Int.le_refl _) (by show(0:Int)≤_;omega) h (Int.le_refl _) (by show(0:Int)≤14;omega) rfl) ?_;rintro⟨x,r⟩ ⟨e1,e2,e3,e4⟩
 dsimp only at e1 e2 e3 e4
 replace e1:r.aGb=ps:=e1
 replace e2:0≤r.aF2:=e2
 replace e3:r.aF2≤((ps.size:Nat):Int):=e3
 refine Ok.bd (k2 r e2 (by rw [e1];exact e3) (by rw [e1];exact h)) ?_;rintro y ⟨f1,f2,f3,f4,f5⟩
 refine Ok.sw (fun _=>zero _) (fun g=>?_)
 obtain⟨-,e5⟩:=e4 (by rw [← f5];exact g)
 replace e5:(wt x:Int)+1≤2*(r.aF2-0):=e5
 refine YL (fun _=>zero _) (fun _=>?_)
 refine Ok.bd (k3 x (by omega)) ?_;rintro b-
 exact amE (fun _=>zero _) (fun _=>Ok.some (by show wt x≤_;omega))
theorem ax2{v:Int}{k:Nat}(h:v.natAbs<10^(k+1)):(v.tdiv 10).natAbs<10^k:=by
 rw [Int.natAbs_tdiv,Nat.pow_succ] at*
 show v.natAbs/10<_
 omega
def HU(fu:Nat):Prop:= ∀pn:Int,pn.natAbs≤9223372036854775808→Ok (rH fu pn) (fun r=>r.size≤21)
theorem n3:eK HU:=(bP 18446744073709551616).imp fun fu hfu pn h=>by
 unfold rH
 refine mD (fun _=>Ok.some (by decide)) (fun _=>?_)
 refine g0 (E:=fun q:Int×Y=>q.2.size≤20) ?_ ?_
 ·refine Ok.loopW (fun q:Int×Y=>q.1.natAbs≤9223372036854775808∧ ∃k,q.2.size+k≤19∧q.1.natAbs<10^k) (fun q=>q.1.natAbs) ?_ _ _ (by dsimp only;omega) ⟨h,19,by show(0:Nat)+19≤19;omega,by dsimp only;omega⟩
  rintro⟨v2,v3⟩ ⟨h1,k,h2,h3⟩
  dsimp only at h1 h2 h3
  unfold N2
  refine YL (fun g=>?_) (fun _=>Ok.brk (by dsimp only;omega))
  obtain⟨k,rfl⟩: ∃m,k=m+1:=by
   rcases k with _|m
   ·exfalso
    have:(10:Nat)^0=1:=rfl
    omega
   ·exact⟨m,rfl⟩
  have h4:=ax2 h3
  have h5:(v2.tdiv 10).natAbs<v2.natAbs:=by
   rw [Int.natAbs_tdiv]
   show v2.natAbs/10<_
   omega
  have w:=fK (v2.tdiv 10)
  have w:bB (v2.tdiv 10)=v2.tdiv 10:=w (by omega)
  have fin: ∀u:UInt8,Ok (gd ((bytesStr ([u]:Z UInt8)).size+(v3).size≤1099511627776) (some (LR.next ((bB ((v2).tdiv 10)),((bytesStr ([u]:Z UInt8))++v3))))) (PL (fun r:Y=>r.size≤21) (fun s'=>(fun q:Int×Y=>q.1.natAbs≤9223372036854775808∧ ∃k,q.2.size+k≤19∧q.1.natAbs<10^k) s'∧(fun q:Int×Y=>q.1.natAbs) s'<(fun q:Int×Y=>q.1.natAbs) (v2,v3)) (fun q:Int×Y=>q.2.size≤20)):=fun u=>by
   have e1:=as6 [u]
   have e2: [u].length=1:=rfl
   have e3:=fR (bytesStr [u]) v3
   refine Ok.gdk (by omega) (fun _=>Ok.next ⟨⟨by dsimp only;rw [w];omega,k,by dsimp only;omega,by dsimp only;rw [w];exact h4⟩,by dsimp only;rw [w];exact h5⟩)
  exact mD (fun _=>fin _) (fun _=>fin _)
 ·rintro⟨v2,v3⟩ hv
  dsimp only at hv
  have:JU.size=1:=rfl
  have:=fR JU v3
  exact mD (fun _=>Ok.gdk (by omega) (fun _=>Ok.some bS)) (fun _=>Ok.some bS)
def D8(fu:Nat):Prop:= ∀ps:Y,Ok (EN fu ps) (fun r=>r.1.natAbs≤9223372036854775808)
theorem n4:eK D8:=n3.imp fun fu k ps=>by
 have rng: ∀E:Int,(bB E).natAbs≤9223372036854775808:=fun E=>by have:=auR E;omega
 have fin: ∀v:Int,v.natAbs≤9223372036854775808→Ok (bd (rH fu v) (fun x18=>sw (!decide (x18=ps)) (some ((0:Int),false)) (some (v,true)))) (fun r=>r.1.natAbs≤9223372036854775808):=fun v hv=>by
  refine Ok.bd (k v hv) ?_;rintro x-
  exact YL (fun _=>Ok.some (by decide)) (fun _=>Ok.some hv)
 have loop: ∀(f:Nat→Int→J (LR Int (Int×Bool))) (n:Nat),(∀i s,i<n→Ok (f i s) (PL (fun r:Int×Bool=>r.1.natAbs≤9223372036854775808) (fun v:Int=>v.natAbs≤9223372036854775808) (fun v:Int=>v.natAbs≤9223372036854775808)))→Ok (loopN f (n-0) 0 0) (PS (fun r:Int×Bool=>r.1.natAbs≤9223372036854775808) (fun v:Int=>v.natAbs≤9223372036854775808)):=fun f n hf=>J3 (fun _ v=>v.natAbs≤9223372036854775808) (by decide) (fun i s _ h=>h) (fun i s hi _=>hf i s hi)
 unfold EN
 refine Ok.bd (Q:=fun r:Int×Bool=>r.1.natAbs≤9223372036854775808) ?_ (fun r hr=>by obtain⟨a,b⟩:=r;exact Ok.some hr)
 unfold U4
 have hps:((ps.size:Nat):Int)=((ps.size:Nat):Int):=rfl
 refine mD (fun g=>?_) (fun g=>?_)
 ·refine Ok.gdk (by omega) (fun _=>?_)
  refine g0 (E:=fun _=>True) ?_ ?_
  ·unfold aa5
   exact mD (fun _=>Ok.gdk (by omega) (fun _=>Ok.inr trivial)) (fun _=>Ok.inr trivial)
  rintro v3-
  refine mD (fun _=>Ok.some (by decide)) (fun _=>?_)
  refine mD (fun _=>Ok.some (by decide)) (fun _=>?_)
  refine g0 (E:=fun v:Int=>v.natAbs≤9223372036854775808) ?_ ?_
  ·refine loop _ _ (fun i s hi=>?_)
   unfold aa7
   refine Ok.gdk hi (fun _=>?_)
   exact mD (fun _=>Ok.ret (by decide)) (fun _=>mD (fun _=>Ok.ret (by decide)) (fun _=>Ok.next (rng _)))
  intro v9 hv
  refine g0 (E:=fun v:Int=>v.natAbs≤9223372036854775808) ?_ ?_
  ·unfold aa6
   exact mD (fun _=>Ok.inr (rng _)) (fun _=>Ok.inr hv)
  intro v15 hv
  exact fin v15 hv
 ·refine mD (fun _=>Ok.some (by decide)) (fun _=>?_)
  refine mD (fun _=>Ok.some (by decide)) (fun _=>?_)
  refine g0 (E:=fun v:Int=>v.natAbs≤9223372036854775808) ?_ (fun v hv=>fin v hv)
  refine loop _ _ (fun i s hi=>?_)
  unfold aa8
  refine Ok.gdk hi (fun _=>?_)
  exact mD (fun _=>Ok.ret (by decide)) (fun _=>mD (fun _=>Ok.ret (by decide)) (fun _=>Ok.next (rng _)))
attribute [local irreducible] wt wl
def XJ(fu:Nat):Prop:= ∀(p0:aB),wt p0≤268435456→Ok (oV fu p0) (fun r=>wt r≤2*wt p0)
def afA(n:Nat)(m:MZ):Prop:= ∀(p0:aB),wt p0<n→wt p0≤268435456→Ok (m p0) (fun r=>wt r≤2*wt p0)
theorem auG{n fu:Nat}(hfu:2147483648≤fu)(fV:YK fu)(eE:YJ fu){pE:MZ}(pF:afA n pE):afA (n+1) (ahP fu pE):=by
 intro p0 hm hpre
 have:=aB.we p0
 have:s_.size=0:=rfl
 refine oN (fun g1=>?_) fun g1=>?_
 ·have:=J8 g1
  refine oG fun z2=>?_;refine oD (fun g3=>?_) fun g3=>?_
  ·refine oG fun z4=>?_
   have:=HY p0.aFy (1:Int).toNat (p0.aFy.size:Int).toNat
   exact oB (fV (p0.aFy.extract (1:Int).toNat (p0.aFy.size:Int).toNat)) fun x6 h5=>oS
  have:=b9
  exact oB (eE p0.aFy ([]:Z aA) bS) fun x8 h6=>oS
 have:=bE p0.aFv
 refine oD (fun g7=>?_) fun g7=>?_
 ·have:=b9
  have:=aA.wm 0 s_ []
  exact oS
 have:=bE (p0.aFv)
 refine oG fun z8=>?_
 have:=b9
 refine g0 (E:=fun v13=>wl v13+2*wl (List.take 1 p0.aFv)≤wl ([]:Z aA)+2*wl p0.aFv∧(v13.length=0∨wl (List.drop 1 v13)+2*wl (List.take 2 p0.aFv)≤2*wl p0.aFv)) ?_ ?_
 ·refine J3 (fun i11 v13=>wl v13+2*wl (List.take 1 p0.aFv)≤wl ([]:Z aA)+2*wl (List.take i11 p0.aFv)∧((i11=1∧v13.length=0)∨(2≤i11∧1≤v13.length∧wl (List.drop 1 v13)+2*wl (List.take 2 p0.aFv)≤2*wl (List.take i11 p0.aFv)))) (by exact bS) (by rintro i11 v13-hI;have:=rR p0.aFv i11;(try dsimp only at hI ⊢);omega) ?_;rintro i11 v13 hl10 hI11
  have:=rT p0.aFv i11 hl10
  have:=rR p0.aFv (i11+1)
  have:=c8 p0.aFv i11 hl10
  refine oB (pF (aR p0.aFv i11) bS bS) fun x17 h12=>?_
  have:=bE (v13)
  have:=cO x17
  refine oG fun z13=>?_
  have:=cE v13 ([x17]:Z aA)
  have:=amN v13 x17
  have:=ahV p0.aFv 2 (i11+1)
  exact Ok.next bS
 intro v13 h9
 have:=c8 p0.aFv 0 z8
 have:wl (List.take 1 p0.aFv)=wl (List.take 0 p0.aFv)+wt (aR p0.aFv 0)+1:=N8 p0.aFv 0 z8
 have:=aB.we (aR p0.aFv 0)
 have:kK.size=5:=rfl
 refine oD (fun g14=>?_) fun g14=>?_
 ·have:=congrArg ByteArray.size g14
  have:=bE v13
  refine oD (fun g15=>?_) fun g15=>?_
  ·refine oG fun z16=>?_
   have:=c8 p0.aFv 1 z16
   have:wl (List.take 2 p0.aFv)=wl (List.take 1 p0.aFv)+wt (aR p0.aFv 1)+1:=N8 p0.aFv 1 z16
   have:=aB.we (aR p0.aFv 1)
   refine oN (fun g17=>?_) fun g17=>?_
   ·have:=J8 g17
    refine oG fun z18=>?_
    have:=B3 v13 1 1
    have:=ay0 v13
    have:=aA.wm 3 ((aR p0.aFv 1).aFy) (List.drop (1:Int).toNat (List.take (v13.length:Int).toNat v13))
    exact oS
   have:BP.size=3:=rfl
   refine oD (fun g19=>?_) fun g19=>?_
   ·have:=congrArg ByteArray.size g19
    have:=aA.wm 2 ((aR p0.aFv 0).aFy) v13
    exact oS
   have:=aA.wm 2 ((aR p0.aFv 0).aFy) v13
   exact oS
  have:BP.size=3:=rfl
  refine oD (fun g20=>?_) fun g20=>?_
  ·have:=congrArg ByteArray.size g20
   refine oD (fun g21=>?_) fun g21=>?_
   ·refine oG fun z22=>?_
    have:=c8 p0.aFv 1 z22
    have:wl (List.take 2 p0.aFv)=wl (List.take 1 p0.aFv)+wt (aR p0.aFv 1)+1:=N8 p0.aFv 1 z22
    have:=aB.we (aR p0.aFv 1)
    refine oN (fun g23=>?_) fun g23=>?_
    ·have:=J8 g23
     have:=aA.wm 4 ((aR p0.aFv 1).aFy) []
     exact oS
    have:=aA.wm 2 ((aR p0.aFv 0).aFy) v13
    exact oS
   have:=aA.wm 2 ((aR p0.aFv 0).aFy) v13
   exact oS
  have:=aA.wm 2 ((aR p0.aFv 0).aFy) v13
  exact oS
 have:BP.size=3:=rfl
 refine oD (fun g24=>?_) fun g24=>?_
 ·have:=congrArg ByteArray.size g24
  have:=bE v13
  refine oD (fun g25=>?_) fun g25=>?_
  ·refine oG fun z26=>?_
   have:=c8 p0.aFv 1 z26
   have:wl (List.take 2 p0.aFv)=wl (List.take 1 p0.aFv)+wt (aR p0.aFv 1)+1:=N8 p0.aFv 1 z26
   have:=aB.we (aR p0.aFv 1)
   refine oN (fun g27=>?_) fun g27=>?_
   ·have:=J8 g27
    have:=aA.wm 4 ((aR p0.aFv 1).aFy) []
    exact oS
   have:=aA.wm 2 ((aR p0.aFv 0).aFy) v13
   exact oS
  have:=aA.wm 2 ((aR p0.aFv 0).aFy) v13
  exact oS
 have:=aA.wm 2 ((aR p0.aFv 0).aFy) v13
 exact oS
theorem av2(n:Nat):eK fun fu=>afA n (oV fu):=by
 induction n with
 |zero=>exact .all fun fu=>fun _ h=>absurd h (Nat.not_lt_zero _)
 |succ n ih=>exact bY ((ih.and (((bP 2147483648).and fV).and eE)).imp fun fu ⟨h,⟨⟨hfu,fV⟩,eE⟩⟩=>fun p0=>by rw [oV];exact auG hfu fV eE h p0)
theorem jE:eK XJ:=(av2 8589934592).imp fun fu h p0 hpre=>h p0 bS hpre
def FW(fu:Nat):Prop:= ∀(pn:Int),pn.natAbs≤9223372036854775808→Ok (wA fu pn) (fun r=>wt r=0∧OC r)
theorem f9:eK FW:=(bP 2147483648).imp fun fu hfu pn hpre=>by
 have:s_.size=0:=rfl
 have:=b9
 have:=aA.wm 0 s_ []
 have:=nJ
 have:=fI
 have:=aM.wm 1 s_ s_ pn (aA.mk 0 s_ []) [] []
 exact oS2
def FX(fu:Nat):Prop:= ∀(ps:Y),Ok (yR fu ps) (fun r=>wt r=ps.size∧OC r)
theorem gH:eK FX:=(bP 2147483648).imp fun fu hfu ps=>by
 have:s_.size=0:=rfl
 have:=b9
 have:=aA.wm 0 s_ []
 have:=nJ
 have:=fI
 have:=aM.wm 3 s_ ps 0 (aA.mk 0 s_ []) [] []
 exact oS2
def QN(fu:Nat):Prop:= ∀(pa pb:Int),Ok (tL fu pa pb) (fun r=>(pa≤pb∧r=pa)∨(pb≤pa∧r=pb))
theorem kI:eK QN:=(bP 2147483648).imp fun fu hfu pa pb=>by
 exact oD (fun _=>oS) fun g1=>oS
def al4(fu:Nat):Prop:= ∀(p0:aB),wt p0≤67108864→Ok (iZ fu p0) (fun r=>wt r≤2*wt p0∧OC r)
def CX(n:Nat)(m:lJ):Prop:= ∀(p0:aB),2*wt p0+1<n→wt p0≤67108864→Ok (m p0) (fun r=>wt r≤2*wt p0∧OC r)
def zU(n:Nat)(m:jW):Prop:= ∀(p4:Z aB),2*wl p4<n→wl p4≤67108864→Ok (m p4) (fun r=>wl r≤2*wl p4∧ ∀a∈r,OC a)
def FV(n:Nat)(m:m4):Prop:= ∀(px:aB),2*wt px+1<n→wt px≤67108864→Ok (m px) (fun r=>wt r≤2*wt px∧OC r.aFE)
theorem akT{n fu:Nat}(hfu:2147483648≤fu)(n4:D8 fu)(f9:FW fu)(gH:FX fu)(kI:QN fu)(jE:XJ fu)(jR:HV fu){p5:lJ}(p8:CX n p5){p3:jW}(p1:zU n p3){p6:m4}(pA:FV n p6):CX (n+1) (PW fu p5 p3 p6):=by
 intro p0 hm hpre
 have:=aB.we p0
 have:s_.size=0:=rfl
 refine oN (fun g1=>?_) fun g1=>?_
 ·have:=J8 g1
  refine xK (n4 p0.aFy) fun x3 x4 h2=>?_
  dsimp only at h2
  refine oC (fun g3=>?_) fun g3=>?_
  ·exact VT (f9 x3 bS) fun x7 h4 h4B=>oS2
  have:sQ.size=4:=rfl
  refine oD (fun g5=>?_) fun g5=>?_
  ·have:=congrArg ByteArray.size g5
   have:=b9
   have:=aA.wm 0 s_ []
   have:=nJ
   have:=fI
   have:=aM.wm 2 s_ s_ 1 (aA.mk 0 s_ []) [] []
   exact oS2
  have:nL.size=5:=rfl
  refine oD (fun g6=>?_) fun g6=>?_
  ·have:=congrArg ByteArray.size g6
   have:=b9
   have:=aA.wm 0 s_ []
   have:=nJ
   have:=fI
   have:=aM.wm 2 s_ s_ 0 (aA.mk 0 s_ []) [] []
   exact oS2
  exact VT (gH p0.aFy) fun x11 h7 h7B=>oS2
 have:=mI
 have:=bE (p0.aFv)
 refine oG fun z8=>?_
 have:=cE ([]:Z aB) p0.aFv
 have:=aB.wm s_ []
 have:=JN (aB.mk s_ []) (aB.mk s_ []) (aB.mk s_ [])
 refine oG fun z9=>?_
 have:=cE (([])++p0.aFv) ([(aB.mk s_ []),(aB.mk s_ []),(aB.mk s_ [])]:Z aB)
 refine oG fun z10=>?_
 have:=anA p0.aFv (aB.mk s_ []) (aB.mk s_ []) (aB.mk s_ []) 1 2 rfl
 refine Ok.lt fun y15 h11=>?_
 have:=congrArg wt h11
 refine oG fun z12=>?_
 have:=anA p0.aFv (aB.mk s_ []) (aB.mk s_ []) (aB.mk s_ []) 0 1 rfl
 refine Ok.lt fun y18 h13=>?_
 have:=congrArg wt h13
 have:=aB.we y18
 have:UU.size=4:=rfl
 refine oD (fun g14=>?_) fun g14=>?_
 ·have:=congrArg ByteArray.size g14
  have:=bE p0.aFv
  refine oB (kI 2 (p0.aFv.length:Int)) fun x22 h15=>oG fun z16=>?_
  have:=B3 p0.aFv x22 2
  refine VT (p1 (List.drop (x22:Int).toNat (List.take (p0.aFv.length:Int).toNat p0.aFv)) bS bS) fun x25 h17 h17B=>?_
  have:=aB.we y15
  have:=b9
  have:=aA.wm 0 s_ []
  have:=fI
  have:=aM.wm 4 s_ y15.aFy 0 (aA.mk 0 s_ []) x25 []
  exact oS2
 have:sA.size=6:=rfl
 refine oD (fun g18=>?_) fun g18=>?_
 ·have:=congrArg ByteArray.size g18
  refine oG fun z19=>?_
  have:=anA p0.aFv (aB.mk s_ []) (aB.mk s_ []) (aB.mk s_ []) 2 3 rfl
  refine Ok.lt fun y28 h20=>?_
  have:=congrArg wt h20
  have:=bE p0.aFv
  refine oB (kI 3 (p0.aFv.length:Int)) fun x31 h21=>oG fun z22=>?_
  have:=B3 p0.aFv x31 3
  refine VT (p1 (List.drop (x31:Int).toNat (List.take (p0.aFv.length:Int).toNat p0.aFv)) bS bS) fun x34 h23 h23B=>?_
  have:=aB.we y15
  have:=aB.we y28
  have:=b9
  have:=aA.wm 0 s_ []
  have:=fI
  have:=aM.wm 5 y15.aFy y28.aFy 0 (aA.mk 0 s_ []) x34 []
  exact oS2
 have:JM.size=3:=rfl
 refine oD (fun g24=>?_) fun g24=>?_
 ·have:=congrArg ByteArray.size g24
  have:=bE p0.aFv
  refine oB (kI 2 (p0.aFv.length:Int)) fun x37 h25=>oG fun z26=>?_
  have:=B3 p0.aFv x37 2
  refine VT (p1 (List.drop (x37:Int).toNat (List.take (p0.aFv.length:Int).toNat p0.aFv)) bS bS) fun x40 h27 h27B=>?_
  have:=aB.we y15
  have:=b9
  have:=aA.wm 0 s_ []
  have:=fI
  have:=aM.wm 6 s_ y15.aFy 0 (aA.mk 0 s_ []) x40 []
  exact oS2
 have:JL.size=3:=rfl
 refine oD (fun g28=>?_) fun g28=>?_
 ·have:=congrArg ByteArray.size g28
  have:=bE p0.aFv
  refine oB (kI 2 (p0.aFv.length:Int)) fun x43 h29=>oG fun z30=>?_
  have:=B3 p0.aFv x43 2
  refine VT (p1 (List.drop (x43:Int).toNat (List.take (p0.aFv.length:Int).toNat p0.aFv)) bS bS) fun x46 h31 h31B=>?_
  have:=aB.we y15
  have:=b9
  have:=aA.wm 0 s_ []
  have:=fI
  have:=aM.wm 8 s_ y15.aFy 0 (aA.mk 0 s_ []) x46 []
  exact oS2
 have:IQ.size=2:=rfl
 refine oD (fun g32=>?_) fun g32=>?_
 ·have:=congrArg ByteArray.size g32
  have:=bE p0.aFv
  refine oG fun z33=>?_
  have:=B3 p0.aFv 1 1
  refine VT (p1 (List.drop (1:Int).toNat (List.take (p0.aFv.length:Int).toNat p0.aFv)) bS bS) fun x50 h34 h34B=>?_
  have:=b9
  have:=aA.wm 0 s_ []
  have:=fI
  have:=aM.wm 9 s_ s_ 0 (aA.mk 0 s_ []) x50 []
  exact oS2
 have:BD.size=4:=rfl
 refine oD (fun g35=>?_) fun g35=>?_
 ·have:=congrArg ByteArray.size g35
  have:=bE p0.aFv
  refine oB (kI 2 (p0.aFv.length:Int)) fun x53 h36=>oG fun z37=>?_
  have:=B3 p0.aFv x53 2
  refine VT (p1 (List.drop (x53:Int).toNat (List.take (p0.aFv.length:Int).toNat p0.aFv)) bS bS) fun x56 h38 h38B=>?_
  have:=aB.we y15
  have:=b9
  have:=aA.wm 0 s_ []
  have:=fI
  have:=aM.wm 11 y15.aFy s_ 0 (aA.mk 0 s_ []) x56 []
  exact oS2
 have:aeL.size=3:=rfl
 refine oD (fun g39=>?_) fun g39=>?_
 ·have:=congrArg ByteArray.size g39
  refine oB (jE y15 bS) fun x59 h40=>?_
  have:=bE p0.aFv
  refine oB (kI 2 (p0.aFv.length:Int)) fun x61 h41=>oG fun z42=>?_
  have:=B3 p0.aFv x61 2
  refine VT (p1 (List.drop (x61:Int).toNat (List.take (p0.aFv.length:Int).toNat p0.aFv)) bS bS) fun x64 h43 h43B=>?_
  have:=fI
  have:=aM.wm 12 s_ s_ 0 x59 x64 []
  exact oS2
 have:BC.size=4:=rfl
 refine oD (fun g44=>?_) fun g44=>?_
 ·have:=congrArg ByteArray.size g44
  have:=bE p0.aFv
  refine oB (kI 2 (p0.aFv.length:Int)) fun x67 h45=>oG fun z46=>?_
  have:=avP p0.aFv x67
  refine VT (p1 (List.drop (1:Int).toNat (List.take (x67:Int).toNat p0.aFv)) bS bS) fun x70 h47 h47B=>?_
  have:=fI
  refine avH (PA:=fun a=>OC a.aFE) p0.aFv 2 (fun i71 v73 hl49 hI50 hI50B _ _=>?_) ?_
  ·have:=c8 p0.aFv i71 hl49
   refine VT (pA (aR p0.aFv i71) bS bS) fun x77 h51 h51B=>?_
   have:=bE (v73)
   have:=cO x77
   refine oG fun z52=>?_
   have:=cE v73 ([x77]:Z cC)
   exact oX hI50B
  rintro v73 ⟨h48,h48B⟩
  have:=b9
  have:=aA.wm 0 s_ []
  have:=aM.wm 7 s_ s_ 0 (aA.mk 0 s_ []) x70 v73
  exact oS2
 have:=bE p0.aFv
 refine oB (kI 1 (p0.aFv.length:Int)) fun x80 h53=>oG fun z54=>?_
 have:=B3 p0.aFv x80 1
 refine VT (p1 (List.drop (x80:Int).toNat (List.take (p0.aFv.length:Int).toNat p0.aFv)) bS bS) fun x83 h55 h55B=>?_
 have:=b9
 have:=aA.wm 0 s_ []
 have:=fI
 have:=aM.wm 10 s_ y18.aFy 0 (aA.mk 0 s_ []) x83 []
 exact oS2
theorem agS{n fu:Nat}(hfu:2147483648≤fu)(n4:D8 fu)(f9:FW fu)(gH:FX fu)(kI:QN fu)(jE:XJ fu)(jR:HV fu){p5:lJ}(p8:CX n p5){p3:jW}(p1:zU n p3){p6:m4}(pA:FV n p6):zU (n+1) (K5 fu p5 p3 p6):=by
 intro p4 hm hpre
 have:=nJ
 refine avH (PA:=fun a=>OC a) p4 2 (fun i1 v3 hl2 hI3 hI3B _ _=>?_) ?_
 ·have:=bE p4
  have:=c8 p4 i1 hl2
  refine VT (p8 (aR p4 i1) bS bS) fun x7 h4 h4B=>?_
  have:=bE (v3)
  have:=cO x7
  refine oG fun z5=>?_
  have:=cE v3 ([x7]:Z aM)
  exact oX hI3B
 rintro v3 ⟨h1,h1B⟩
 exact oS2
theorem anU{n fu:Nat}(hfu:2147483648≤fu)(n4:D8 fu)(f9:FW fu)(gH:FX fu)(kI:QN fu)(jE:XJ fu)(jR:HV fu){p5:lJ}(p8:CX n p5){p3:jW}(p1:zU n p3){p6:m4}(pA:FV n p6):FV (n+1) (UY fu p5 p3 p6):=by
 intro px hm hpre
 have:=aB.we px
 have:=bE px.aFv
 refine oD (fun g1=>?_) fun g1=>?_
 ·have:s_.size=0:=rfl
  have:=b9
  have:=aA.wm 0 s_ []
  have:=nJ
  have:=fI
  have:=aM.wm 0 s_ s_ 0 (aA.mk 0 s_ []) [] []
  have:=dJ
  have:=cC.wm s_ [] (aM.mk 0 s_ s_ 0 (aA.mk 0 s_ []) [] [])
  exact oS2
 have:=fK ((px.aFv.length:Int)-1)
 refine oG fun z2=>?_
 have:=XZ (1:Int).toNat (bB ((px.aFv.length:Int)-1):Int).toNat px.aFv
 have:=axN px.aFv (bB ((px.aFv.length:Int)-1):Int).toNat
 have:=N8 px.aFv (bB ((px.aFv.length:Int)-1):Int).toNat
 have:=rR px.aFv ((bB ((px.aFv.length:Int)-1):Int).toNat+1)
 refine xK (jR (List.drop (1:Int).toNat (List.take (bB ((px.aFv.length:Int)-1):Int).toNat px.aFv)) bS) fun x4 x5 h3=>?_
 dsimp only at h3
 have:=bE (px.aFv)
 refine oG fun z4=>oG fun z5=>?_
 have:=c8 px.aFv ((bB ((px.aFv.length:Int)-1)).toNat) z5.2
 refine Ok.lt fun y8 h6=>?_
 have:=congrArg wt h6
 refine VT (p8 y8 bS bS) fun x11 h7 h7B=>?_
 have:=c8 px.aFv 0 z4
 have:wl (List.take 1 px.aFv)=wl (List.take 0 px.aFv)+wt (aR px.aFv 0)+1:=N8 px.aFv 0 z4
 have:=aB.we (aR px.aFv 0)
 have:=cC.wm ((aR px.aFv 0).aFy) x4 x11
 exact oS2
theorem anV(n:Nat):eK fun fu=>CX n (iZ fu)∧zU n (l4 fu)∧FV n (qM fu):=by
 induction n with
 |zero=>exact .all fun fu=>⟨fun _ h=>absurd h (Nat.not_lt_zero _),fun _ h=>absurd h (Nat.not_lt_zero _),fun _ h=>absurd h (Nat.not_lt_zero _)⟩
 |succ n ih=>exact bY ((ih.and (((((((bP 2147483648).and n4).and f9).and gH).and kI).and jE).and jR)).imp fun fu ⟨h,⟨⟨⟨⟨⟨⟨hfu,n4⟩,f9⟩,gH⟩,kI⟩,jE⟩,jR⟩⟩=>⟨fun p0=>by rw [iZ];exact akT hfu n4 f9 gH kI jE jR h.1 h.2.1 h.2.2 p0,fun p4=>by rw [l4];exact agS hfu n4 f9 gH kI jE jR h.1 h.2.1 h.2.2 p4,fun px=>by rw [qM];exact anU hfu n4 f9 gH kI jE jR h.1 h.2.1 h.2.2 px⟩)
theorem rB:eK al4:=(anV 8589934592).imp fun fu h p0 hpre=>h.1 p0 bS hpre
def asT(fu:Nat):Prop:= ∀(p0:aM),wt p0≤2097152→(OC p0)→Ok (oO fu p0) (fun r=>wt r+8≤32*(wt p0+1))
def QJ(n:Nat)(m:uM):Prop:= ∀(p0:aM),2*wt p0+1<n→wt p0≤2097152→(OC p0)→Ok (m p0) (fun r=>wt r+8≤32*(wt p0+1))
def HQ(n:Nat)(m:o6):Prop:= ∀(pD:Z aB) (p4:Z aM),2*wl p4<n→wl pD≤33554432∧wl p4≤2097152→(∀a∈p4,OC a)→Ok (m pD p4) (fun r=>wt r≤wl pD+32*wl p4)
theorem arT{n fu:Nat}(hfu:2147483648≤fu)(n3:HU fu)(bQ:LS fu)(j9:afF fu)(oZ:OQ fu){p9:uM}(pC:QJ n p9){p7:o6}(p2:HQ n p7):QJ (n+1) (aaX fu p9 p7):=by
 intro p0 hm hpre hB
 have hN:=hB.num
 have:=aM.we p0
 refine oD (fun g1=>?_) fun g1=>?_
 ·exact oB (n3 p0.aGa bS) fun x3 h2=>oB (bQ x3) fun x5 h3=>oS
 refine oD (fun g4=>?_) fun g4=>?_
 ·have:nL.size=5:=rfl
  have:sQ.size=4:=rfl
  have:=mE nL sQ
  have:=bC nL
  have:=bC sQ
  refine oG fun z5=>?_
  have:=c8 ([nL,sQ]:LB) ((p0.aGa).toNat) z5.2
  have:=bC (aR ([nL,sQ]:LB) ((p0.aGa).toNat))
  exact oB (bQ (aR ([nL,sQ]:LB) ((p0.aGa).toNat))) fun x9 h6=>oS
 refine oD (fun g7=>?_) fun g7=>?_
 ·exact oB (bQ p0.aFs) fun x12 h8=>oS
 refine oD (fun g9=>?_) fun g9=>?_
 ·have:UU.size=4:=rfl
  refine oB (bQ UU) fun x15 h10=>oB (bQ p0.aFs) fun x17 h11=>?_
  have:=mE x15 x17
  refine oB (p2 ([x15,x17]:Z aB) p0.aFt bS bS (by exact hB.arg)) fun x19 h12=>?_
  have:=aB.we x19
  have:=aB.wm x19.aFy x19.aFv
  exact oS
 refine oD (fun g13=>?_) fun g13=>?_
 ·have:sA.size=6:=rfl
  refine oB (bQ sA) fun x22 h14=>oB (bQ p0.aFz) fun x24 h15=>oB (bQ p0.aFs) fun x26 h16=>?_
  have:=JN x22 x24 x26
  refine oB (p2 ([x22,x24,x26]:Z aB) p0.aFt bS bS (by exact hB.arg)) fun x28 h17=>?_
  have:=aB.we x28
  have:=aB.wm x28.aFy x28.aFv
  exact oS
 refine oD (fun g18=>?_) fun g18=>?_
 ·have:JM.size=3:=rfl
  refine oB (bQ JM) fun x31 h19=>oB (bQ p0.aFs) fun x33 h20=>?_
  have:=mE x31 x33
  refine oB (p2 ([x31,x33]:Z aB) p0.aFt bS bS (by exact hB.arg)) fun x35 h21=>?_
  have:=aB.we x35
  have:=aB.wm x35.aFy x35.aFv
  exact oS
 refine oD (fun g22=>?_) fun g22=>?_
 ·have:JL.size=3:=rfl
  refine oB (bQ JL) fun x38 h23=>oB (bQ p0.aFs) fun x40 h24=>?_
  have:=mE x38 x40
  refine oB (p2 ([x38,x40]:Z aB) p0.aFt bS bS (by exact hB.arg)) fun x42 h25=>?_
  have:=aB.we x42
  have:=aB.wm x42.aFy x42.aFv
  exact oS
 refine oD (fun g26=>?_) fun g26=>?_
 ·have:IQ.size=2:=rfl
  refine oB (bQ IQ) fun x45 h27=>?_
  have:=cO x45
  refine oB (p2 ([x45]:Z aB) p0.aFt bS bS (by exact hB.arg)) fun x47 h28=>?_
  have:=aB.we x47
  have:=aB.wm x47.aFy x47.aFv
  exact oS
 refine oD (fun g29=>?_) fun g29=>?_
 ·refine oB (bQ p0.aFs) fun x50 h30=>?_
  have:=cO x50
  refine oB (p2 ([x50]:Z aB) p0.aFt bS bS (by exact hB.arg)) fun x52 h31=>?_
  have:=aB.we x52
  have:=aB.wm x52.aFy x52.aFv
  exact oS
 refine oD (fun g32=>?_) fun g32=>?_
 ·have:BD.size=4:=rfl
  refine oB (bQ BD) fun x55 h33=>oB (bQ p0.aFz) fun x57 h34=>?_
  have:=mE x55 x57
  refine oB (p2 ([x55,x57]:Z aB) p0.aFt bS bS (by exact hB.arg)) fun x59 h35=>?_
  have:=aB.we x59
  have:=aB.wm x59.aFy x59.aFv
  exact oS
 refine oD (fun g36=>?_) fun g36=>?_
 ·have:aeL.size=3:=rfl
  refine oB (bQ aeL) fun x62 h37=>oB (j9 p0.aFu bS) fun x64 h38=>?_
  have:=mE x62 x64
  refine oB (p2 ([x62,x64]:Z aB) p0.aFt bS bS (by exact hB.arg)) fun x66 h39=>?_
  have:=aB.we x66
  have:=aB.wm x66.aFy x66.aFv
  exact oS
 have:BC.size=4:=rfl
 refine oB (bQ BC) fun x68 h40=>?_
 have:=cO x68
 refine oB (p2 ([x68]:Z aB) p0.aFt bS bS (by exact hB.arg)) fun x70 h41=>?_
 have:=aB.we x70
 refine T8 p0.aFP 32 (fun i71 v73 hl43 hI44 _ _=>?_) ?_
 ·have:=bE p0.aFP
  have:=c8 p0.aFP i71 hl43
  refine Ok.lt fun y76 h45=>?_
  have:=congrArg wt h45
  have:=cC.we y76
  refine oB (bQ y76.aFU) fun x79 h46=>oB (oZ y76.aFH bS) fun x81 h47=>?_
  have:=cO x79
  have:=bE (x81)
  refine oG fun z48=>oB (pC y76.aFE bS bS (by rw [show y76=aR p0.aFP i71 by assumption];exact afI hB.arm (by assumption))) fun x84 h49=>?_
  have:=cE ([x79]:Z aB) x81
  have:=cO x84
  refine oG fun z50=>?_
  have:=bE (v73)
  have:s_.size=0:=rfl
  have:=cE (([x79]:Z aB)++x81) ([x84]:Z aB)
  have:=aB.wm s_ ((([x79]:Z aB)++x81)++([x84]:Z aB))
  have:=cO (aB.mk s_ ((([x79]:Z aB)++x81)++([x84]:Z aB)))
  refine oG fun z51=>?_
  have:=cE v73 ([(aB.mk s_ ((([x79]:Z aB)++x81)++([x84]:Z aB)))]:Z aB)
  exact sP
 intro v73 h42
 have:=aB.wm x70.aFy v73
 exact oS
theorem akR{n fu:Nat}(hfu:2147483648≤fu)(n3:HU fu)(bQ:LS fu)(j9:afF fu)(oZ:OQ fu){p9:uM}(pC:QJ n p9){p7:o6}(p2:HQ n p7):HQ (n+1) (PU fu p9 p7):=by
 intro pD p4 hm hpre hB
 refine T8 p4 32 (fun i1 v3 hl2 hI3 _ _=>?_) ?_
 ·have:=bE p4
  have:=c8 p4 i1 hl2
  refine Ok.lt fun y6 h4=>?_
  have:=congrArg wt h4
  refine oB (pC y6 bS bS (by rw [show y6=aR p4 i1 by assumption];exact afI hB (by assumption))) fun x9 h5=>?_
  have:=bE (v3)
  have:=cO x9
  refine oG fun z6=>?_
  have:=cE v3 ([x9]:Z aB)
  exact sP
 intro v3 h1
 have:s_.size=0:=rfl
 have:=aB.wm s_ v3
 exact oS
theorem at9(n:Nat):eK fun fu=>QJ n (oO fu)∧HQ n (rL fu):=by
 induction n with
 |zero=>exact .all fun fu=>⟨fun _ h=>absurd h (Nat.not_lt_zero _),fun _ _ h=>absurd h (Nat.not_lt_zero _)⟩
 |succ n ih=>exact bY ((ih.and (((((bP 2147483648).and n3).and bQ).and j9).and oZ)).imp fun fu ⟨h,⟨⟨⟨⟨hfu,n3⟩,bQ⟩,j9⟩,oZ⟩⟩=>⟨fun p0=>by rw [oO];exact arT hfu n3 bQ j9 oZ h.1 h.2 p0,fun pD p4=>by rw [rL];exact akR hfu n3 bQ j9 oZ h.1 h.2 pD p4⟩)
theorem wY:eK asT:=(at9 8589934592).imp fun fu h p0 hpre hB=>h.1 p0 bS hpre hB
def al3(fu:Nat):Prop:= ∀(pe:aM) (p7:Int),wt pe≤1073741824→Ok (o5 fu pe p7) (fun _=>True)
def OG(n:Nat)(m:vL):Prop:= ∀(pe:aM) (p7:Int),wt pe<n→wt pe≤1073741824→Ok (m pe p7) (fun _=>True)
theorem akN{n fu:Nat}(hfu:2147483648≤fu){p8:vL}(p9:OG n p8):OG (n+1) (PR fu p8):=by
 intro pe p7 hm hpre
 refine oEN (fun i1 v2 hl2=>?_) ?_
 ·have:=aM.we pe
  have:=bE pe.aFt
  refine oD (fun g4=>?_) fun g4=>?_
  ·have:=c8 pe.aFt i1 hl2
   refine Ok.lt fun y6 h5=>?_
   have:=congrArg wt h5
   exact oB (p9 y6 v2 bS bS) fun x9 _=>sP
  exact oK
 intro v2 _
 refine oEN (fun i10 v11 hl8=>?_) ?_
 ·have:=aM.we pe
  have:=bE pe.aFP
  refine oD (fun g10=>?_) fun g10=>?_
  ·have:=c8 pe.aFP i10 hl8
   refine Ok.lt fun y15 h11=>?_
   have:=congrArg wt h11
   have:=cC.we y15
   exact oB (p9 y15.aFE v11 bS bS) fun x18 _=>sP
  exact oK
 intro v11 _
 exact oS
theorem anT(n:Nat):eK fun fu=>OG n (o5 fu):=by
 induction n with
 |zero=>exact .all fun fu=>fun _ _ h=>absurd h (Nat.not_lt_zero _)
 |succ n ih=>exact bY ((ih.and (bP 2147483648)).imp fun fu ⟨h,hfu⟩=>fun pe p7=>by rw [o5];exact akN hfu h pe p7)
theorem O3:eK al3:=(anT 8589934592).imp fun fu h pe p7 hpre=>h pe p7 bS hpre
def adL(fu:Nat):Prop:= ∀(pk:Int),Ok (UX fu pk) (fun _=>True)
theorem GS:eK adL:=(bP 2147483648).imp fun fu hfu pk=>by
 refine JO ?_ ?_
 ·exact oD (fun _=>oI) fun g2=>oI
 intro v1 _
 refine oC (fun _=>oS) fun g3=>oD (fun _=>oS) fun g4=>?_;refine JO ?_ ?_
 ·exact oD (fun _=>oI) fun g6=>oI
 intro v5 _
 refine oC (fun _=>oS) fun g7=>oD (fun _=>oS) fun g8=>oD (fun _=>oS) fun g9=>?_;refine JO ?_ ?_
 ·exact oD (fun _=>oI) fun g11=>oI
 intro v10 _
 exact oC (fun _=>oS) fun g12=>oD (fun _=>oS) fun g13=>oD (fun _=>oS) fun g14=>oS
def YD(fu:Nat):Prop:= ∀(ps:Y),Ok (PT fu ps) (fun _=>True)
theorem DC:eK YD:=((bP 2147483648).and eN).imp fun fu ⟨hfu,eN⟩ ps=>by
 have:D5.size=1:=rfl
 have:JU.size=1:=rfl
 have:SS.size=1:=rfl
 have:ST.size=1:=rfl
 have:SU.size=1:=rfl
 have:=ayU D5 JU SS ST SU
 have:=bC D5
 have:=bC JU
 have:=bC SS
 have:=bC ST
 have:=bC SU
 exact oB (eN ([D5,JU,SS,ST,SU]:LB) ps) fun x2 _=>oS
def YE(fu:Nat):Prop:= ∀(pt:aA),Ok (rK fu pt) (fun _=>True)
theorem nD:eK YE:=(bP 2147483648).imp fun fu hfu pt=>by
 refine oD (fun g1=>?_) fun g1=>?_
 ·exact oD (fun _=>oS) fun g2=>oS
 exact oS
def al1(fu:Nat):Prop:= ∀(p0:aM),wt p0≤1073741824→Ok (o3 fu p0) (fun _=>True)
def OE(n:Nat)(m:nH):Prop:= ∀(p0:aM),wt p0<n→wt p0≤1073741824→Ok (m p0) (fun _=>True)
theorem akE{n fu:Nat}(hfu:2147483648≤fu)(GS:adL fu)(tW:ao1 fu)(bO:CY fu)(DC:YD fu)(fC:J1 fu)(nD:YE fu)(tF:YI fu)(fB:JY fu){pA:nH}(pC:OE n pA):OE (n+1) (PP fu pA):=by
 intro p0 hm hpre
 have:=aM.we p0
 refine oB6 (GS p0.aFw) fun x2 x3 x4 x5 x6 x7 _=>?_;refine JO ?_ ?_
 ·refine oB (tW p0.aFw 1 12) fun x9 _=>oW (fun _=>oL) fun g4=>oB (bO p0.aFz) fun x12 _=>oN (fun _=>oL) fun g6=>?_;refine oW (fun g7=>?_) fun g7=>?_
  ·refine oN (fun _=>oL) fun g8=>?_;refine oW (fun g9=>?_) fun g9=>?_
   ·exact oN (fun _=>oL) fun g10=>oN (fun _=>oL) fun g11=>oI
   exact oN (fun _=>oL) fun g12=>oI
  refine oW (fun g13=>?_) fun g13=>?_
  ·exact oN (fun _=>oL) fun g14=>oN (fun _=>oL) fun g15=>oI
  exact oN (fun _=>oL) fun g16=>oI
 rintro⟨⟩-
 refine JO ?_ ?_
 ·refine oD (fun g18=>?_) fun g18=>?_
  ·refine oB (DC p0.aFs) fun x26 _=>oW (fun _=>oL) fun g20=>?_;refine oN (fun g21=>?_) fun g21=>?_
   ·refine oB (bO p0.aFs) fun x30 _=>oN (fun _=>oL) fun g23=>?_;refine oW (fun g24=>?_) fun g24=>?_
    ·exact oN (fun _=>oL) fun g25=>oI
    exact oI
   exact oI
  refine oN (fun g26=>?_) fun g26=>?_
  ·refine oB (bO p0.aFs) fun x36 _=>oN (fun _=>oL) fun g28=>?_;refine oW (fun g29=>?_) fun g29=>?_
   ·exact oN (fun _=>oL) fun g30=>oI
   exact oI
  exact oI
 rintro⟨⟩-
 refine JO ?_ ?_
 ·refine oD (fun g32=>?_) fun g32=>?_
  ·have:=bE p0.aFt
   refine oN (fun _=>oL) fun g33=>?_;refine oD (fun g34=>?_) fun g34=>?_
   ·refine oD (fun _=>oL) fun g35=>?_;refine oC (fun g36=>?_) fun g36=>?_
    ·exact oB (fC p0.aFu bS) fun x46 _=>oW (fun _=>oL) fun g38=>oI
    exact oB (nD p0.aFu) fun x49 _=>oW (fun _=>oL) fun g40=>oI
   refine oC (fun g41=>?_) fun g41=>?_
   ·exact oB (fC p0.aFu bS) fun x53 _=>oW (fun _=>oL) fun g43=>oI
   exact oB (nD p0.aFu) fun x56 _=>oW (fun _=>oL) fun g45=>oI
  refine oD (fun g46=>?_) fun g46=>?_
  ·have:=bE p0.aFt
   refine oD (fun _=>oL) fun g47=>?_;refine oC (fun g48=>?_) fun g48=>?_
   ·exact oB (fC p0.aFu bS) fun x62 _=>oW (fun _=>oL) fun g50=>oI
   exact oB (nD p0.aFu) fun x65 _=>oW (fun _=>oL) fun g52=>oI
  refine oC (fun g53=>?_) fun g53=>?_
  ·exact oB (fC p0.aFu bS) fun x69 _=>oW (fun _=>oL) fun g55=>oI
  exact oB (nD p0.aFu) fun x72 _=>oW (fun _=>oL) fun g57=>oI
 rintro⟨⟩-
 refine JO ?_ ?_
 ·refine oD (fun g59=>?_) fun g59=>?_
  ·exact oB (tW p0.aGa (-999999) 999999) fun x76 _=>oW (fun _=>oL) fun g61=>oI
  refine oD (fun g62=>?_) fun g62=>?_
  ·exact oB (tW p0.aGa 0 1) fun x80 _=>oW (fun _=>oL) fun g64=>oI
  exact oI
 rintro⟨⟩-
 refine JO ?_ ?_
 ·refine gD ?_;rintro i82 ⟨⟩ hl66
  have:=bE p0.aFt
  have:=c8 p0.aFt i82 hl66
  refine Ok.lt fun y85 h68=>?_
  have:=congrArg wt h68
  exact oB (pC y85 bS bS) fun x88 _=>oW (fun _=>oR) fun g70=>sP
 rintro⟨⟩-
 refine JO ?_ ?_
 ·refine gD ?_;rintro i90 ⟨⟩ hl72
  have:=bE p0.aFP
  have:=c8 p0.aFP i90 hl72
  refine Ok.lt fun y93 h74=>?_
  have:=congrArg wt h74
  have:=cC.we y93
  exact oB (bO y93.aFU) fun x96 _=>oW (fun _=>oR) fun g76=>oB (tF y93.aFH) fun x99 _=>oW (fun _=>oR) fun g78=>oB (fB y93.aFH) fun x102 _=>oW (fun _=>oR) fun g80=>oB (pC y93.aFE bS bS) fun x105 _=>oW (fun _=>oR) fun g82=>sP
 rintro⟨⟩-
 exact oS
theorem anN(n:Nat):eK fun fu=>OE n (o3 fu):=by
 induction n with
 |zero=>exact .all fun fu=>fun _ h=>absurd h (Nat.not_lt_zero _)
 |succ n ih=>exact bY ((ih.and (((((((((bP 2147483648).and GS).and tW).and bO).and DC).and fC).and nD).and tF).and fB)).imp fun fu ⟨h,⟨⟨⟨⟨⟨⟨⟨⟨hfu,GS⟩,tW⟩,bO⟩,DC⟩,fC⟩,nD⟩,tF⟩,fB⟩⟩=>fun p0=>by rw [o3];exact akE hfu GS tW bO DC fC nD tF fB h p0)
theorem O1:eK al1:=(anN 8589934592).imp fun fu h p0 hpre=>h p0 bS hpre
def YC(fu:Nat):Prop:= ∀(pe:aM),wt pe≤1073741824→Ok (DI fu pe) (fun _=>True)
theorem DB:eK YC:=(((bP 2147483648).and O3).and O1).imp fun fu ⟨⟨hfu,O3⟩,O1⟩ pe hpre=>by
 refine oB (O3 pe 300 bS) fun x2 _=>?_;refine oD (fun g2=>?_) fun g2=>?_
 ·exact oB (O1 pe bS) fun x5 _=>oS
 exact oS
def VJ(fu:Nat):Prop:= ∀(pa pb:LB),Ok (K3 fu pa pb) (fun _=>True)
theorem AC:eK VJ:=(bP 2147483648).imp fun fu hfu pa pb=>by
 have:=bE pa
 have:=bE pb
 refine oN (fun _=>oS) fun g1=>?_;refine JO ?_ ?_
 ·refine gD ?_;rintro i2 ⟨⟩ hl3
  have:=bE (pb)
  exact oG fun z5=>oN (fun _=>oR) fun g6=>sP
 rintro⟨⟩-
 exact oS
def afB(fu:Nat):Prop:= ∀(p0 p4:aM),wt p0≤536870912→Ok (lR fu p0 p4) (fun _=>True)
def HN(n:Nat)(m:rG):Prop:= ∀(p0 p4:aM),wt p0<n→wt p0≤536870912→Ok (m p0 p4) (fun _=>True)
theorem acO{n fu:Nat}(hfu:2147483648≤fu)(wV:QK fu)(AC:VJ fu){p5:rG}(p6:HN n p5):HN (n+1) (IM fu p5):=by
 intro p0 p4 hm hpre
 have:=aM.we p0
 have:=aM.we p4
 refine oN (fun _=>oS) fun g1=>oN (fun _=>oS) fun g2=>oN (fun _=>oS) fun g3=>oN (fun _=>oS) fun g4=>oB (wV p0.aFu p4.aFu bS) fun x6 _=>oW (fun _=>oS) fun g6=>?_
 have:=bE p0.aFt
 have:=bE p4.aFt
 refine oN (fun _=>oS) fun g7=>?_
 have:=bE p0.aFP
 have:=bE p4.aFP
 refine oN (fun _=>oS) fun g8=>?_;refine JO ?_ ?_
 ·refine gD ?_;rintro i10 ⟨⟩ hl10
  have:=c8 p0.aFt i10 hl10
  refine Ok.lt fun y13 h12=>?_
  have:=congrArg wt h12
  have:=bE (p4.aFt)
  refine oG fun z13=>?_
  have:=c8 p4.aFt i10 z13
  refine Ok.lt fun y16 h14=>?_
  have:=congrArg wt h14
  exact oB (p6 y13 y16 bS bS) fun x19 _=>oW (fun _=>oR) fun g16=>sP
 rintro⟨⟩-
 refine JO ?_ ?_
 ·refine gD ?_;rintro i21 ⟨⟩ hl18
  have:=c8 p0.aFP i21 hl18
  refine Ok.lt fun y24 h20=>?_
  have:=congrArg wt h20
  have:=bE (p4.aFP)
  refine oG fun z21=>?_
  have:=c8 p4.aFP i21 z21
  refine Ok.lt fun y27 h22=>?_
  have:=congrArg wt h22
  have:=cC.we y24
  have:=cC.we y27
  exact oN (fun _=>oR) fun g23=>oB (AC y24.aFH y27.aFH) fun x31 _=>oW (fun _=>oR) fun g25=>oB (p6 y24.aFE y27.aFE bS bS) fun x34 _=>oW (fun _=>oR) fun g27=>sP
 rintro⟨⟩-
 exact oS
theorem agB(n:Nat):eK fun fu=>HN n (lR fu):=by
 induction n with
 |zero=>exact .all fun fu=>fun _ _ h=>absurd h (Nat.not_lt_zero _)
 |succ n ih=>exact bY ((ih.and (((bP 2147483648).and wV).and AC)).imp fun fu ⟨h,⟨⟨hfu,wV⟩,AC⟩⟩=>fun p0 p4=>by rw [lR];exact acO hfu wV AC h p0 p4)
theorem IA:eK afB:=(agB 8589934592).imp fun fu h p0 p4 hpre=>h p0 p4 bS hpre
def al2(fu:Nat):Prop:= ∀(p0:aM) (p4 pE:LB),wl p4+wl pE+2*wt p0≤134217728→Ok (o4 fu p0 p4 pE) (fun r=>wl r≤wl pE+wt p0+1)
def OF(n:Nat)(m:tJ):Prop:= ∀(p0:aM) (p4 pE:LB),wt p0<n→wl p4+wl pE+2*wt p0≤134217728→Ok (m p0 p4 pE) (fun r=>wl r≤wl pE+wt p0+1)
theorem akJ{n fu:Nat}(hfu:2147483648≤fu)(eN:YF fu){pD:tJ}(p3:OF n pD):OF (n+1) (PQ fu pD):=by
 intro p0 p4 pE hm hpre
 have:=aM.we p0
 refine g0 (E:=fun v2=>wl v2+wl p0.aFt+wl p0.aFP≤wl pE+wt p0+1) ?_ ?_
 ·refine oD (fun g2=>?_) fun g2=>?_
  ·refine oB (eN p4 p0.aFs) fun x5 _=>?_;refine oW (fun g4=>?_) fun g4=>?_
   ·refine oB (eN pE p0.aFs) fun x8 _=>?_;refine oW (fun g6=>?_) fun g6=>?_
    ·have:=bE (pE)
     have:=cO p0.aFs
     have:=bC p0.aFs
     refine oG fun z7=>?_
     have:=cE pE ([p0.aFs]:LB)
     exact oI
    exact oI
   exact oI
  exact oI
 intro v2 h1
 refine T8 p0.aFt 1 (fun i11 v13 hl9 hI10 _ _=>?_) ?_
 ·have:=bE p0.aFt
  refine oD (fun g11=>?_) fun g11=>?_
  ·refine oD (fun g12=>?_) fun g12=>?_
   ·have:=dJ
    have:=bE (p4)
    refine oG fun z13=>?_
    have:=cE ([]:LB) p4
    have:=cO p0.aFs
    have:=bC p0.aFs
    refine oG fun z14=>?_
    have:=c8 p0.aFt i11 hl9
    refine Ok.lt fun y20 h15=>?_
    have:=congrArg wt h15
    have:=cE (([])++p4) ([p0.aFs]:LB)
    exact oB (p3 y20 ((([])++p4)++([p0.aFs]:LB)) v13 bS bS) fun x23 h16=>sP
   have:=c8 p0.aFt i11 hl9
   refine Ok.lt fun y24 h17=>?_
   have:=congrArg wt h17
   exact oB (p3 y24 p4 v13 bS bS) fun x27 h18=>sP
  have:=c8 p0.aFt i11 hl9
  refine Ok.lt fun y28 h19=>?_
  have:=congrArg wt h19
  exact oB (p3 y28 p4 v13 bS bS) fun x31 h20=>sP
 intro v13 h8
 refine T8 p0.aFP 1 (fun i32 v34 hl22 hI23 _ _=>?_) ?_
 ·have:=bE p0.aFP
  have:=c8 p0.aFP i32 hl22
  refine Ok.lt fun y37 h24=>?_
  have:=congrArg wt h24
  have:=dJ
  have:=bE (p4)
  refine oG fun z25=>?_
  have:=cE ([]:LB) p4
  have:=cC.we y37
  have:=bE (y37.aFH)
  refine oG fun z26=>?_
  have:=cE (([])++p4) y37.aFH
  exact oB (p3 y37.aFE ((([])++p4)++y37.aFH) v34 bS bS) fun x42 h27=>sP
 intro v34 h21
 exact oS
theorem anO(n:Nat):eK fun fu=>OF n (o4 fu):=by
 induction n with
 |zero=>exact .all fun fu=>fun _ _ _ h=>absurd h (Nat.not_lt_zero _)
 |succ n ih=>exact bY ((ih.and ((bP 2147483648).and eN)).imp fun fu ⟨h,⟨hfu,eN⟩⟩=>fun p0 p4 pE=>by rw [o4];exact akJ hfu eN h p0 p4 pE)
theorem O2:eK al2:=(anO 8589934592).imp fun fu h p0 p4 pE hpre=>h p0 p4 pE bS hpre
def S7(fu:Nat):Prop:= ∀(pe:aM),wt pe≤67108864→Ok (yN fu pe) (fun r=>wl r≤wt pe+1)
theorem yB:eK S7:=((bP 2147483648).and O2).imp fun fu ⟨hfu,O2⟩ pe hpre=>by
 have:=dJ
 exact oB (O2 pe ([]:LB) ([]:LB) bS) fun x2 h1=>oS
def al9(fu:Nat):Prop:= ∀(pt:aA) (p2:LB),wt pt+wl p2≤67108864→Ok (nI fu pt p2) (fun _=>True)
theorem iB:eK al9:=((((bP 2147483648).and yC).and eN).and fC).imp fun fu ⟨⟨⟨hfu,yC⟩,eN⟩,fC⟩ pt p2 hpre=>by
 refine oB (yC pt bS) fun x2 h1=>?_;refine JO ?_ ?_
 ·refine gD ?_;rintro i3 ⟨⟩ hl3
  have:=bE x2
  have:=c8 x2 i3 hl3
  have:=bC (aR x2 i3)
  exact oB (eN p2 (aR x2 i3)) fun x7 _=>oW (fun _=>oR) fun g6=>sP
 rintro⟨⟩-
 exact oB (fC pt bS) fun x10 _=>oS
def ap3(fu:Nat):Prop:= ∀(p1:Z aA) (p2:LB),wl p1+wl p2≤67108864→Ok (CK fu p1 p2) (fun _=>True)
theorem CG:eK ap3:=((bP 2147483648).and iB).imp fun fu ⟨hfu,iB⟩ p1 p2 hpre=>by
 refine JO ?_ ?_
 ·refine gD ?_;rintro i1 ⟨⟩ hl2
  have:=bE p1
  have:=c8 p1 i1 hl2
  exact oB (iB (aR p1 i1) p2 bS) fun x5 _=>oW (fun _=>oR) fun g5=>sP
 rintro⟨⟩-
 exact oS
def al8(fu:Nat):Prop:= ∀(pe:aM),wt pe≤67108864→Ok (PX fu pe) (fun _=>True)
theorem O6:eK al8:=((bP 2147483648).and IA).imp fun fu ⟨hfu,IA⟩ pe hpre=>by
 have:s_.size=0:=rfl
 have:=b9
 have:=aA.wm 0 s_ []
 have:=nJ
 have:=fI
 have:=aM.wm 0 s_ s_ 0 (aA.mk 0 s_ []) [] []
 exact oB (IA pe (aM.mk 0 s_ s_ 0 (aA.mk 0 s_ []) [] []) bS) fun x2 _=>oS
def aiC(fu:Nat):Prop:= ∀(p1:LB) (pF:Int),Ok (iI fu p1 pF) (fun _=>True)
theorem dU:eK aiC:=(((bP 2147483648).and tF).and fB).imp fun fu ⟨⟨hfu,tF⟩,fB⟩ p1 pF=>by
 refine oD (fun g1=>?_) fun g1=>?_
 ·refine oB (tF p1) fun x3 _=>?_;refine oC (fun g3=>?_) fun g3=>?_
  ·exact oB (fB p1) fun x6 _=>oS
  exact oS
 exact oS
def al5(fu:Nat):Prop:= ∀(pe:aM) (p2:LB),wt pe+wl p2≤67108864→Ok (DR fu pe p2) (fun _=>True)
theorem rC:eK al5:=((((bP 2147483648).and yB).and eN).and DB).imp fun fu ⟨⟨⟨hfu,yB⟩,eN⟩,DB⟩ pe p2 hpre=>by
 refine oB (yB pe bS) fun x2 h1=>?_;refine JO ?_ ?_
 ·refine gD ?_;rintro i3 ⟨⟩ hl3
  have:=bE x2
  have:=c8 x2 i3 hl3
  have:=bC (aR x2 i3)
  exact oB (eN p2 (aR x2 i3)) fun x7 _=>oW (fun _=>oR) fun g6=>sP
 rintro⟨⟩-
 exact oB (DB pe bS) fun x10 _=>oS
def ap4(fu:Nat):Prop:= ∀(ps:aG),wt ps≤33554432→Ok (U0 fu ps) (fun _=>True)
theorem TV:eK ap4:=(((((((bP 2147483648).and bO).and CG).and iB).and O6).and dU).and rC).imp fun fu ⟨⟨⟨⟨⟨⟨hfu,bO⟩,CG⟩,iB⟩,O6⟩,dU⟩,rC⟩ ps hpre=>by
 have:=aG.we ps
 refine oB (bO ps.aFs) fun x2 _=>oW (fun _=>oS) fun g2=>?_
 have:=bE ps.aFO
 refine oD (fun _=>oS) fun g3=>?_
 have:lI.size=4:=rfl
 have:=cO lI
 have:=bC lI
 refine oB (CG ps.aFO ([lI]:LB) bS) fun x6 _=>oW (fun _=>oS) fun g5=>oB (iB ps.aFM ([lI]:LB) bS) fun x9 _=>oW (fun _=>oS) fun g7=>?_;refine oW (fun g8=>?_) fun g8=>?_
 ·have:=bE ps.aFH
  refine oD (fun g9=>?_) fun g9=>?_
  ·exact oB (O6 ps.aFE bS) fun x14 _=>oS
  exact oS
 refine oB (dU ps.aFH 5) fun x16 _=>?_;refine oC (fun g12=>?_) fun g12=>?_
 ·have:=bE ps.aFH
  have:=fK ((ps.aFO.length:Int)+1)
  refine oD (fun g13=>?_) fun g13=>?_
  ·exact oB (rC ps.aFE ps.aFH bS) fun x20 _=>oS
  exact oS
 exact oS
def WJ(fu:Nat):Prop:= ∀(pt:aZ),wt pt≤16777216→Ok (uV fu pt) (fun _=>True)
theorem nQ:eK WJ:=((((bP 2147483648).and TV).and bO).and dU).imp fun fu ⟨⟨⟨hfu,TV⟩,bO⟩,dU⟩ pt hpre=>by
 have:=dJ
 have:=aZ.we pt
 refine T8 pt.aFQ 1 (fun i1 v3 hl2 hI3 _ _=>?_) ?_
 ·have:=bE pt.aFQ
  have:=c8 pt.aFQ i1 hl2
  refine Ok.lt fun y6 h4=>?_
  have:=congrArg wt h4
  refine oB (TV y6 bS) fun x9 _=>oW (fun _=>oR) fun g6=>?_
  have:=bE (v3)
  have:=aG.we y6
  have:=cO y6.aFs
  have:=bC y6.aFs
  refine oG fun z7=>?_
  have:=cE v3 ([y6.aFs]:LB)
  exact sP
 intro v3 h1
 refine oC (fun g8=>?_) fun g8=>?_
 ·refine oC (fun _=>oS) fun g9=>oD (fun _=>oS) fun g10=>oD (fun _=>oS) fun g11=>oB (bO pt.aFs) fun x17 _=>?_;refine oC (fun g13=>?_) fun g13=>?_
  ·refine oB (dU pt.aFD 4) fun x20 _=>?_;refine oC (fun g15=>?_) fun g15=>?_
   ·exact oB (dU v3 6) fun x23 _=>oS
   exact oS
  exact oS
 refine oB (bO pt.aFs) fun x25 _=>?_;refine oC (fun g18=>?_) fun g18=>?_
 ·refine oB (dU pt.aFD 4) fun x28 _=>?_;refine oC (fun g20=>?_) fun g20=>?_
  ·exact oB (dU v3 6) fun x31 _=>oS
  exact oS
 exact oS
def OK(fu:Nat):Prop:= ∀(pd:aO),wt pd≤16777216→Ok (lG fu pd) (fun _=>True)
theorem lC:eK OK:=((((bP 2147483648).and CG).and bO).and dU).imp fun fu ⟨⟨⟨hfu,CG⟩,bO⟩,dU⟩ pd hpre=>by
 have:=dJ
 have:=aO.we pd
 refine T8 pd.aFx 1 (fun i1 v3 hl2 hI3 _ _=>?_) ?_
 ·have:=bE pd.aFx
  have:=c8 pd.aFx i1 hl2
  have:=aE.we (aR pd.aFx i1)
  have:=bE ((aR pd.aFx i1).aFN)
  refine oD (fun _=>oR) fun g4=>oB (CG ((aR pd.aFx i1).aFN) pd.aFH bS) fun x8 _=>oW (fun _=>oR) fun g6=>?_
  have:=bE (v3)
  have:=cO ((aR pd.aFx i1).aFs)
  have:=bC ((aR pd.aFx i1).aFs)
  refine oG fun z7=>?_
  have:=cE v3 ([((aR pd.aFx i1).aFs)]:LB)
  exact sP
 intro v3 h1
 refine oB (bO pd.aFs) fun x12 _=>?_;refine oC (fun g9=>?_) fun g9=>?_
 ·refine oB (dU pd.aFH 3) fun x15 _=>?_;refine oC (fun g11=>?_) fun g11=>?_
  ·refine oD (fun g12=>?_) fun g12=>?_
   ·exact oB (dU v3 5) fun x19 _=>oS
   exact oS
  exact oS
 exact oS
def WH(fu:Nat):Prop:= ∀(pb:aD),wt pb≤33554432→Ok (A9 fu pb) (fun _=>True)
theorem A1:eK WH:=(((bP 2147483648).and bO).and fC).imp fun fu ⟨⟨hfu,bO⟩,fC⟩ pb hpre=>by
 have:=aD.we pb
 refine oB (bO pb.aFz) fun x2 _=>?_;refine oC (fun g2=>?_) fun g2=>?_
 ·exact oB (fC pb.aFu bS) fun x5 _=>oS
 exact oS
def aiB(fu:Nat):Prop:= ∀(p1:Z aD) (p2:LB),wl p1+wl p2≤33554432→Ok (wB fu p1 p2) (fun _=>True)
theorem vV:eK aiB:=((((bP 2147483648).and A1).and iB).and mY).imp fun fu ⟨⟨⟨hfu,A1⟩,iB⟩,mY⟩ p1 p2 hpre=>by
 refine JO ?_ ?_
 ·refine gD ?_;rintro i1 ⟨⟩ hl2
  have:=bE p1
  have:=c8 p1 i1 hl2
  refine oB (A1 (aR p1 i1) bS) fun x5 _=>oW (fun _=>oR) fun g5=>?_
  have:=aD.we (aR p1 i1)
  exact oB (iB ((aR p1 i1).aFu) p2 bS) fun x8 _=>oW (fun _=>oR) fun g7=>oB (mY ((aR p1 i1).aFu) bS) fun x11 _=>oC (fun _=>oR) fun g9=>sP
 rintro⟨⟩-
 exact oS
def OM(fu:Nat):Prop:= ∀(p0:aL),wt p0≤16777216→Ok (lH fu p0) (fun _=>True)
theorem lE:eK OM:=(((((((((bP 2147483648).and bO).and dU).and iB).and mY).and vV).and KK).and nD).and rC).imp fun fu ⟨⟨⟨⟨⟨⟨⟨⟨hfu,bO⟩,dU⟩,iB⟩,mY⟩,vV⟩,KK⟩,nD⟩,rC⟩ p0 hpre=>by
 have:=aL.we p0
 refine oB (bO p0.aFz) fun x2 _=>oW (fun _=>oS) fun g2=>oB (dU p0.aFH 3) fun x5 _=>oW (fun _=>oS) fun g4=>oB (iB p0.aFJ p0.aFH bS) fun x8 _=>oW (fun _=>oS) fun g6=>oB (mY p0.aFJ bS) fun x11 _=>oC (fun _=>oS) fun g8=>?_
 have:=aA.we p0.aFJ
 refine oD (fun _=>oS) fun g9=>oB (vV p0.aFL p0.aFH bS) fun x15 _=>oW (fun _=>oS) fun g11=>?_;refine JO ?_ ?_
 ·refine gD ?_;rintro i17 ⟨⟩ hl13
  have:=bE p0.aFH
  have:=c8 p0.aFH i17 hl13
  have:=bC (aR p0.aFH i17)
  exact oB (KK (aR p0.aFH i17) p0.aFJ bS) fun x21 _=>oW (fun _=>oR) fun g16=>sP
 rintro⟨⟩-
 refine JO ?_ ?_
 ·refine oC (fun g18=>?_) fun g18=>?_
  ·exact oB (iB p0.aFR p0.aFH bS) fun x25 _=>oW (fun _=>oL) fun g20=>oI
  exact oB (nD p0.aFR) fun x28 _=>oW (fun _=>oL) fun g22=>oI
 rintro⟨⟩-
 have:=dJ
 refine T8 p0.aFW 1 (fun i30 v32 hl24 hI25 _ _=>?_) ?_
 ·have:=bE p0.aFW
  have:=c8 p0.aFW i30 hl24
  refine Ok.lt fun y35 h26=>?_
  have:=congrArg wt h26
  have:=aT.we y35
  have:=bE y35.aFH
  refine oD (fun _=>oR) fun g27=>oB (dU y35.aFH 5) fun x39 _=>oW (fun _=>oR) fun g29=>oB (rC y35.aFE y35.aFH bS) fun x42 _=>oW (fun _=>oR) fun g31=>?_
  have:=bE (v32)
  have:=cO y35.aFs
  have:=bC y35.aFs
  refine oG fun z32=>?_
  have:=cE v32 ([y35.aFs]:LB)
  exact sP
 intro v32 h23
 exact oB (dU v32 6) fun x46 _=>oS
def OL(fu:Nat):Prop:= ∀(pf:aQ),wt pf≤16777216→Ok (rJ fu pf) (fun _=>True)
theorem lD:eK OL:=((((((bP 2147483648).and iB).and bO).and dU).and vV).and rC).imp fun fu ⟨⟨⟨⟨⟨hfu,iB⟩,bO⟩,dU⟩,vV⟩,rC⟩ pf hpre=>by
 have:=dJ
 have:=aQ.we pf
 refine T8 pf.aFO 1 (fun i1 v3 hl2 hI3 _ _=>?_) ?_
 ·have:=bE pf.aFO
  have:=c8 pf.aFO i1 hl2
  have:=aY.we (aR pf.aFO i1)
  refine oB (iB ((aR pf.aFO i1).aFu) pf.aFH bS) fun x7 _=>oW (fun _=>oR) fun g5=>?_
  have:=bE (v3)
  have:=cO ((aR pf.aFO i1).aFs)
  have:=bC ((aR pf.aFO i1).aFs)
  refine oG fun z6=>?_
  have:=cE v3 ([((aR pf.aFO i1).aFs)]:LB)
  exact sP
 intro v3 h1
 refine oB (bO pf.aFs) fun x11 _=>?_;refine oC (fun g8=>?_) fun g8=>?_
 ·refine oB (dU pf.aFH 3) fun x14 _=>?_;refine oC (fun g10=>?_) fun g10=>?_
  ·refine oB (vV pf.aFL pf.aFH bS) fun x17 _=>?_;refine oC (fun g12=>?_) fun g12=>?_
   ·refine oB (dU v3 5) fun x20 _=>?_;refine oC (fun g14=>?_) fun g14=>?_
    ·refine oB (iB pf.aFM pf.aFH bS) fun x23 _=>?_;refine oC (fun g16=>?_) fun g16=>?_
     ·exact oB (rC pf.aFE v3 bS) fun x26 _=>oS
     exact oS
    exact oS
   exact oS
  exact oS
 exact oS
def asV(fu:Nat):Prop:= ∀(px:aB) (pi:Int),0≤pi∧wt px≤1073741824→Ok (eF fu px pi) (fun r=>wt r≤wt px)
theorem cQ:eK asV:=(bP 2147483648).imp fun fu hfu px pi hpre=>by
 have:=aB.we px
 have:=bE px.aFv
 refine oD (fun g1=>?_) fun g1=>?_
 ·have:s_.size=0:=rfl
  have:=mI
  have:=aB.wm s_ []
  exact oS
 have:=bE (px.aFv)
 refine oG fun z2=>?_
 have:=c8 px.aFv ((pi).toNat) z2.2
 exact oS
def aiD(fu:Nat):Prop:= ∀(px:aB),wt px≤1073741824→Ok (oP fu px) (fun r=>wl r≤wt px)
theorem iC:eK aiD:=((bP 2147483648).and jR).imp fun fu ⟨hfu,jR⟩ px hpre=>by
 have:=aB.we px
 refine xK (jR px.aFv bS) fun x2 x3 h1=>?_
 dsimp only at h1
 exact oS
def amA(fu:Nat):Prop:= ∀(px:aB) (pi:Int),0≤pi→Ok (yU fu px pi) (fun r=>wl r≤wl px.aFv)
theorem oY:eK amA:=((bP 2147483648).and kI).imp fun fu ⟨hfu,kI⟩ px pi hpre=>by
 have:=aB.we px
 have:=bE px.aFv
 refine oB (kI pi (px.aFv.length:Int)) fun x2 h1=>oG fun z2=>?_
 have:=XZ (x2:Int).toNat (px.aFv.length:Int).toNat px.aFv
 exact oS
def ap5(fu:Nat):Prop:= ∀(p0:Z aB),wl p0≤67108864→Ok (ML fu p0) (fun r=>wl r≤2*wl p0)
theorem CH:eK ap5:=((bP 2147483648).and jE).imp fun fu ⟨hfu,jE⟩ p0 hpre=>by
 have:=b9
 refine T8 p0 2 (fun i1 v3 hl2 hI3 _ _=>?_) ?_
 ·have:=bE p0
  have:=c8 p0 i1 hl2
  refine oB (jE (aR p0 i1) bS) fun x7 h4=>?_
  have:=bE (v3)
  have:=cO x7
  refine oG fun z5=>?_
  have:=cE v3 ([x7]:Z aA)
  exact sP
 intro v3 h1
 exact oS
def aiG(fu:Nat):Prop:= ∀(p0:LB),wl p0≤1073741824→Ok (mT fu p0) (fun r=>wt r≤wl p0)
theorem gL:eK aiG:=((bP 2147483648).and oZ).imp fun fu ⟨hfu,oZ⟩ p0 hpre=>by
 refine oB (oZ p0 bS) fun x2 h1=>?_
 have:s_.size=0:=rfl
 have:=aB.wm s_ x2
 exact oS
def aiE(fu:Nat):Prop:= ∀(p0:Z aA),wl p0≤33554432→Ok (EV fu p0) (fun r=>wl r≤8*wl p0)
theorem vW:eK aiE:=((bP 2147483648).and j9).imp fun fu ⟨hfu,j9⟩ p0 hpre=>by
 have:=mI
 refine T8 p0 8 (fun i1 v3 hl2 hI3 _ _=>?_) ?_
 ·have:=bE p0
  have:=c8 p0 i1 hl2
  refine oB (j9 (aR p0 i1) bS) fun x7 h4=>?_
  have:=bE (v3)
  have:=cO x7
  refine oG fun z5=>?_
  have:=cE v3 ([x7]:Z aB)
  exact sP
 intro v3 h1
 exact oS
def asW(fu:Nat):Prop:= ∀(p3:Bool) (px:aB),wt px≤1073741824→Ok (G6 fu p3 px) (fun r=>wt r≤wt px)
theorem r8:eK asW:=((bP 2147483648).and c3).imp fun fu ⟨hfu,c3⟩ p3 px hpre=>by
 refine oW (fun g1=>?_) fun g1=>?_
 ·have:s_.size=0:=rfl
  have:=mI
  have:=aB.wm s_ []
  exact oS
 refine oB (c3 px bS) fun x3 _=>?_;refine oW (fun g3=>?_) fun g3=>?_
 ·have:s_.size=0:=rfl
  have:=mI
  have:=aB.wm s_ []
  exact oS
 exact oS
def WN(fu:Nat):Prop:= ∀(p1:aZ),wt p1≤1048576→(∀a∈p1.aFQ,OC a.aFE)→Ok (BB fu p1) (fun r=>wt r≤64*wt p1+64)
theorem A5:eK WN:=(((((((((bP 2147483648).and nQ).and bQ).and gL).and fH).and vW).and j9).and wY).and r8).imp fun fu ⟨⟨⟨⟨⟨⟨⟨⟨hfu,nQ⟩,bQ⟩,gL⟩,fH⟩,vW⟩,j9⟩,wY⟩,r8⟩ p1 hpre hB=>by
 refine oB (nQ p1 bS) fun x2 _=>?_;refine oW (fun g2=>?_) fun g2=>?_
 ·have:s_.size=0:=rfl
  have:=mI
  have:=aB.wm s_ []
  exact oS
 refine g0 (E:=fun v5=>wl v5≤5) ?_ ?_
 ·have:=aZ.we p1
  refine oC (fun g4=>?_) fun g4=>?_
  ·have:=dJ
   have:DP.size=4:=rfl
   have:=cO DP
   have:=bC DP
   refine oG fun z5=>?_
   have:=cE ([]:LB) ([DP]:LB)
   exact oI
  have:=dJ
  exact oI
 intro v5 h3
 refine g0 (E:=fun v9=>wl v9≤11) ?_ ?_
 ·have:=aZ.we p1
  refine oC (fun g7=>?_) fun g7=>?_
  ·have:=bE (v5)
   have:kK.size=5:=rfl
   have:=cO kK
   have:=bC kK
   refine oG fun z8=>?_
   have:=cE v5 ([kK]:LB)
   exact oI
  exact oI
 intro v9 h6
 have:MI.size=5:=rfl
 refine oB (bQ MI) fun x13 h9=>?_
 have:=aZ.we p1
 refine oB (bQ p1.aFs) fun x15 h10=>oB (gL p1.aFD bS) fun x17 h11=>oB (gL v9 bS) fun x19 h12=>?_
 have:=aBg x13 x15 x17 x19
 refine oB (fH ([x13,x15,x17,x19]:Z aB) bS) fun x21 h13=>?_
 have:=aB.we x21
 refine T8 p1.aFQ 64 (fun i22 v24 hl15 hI16 _ _=>?_) ?_
 ·have:=bE p1.aFQ
  have:=c8 p1.aFQ i22 hl15
  refine Ok.lt fun y27 h17=>?_
  have:=congrArg wt h17
  have:=aG.we y27
  refine oB (bQ y27.aFs) fun x30 h18=>oB (vW y27.aFO bS) fun x32 h19=>oB (j9 y27.aFM bS) fun x34 h20=>?_
  have:s_.size=0:=rfl
  have:=aB.wm s_ x32
  have:=JN x30 (aB.mk s_ x32) x34
  refine oB (fH ([x30,(aB.mk s_ x32),x34]:Z aB) bS) fun x36 h21=>?_;refine oC (fun g22=>?_) fun g22=>?_
  ·refine oB (gL y27.aFH bS) fun x39 h23=>oB (wY y27.aFE bS (by rw [show y27=aR p1.aFQ i22 by assumption];exact afI hB (by assumption))) fun x41 h24=>?_
   have:=aB.we x36
   have:=bE (x36.aFv)
   have:=mE x39 x41
   refine oG fun z25=>?_
   have:=bE (v24)
   have:=cE x36.aFv ([x39,x41]:Z aB)
   have:=aB.wm x36.aFy (x36.aFv++([x39,x41]:Z aB))
   have:=cO (aB.mk x36.aFy (x36.aFv++([x39,x41]:Z aB)))
   refine oG fun z26=>?_
   have:=cE v24 ([(aB.mk x36.aFy (x36.aFv++([x39,x41]:Z aB)))]:Z aB)
   exact sP
  have:=bE (v24)
  have:=aB.we x36
  have:=aB.wm x36.aFy x36.aFv
  have:=cO (aB.mk x36.aFy x36.aFv)
  refine oG fun z27=>?_
  have:=cE v24 ([(aB.mk x36.aFy x36.aFv)]:Z aB)
  exact sP
 intro v24 h14
 have:=aB.wm x21.aFy v24
 exact oB (r8 true (aB.mk x21.aFy v24) bS) fun x46 h28=>oS
def WM(fu:Nat):Prop:= ∀(p1:aB),wt p1≤65536→Ok (BA fu p1) (fun r=>wt r.1≤16*wt p1)
theorem A4:eK WM:=(((((((((((bP 2147483648).and cQ).and iC).and eN).and oY).and CH).and jE).and rB).and c3).and A5).and iN).imp fun fu ⟨⟨⟨⟨⟨⟨⟨⟨⟨⟨hfu,cQ⟩,iC⟩,eN⟩,oY⟩,CH⟩,jE⟩,rB⟩,c3⟩,A5⟩,iN⟩ p1 hpre=>by
 refine oB (cQ p1 3 bS) fun x2 h1=>oB (iC x2 bS) fun x4 h2=>oB (cQ p1 1 bS) fun x6 h3=>oB (cQ p1 2 bS) fun x8 h4=>oB (iC x8 bS) fun x10 h5=>?_
 have:DP.size=4:=rfl
 refine oB (eN x4 DP) fun x12 _=>?_
 have:kK.size=5:=rfl
 refine oB (eN x4 kK) fun x14 _=>?_
 have:=aB.we p1
 refine oB (oY p1 4 bS) fun x16 h8=>?_
 have:=(vN:wl ([]:Z aG)=0∧_)
 refine avH (PA:=fun a=>OC a.aFE) x16 8 (fun i17 v19 hl10 hI11 hI11B _ _=>?_) ?_
 ·have:=bE x16
  have:=c8 x16 i17 hl10
  refine oB (cQ (aR x16 i17) 0 bS) fun x23 h12=>oB (cQ (aR x16 i17) 1 bS) fun x25 h13=>?_
  have:=aB.we x25
  refine oB (CH x25.aFv bS) fun x27 h14=>oB (cQ (aR x16 i17) 2 bS) fun x29 h15=>oB (jE x29 bS) fun x31 h16=>?_
  have:=aB.we (aR x16 i17)
  have:=bE ((aR x16 i17).aFv)
  refine oD (fun g17=>?_) fun g17=>?_
  ·refine oB (cQ (aR x16 i17) 3 bS) fun x34 h18=>oB (iC x34 bS) fun x36 h19=>oB (cQ (aR x16 i17) 4 bS) fun x38 h20=>VT (rB x38 bS) fun x40 h21 h21B=>?_
   have:=bE (v19)
   have:=aB.we x23
   have:=aG.wm x23.aFy x27 x31 true x36 x40
   have:=cO (aG.mk x23.aFy x27 x31 true x36 x40)
   refine oG fun z22=>?_
   have:=cE v19 ([(aG.mk x23.aFy x27 x31 true x36 x40)]:Z aG)
   exact oX hI11B
  have:=bE (v19)
  have:=aB.we x23
  have:s_.size=0:=rfl
  have:=b9
  have:=aA.wm 0 s_ []
  have:=nJ
  have:=fI
  have:=aM.wm 0 s_ s_ 0 (aA.mk 0 s_ []) [] []
  have:=dJ
  have:=aG.wm x23.aFy x27 x31 false [] (aM.mk 0 s_ s_ 0 (aA.mk 0 s_ []) [] [])
  have:=cO (aG.mk x23.aFy x27 x31 false [] (aM.mk 0 s_ s_ 0 (aA.mk 0 s_ []) [] []))
  refine oG fun z23=>?_
  have:=cE v19 ([(aG.mk x23.aFy x27 x31 false [] (aM.mk 0 s_ s_ 0 (aA.mk 0 s_ []) [] []))]:Z aG)
  exact oX hI11B
 rintro v19 ⟨h9,h9B⟩
 refine oB (c3 p1 bS) fun x44 _=>?_;refine oW (fun g25=>?_) fun g25=>?_
 ·have:s_.size=0:=rfl
  have:=dJ
  have:=aZ.wm s_ [] false false []
  exact oS
 have:=bE p1.aFv
 refine oD (fun g26=>?_) fun g26=>?_
 ·have:s_.size=0:=rfl
  have:=dJ
  have:=aZ.wm s_ [] false false []
  exact oS
 have:=aB.we x6
 have:=aZ.wm x6.aFy x10 x12 x14 v19
 refine oB (A5 (aZ.mk x6.aFy x10 x12 x14 v19) bS (by first|assumption|trivial)) fun x48 h27=>oB (iN x48 p1 bS) fun x50 _=>?_;refine oW (fun g29=>?_) fun g29=>?_
 ·have:s_.size=0:=rfl
  have:=dJ
  have:=aZ.wm s_ [] false false []
  exact oS
 exact oS
def OH(fu:Nat):Prop:= ∀(pd:aO),wt pd≤1048576→Ok (vB fu pd) (fun r=>wt r≤64*wt pd+64)
theorem u4:eK OH:=(((((((bP 2147483648).and bQ).and gL).and fH).and vW).and lC).and r8).imp fun fu ⟨⟨⟨⟨⟨⟨hfu,bQ⟩,gL⟩,fH⟩,vW⟩,lC⟩,r8⟩ pd hpre=>by
 have:UV.size=4:=rfl
 refine oB (bQ UV) fun x2 h1=>?_
 have:=aO.we pd
 refine oB (bQ pd.aFs) fun x4 h2=>oB (gL pd.aFH bS) fun x6 h3=>?_
 have:=JN x2 x4 x6
 refine oB (fH ([x2,x4,x6]:Z aB) bS) fun x8 h4=>?_
 have:=aB.we x8
 refine T8 pd.aFx 64 (fun i9 v11 hl6 hI7 _ _=>?_) ?_
 ·have:=bE pd.aFx
  have:=c8 pd.aFx i9 hl6
  have:=aE.we (aR pd.aFx i9)
  refine oB (bQ ((aR pd.aFx i9).aFs)) fun x15 h8=>oB (vW ((aR pd.aFx i9).aFN) bS) fun x17 h9=>?_
  have:=cO x15
  have:=bE (x17)
  refine oG fun z10=>?_
  have:=bE (v11)
  have:s_.size=0:=rfl
  have:=cE ([x15]:Z aB) x17
  have:=aB.wm s_ (([x15]:Z aB)++x17)
  have:=cO (aB.mk s_ (([x15]:Z aB)++x17))
  refine oG fun z11=>?_
  have:=cE v11 ([(aB.mk s_ (([x15]:Z aB)++x17))]:Z aB)
  exact sP
 intro v11 h5
 refine oB (lC pd bS) fun x21 _=>?_
 have:=aB.wm x8.aFy v11
 exact oB (r8 x21 (aB.mk x8.aFy v11) bS) fun x23 h13=>oS
def ON(fu:Nat):Prop:= ∀(px:aB),wt px≤65536→Ok (vF fu px) (fun r=>wt r.1≤16*wt px)
theorem u7:eK ON:=((((((((bP 2147483648).and cQ).and iC).and oY).and CH).and c3).and u4).and iN).imp fun fu ⟨⟨⟨⟨⟨⟨⟨hfu,cQ⟩,iC⟩,oY⟩,CH⟩,c3⟩,u4⟩,iN⟩ px hpre=>by
 refine oB (cQ px 1 bS) fun x2 h1=>oB (cQ px 2 bS) fun x4 h2=>oB (iC x4 bS) fun x6 h3=>?_
 have:=aB.we px
 refine oB (oY px 3 bS) fun x8 h4=>?_
 have:=(vN:wl ([]:Z aE)=0∧_)
 refine T8 x8 4 (fun i9 v11 hl6 hI7 _ _=>?_) ?_
 ·have:=bE x8
  have:=c8 x8 i9 hl6
  refine oB (cQ (aR x8 i9) 0 bS) fun x15 h8=>?_
  have:=aB.we (aR x8 i9)
  refine oB (oY (aR x8 i9) 1 bS) fun x17 h9=>oB (CH x17 bS) fun x19 h10=>?_
  have:=bE (v11)
  have:=aB.we x15
  have:=aE.wm x15.aFy x19
  have:=cO (aE.mk x15.aFy x19)
  refine oG fun z11=>?_
  have:=cE v11 ([(aE.mk x15.aFy x19)]:Z aE)
  exact sP
 intro v11 h5
 refine oB (c3 px bS) fun x22 _=>?_;refine oW (fun g13=>?_) fun g13=>?_
 ·have:s_.size=0:=rfl
  have:=dJ
  have:=aO.wm s_ [] []
  exact oS
 have:=bE px.aFv
 refine oD (fun g14=>?_) fun g14=>?_
 ·have:s_.size=0:=rfl
  have:=dJ
  have:=aO.wm s_ [] []
  exact oS
 have:=aB.we x2
 have:=aO.wm x2.aFy x6 v11
 refine oB (u4 (aO.mk x2.aFy x6 v11) bS) fun x26 h15=>oB (iN x26 px bS) fun x28 _=>?_;refine oW (fun g17=>?_) fun g17=>?_
 ·have:s_.size=0:=rfl
  have:=dJ
  have:=aO.wm s_ [] []
  exact oS
 exact oS
def afE(fu:Nat):Prop:= ∀(px:aB),wt px≤33554432→Ok (B8 fu px) (fun r=>wl r≤4*wt px)
theorem tV:eK afE:=(((bP 2147483648).and cQ).and jE).imp fun fu ⟨⟨hfu,cQ⟩,jE⟩ px hpre=>by
 have:=BZ
 have:=aB.we px
 refine T8 px.aFv 4 (fun i1 v3 hl2 hI3 _ _=>?_) ?_
 ·have:=bE px.aFv
  have:=c8 px.aFv i1 hl2
  refine oB (cQ (aR px.aFv i1) 0 bS) fun x7 h4=>oB (cQ (aR px.aFv i1) 1 bS) fun x9 h5=>oB (jE x9 bS) fun x11 h6=>?_
  have:=bE (v3)
  have:=aB.we x7
  have:=aD.wm x7.aFy x11
  have:=cO (aD.mk x7.aFy x11)
  refine oG fun z7=>?_
  have:=cE v3 ([(aD.mk x7.aFy x11)]:Z aD)
  exact sP
 intro v3 h1
 exact oS
def aiF(fu:Nat):Prop:= ∀(p0:Z aD),wl p0≤16777216→Ok (EW fu p0) (fun r=>wt r≤16*wl p0)
theorem vX:eK aiF:=((((bP 2147483648).and bQ).and j9).and fH).imp fun fu ⟨⟨⟨hfu,bQ⟩,j9⟩,fH⟩ p0 hpre=>by
 have:=mI
 refine T8 p0 16 (fun i1 v3 hl2 hI3 _ _=>?_) ?_
 ·have:=bE p0
  have:=c8 p0 i1 hl2
  have:=aD.we (aR p0 i1)
  refine oB (bQ ((aR p0 i1).aFz)) fun x7 h4=>oB (j9 ((aR p0 i1).aFu) bS) fun x9 h5=>?_
  have:=mE x7 x9
  refine oB (fH ([x7,x9]:Z aB) bS) fun x11 h6=>?_
  have:=bE (v3)
  have:=cO x11
  refine oG fun z7=>?_
  have:=cE v3 ([x11]:Z aB)
  exact sP
 intro v3 h1
 have:s_.size=0:=rfl
 have:=aB.wm s_ v3
 exact oS
def OJ(fu:Nat):Prop:= ∀(p1:aL),wt p1≤1048576→(∀a∈p1.aFW,OC a.aFE)→Ok (vE fu p1) (fun r=>wt r≤64*wt p1+128)
theorem u6:eK OJ:=(((((((((bP 2147483648).and lE).and j9).and fH).and bQ).and gL).and vX).and wY).and r8).imp fun fu ⟨⟨⟨⟨⟨⟨⟨⟨hfu,lE⟩,j9⟩,fH⟩,bQ⟩,gL⟩,vX⟩,wY⟩,r8⟩ p1 hpre hB=>by
 refine oB (lE p1 bS) fun x2 _=>?_;refine oW (fun g2=>?_) fun g2=>?_
 ·have:s_.size=0:=rfl
  have:=mI
  have:=aB.wm s_ []
  exact oS
 refine g0 (E:=fun v5=>wl v5≤8) ?_ ?_
 ·have:=aL.we p1
  refine oC (fun g4=>?_) fun g4=>?_
  ·have:=dJ
   have:yO.size=7:=rfl
   have:=cO yO
   have:=bC yO
   refine oG fun z5=>?_
   have:=cE ([]:LB) ([yO]:LB)
   exact oI
  have:=dJ
  exact oI
 intro v5 h3
 have:=aL.we p1
 refine g0 (E:=fun(v8,v9)=>v8.size+wl v9≤8*wt p1.aFR+16) ?_ ?_
 ·refine oC (fun g7=>?_) fun g7=>?_
  ·refine oB (j9 p1.aFR bS) fun x12 h8=>?_
   have:=cO x12
   refine oB (fH ([x12]:Z aB) bS) fun x14 h9=>?_
   have:=aB.we x14
   exact oI
  have:s_.size=0:=rfl
  have:=mI
  exact oI
 rintro⟨v8,v9⟩ h6
 dsimp only at h6
 have:UW.size=4:=rfl
 refine oB (bQ UW) fun x16 h10=>oB (bQ p1.aFz) fun x18 h11=>oB (gL p1.aFH bS) fun x20 h12=>oB (j9 p1.aFJ bS) fun x22 h13=>oB (vX p1.aFL bS) fun x24 h14=>oB (gL v5 bS) fun x26 h15=>?_
 have:=aB.wm v8 v9
 have:=aq8 x16 x18 x20 x22 x24 x26 (aB.mk v8 v9)
 refine oB (fH ([x16,x18,x20,x22,x24,x26,(aB.mk v8 v9)]:Z aB) bS) fun x28 h16=>?_
 have:=aB.we x28
 refine T8 p1.aFW 64 (fun i29 v31 hl18 hI19 _ _=>?_) ?_
 ·have:=bE p1.aFW
  have:=c8 p1.aFW i29 hl18
  refine Ok.lt fun y34 h20=>?_
  have:=congrArg wt h20
  have:=aT.we y34
  refine oB (bQ y34.aFs) fun x37 h21=>oB (gL y34.aFH bS) fun x39 h22=>oB (wY y34.aFE bS (by rw [show y34=aR p1.aFW i29 by assumption];exact afI hB (by assumption))) fun x41 h23=>?_
  have:=JN x37 x39 x41
  refine oB (fH ([x37,x39,x41]:Z aB) bS) fun x43 h24=>?_
  have:=bE (v31)
  have:=aB.we x43
  have:=aB.wm x43.aFy x43.aFv
  have:=cO (aB.mk x43.aFy x43.aFv)
  refine oG fun z25=>?_
  have:=cE v31 ([(aB.mk x43.aFy x43.aFv)]:Z aB)
  exact sP
 intro v31 h17
 have:=aB.wm x28.aFy v31
 exact oB (r8 true (aB.mk x28.aFy v31) bS) fun x46 h26=>oS
def OP(fu:Nat):Prop:= ∀(p1:aB),wt p1≤65536→Ok (vH fu p1) (fun r=>wt r.1≤16*wt p1)
theorem vA:eK OP:=((((((((((bP 2147483648).and cQ).and iC).and jE).and tV).and oY).and rB).and c3).and u6).and iN).imp fun fu ⟨⟨⟨⟨⟨⟨⟨⟨⟨hfu,cQ⟩,iC⟩,jE⟩,tV⟩,oY⟩,rB⟩,c3⟩,u6⟩,iN⟩ p1 hpre=>by
 refine oB (cQ p1 1 bS) fun x2 h1=>oB (cQ p1 2 bS) fun x4 h2=>oB (iC x4 bS) fun x6 h3=>oB (cQ p1 3 bS) fun x8 h4=>oB (jE x8 bS) fun x10 h5=>oB (cQ p1 4 bS) fun x12 h6=>oB (tV x12 bS) fun x14 h7=>oB (cQ p1 5 bS) fun x16 h8=>oB (cQ p1 6 bS) fun x18 h9=>?_;refine g0 (E:=fun(v22,v19,v20,v21)=>wl v22+v21.size≤2*wt x18) ?_ ?_
 ·have:=aB.we x18
  have:=bE x18.aFv
  refine oD (fun g11=>?_) fun g11=>?_
  ·have:=bE (x18.aFv)
   refine oG fun z12=>?_
   have:=c8 x18.aFv 0 z12
   have:wl (List.take 1 x18.aFv)=wl (List.take 0 x18.aFv)+wt (aR x18.aFv 0)+1:=N8 x18.aFv 0 z12
   refine oB (jE (aR x18.aFv 0) bS) fun x26 h13=>?_
   have:=aA.we x26
   exact oI
  have:s_.size=0:=rfl
  have:=b9
  exact oI
 rintro⟨v22,v19,v20,v21⟩ h10
 dsimp only at h10
 have:=aB.we p1
 refine oB (oY p1 7 bS) fun x28 h14=>?_
 have:=(vN:wl ([]:Z aT)=0∧_)
 refine avH (PA:=fun a=>OC a.aFE) x28 4 (fun i29 v31 hl16 hI17 hI17B _ _=>?_) ?_
 ·have:=bE x28
  have:=c8 x28 i29 hl16
  refine oB (cQ (aR x28 i29) 0 bS) fun x35 h18=>oB (cQ (aR x28 i29) 1 bS) fun x37 h19=>oB (iC x37 bS) fun x39 h20=>oB (cQ (aR x28 i29) 2 bS) fun x41 h21=>VT (rB x41 bS) fun x43 h22 h22B=>?_
  have:=bE (v31)
  have:=aB.we x35
  have:=aT.wm x35.aFy x39 x43
  have:=cO (aT.mk x35.aFy x39 x43)
  refine oG fun z23=>?_
  have:=cE v31 ([(aT.mk x35.aFy x39 x43)]:Z aT)
  exact oX hI17B
 rintro v31 ⟨h15,h15B⟩
 refine oB (c3 p1 bS) fun x46 _=>?_;refine oW (fun g25=>?_) fun g25=>?_
 ·have:s_.size=0:=rfl
  have:=b9
  have:=aA.wm 0 s_ []
  have:=dJ
  have:=BZ
  have:=aL.wm s_ [] (aA.mk 0 s_ []) [] false false (aA.mk 0 s_ []) []
  exact oS
 have:=bE p1.aFv
 refine oD (fun g26=>?_) fun g26=>?_
 ·have:s_.size=0:=rfl
  have:=b9
  have:=aA.wm 0 s_ []
  have:=dJ
  have:=BZ
  have:=aL.wm s_ [] (aA.mk 0 s_ []) [] false false (aA.mk 0 s_ []) []
  exact oS
 have:=aB.we x2
 have:=aB.we x16
 have:=bE x16.aFv
 have:=aA.wm v20 v21 v22
 have:=aL.wm x2.aFy x6 x10 x14 (decide ((x16.aFv.length:Int)>0)) v19 (aA.mk v20 v21 v22) v31
 refine oB (u6 (aL.mk x2.aFy x6 x10 x14 (decide ((x16.aFv.length:Int)>0)) v19 (aA.mk v20 v21 v22) v31) bS (by first|assumption|trivial)) fun x50 h27=>oB (iN x50 p1 bS) fun x52 _=>?_;refine oW (fun g29=>?_) fun g29=>?_
 ·have:s_.size=0:=rfl
  have:=b9
  have:=aA.wm 0 s_ []
  have:=dJ
  have:=BZ
  have:=aL.wm s_ [] (aA.mk 0 s_ []) [] false false (aA.mk 0 s_ []) []
  exact oS
 exact oS
def OI(fu:Nat):Prop:= ∀(pf:aQ),wt pf≤1048576→(OC pf.aFE)→Ok (vD fu pf) (fun r=>wt r≤64*wt pf+128)
theorem u5:eK OI:=(((((((((bP 2147483648).and lD).and bQ).and j9).and fH).and gL).and vX).and wY).and r8).imp fun fu ⟨⟨⟨⟨⟨⟨⟨⟨hfu,lD⟩,bQ⟩,j9⟩,fH⟩,gL⟩,vX⟩,wY⟩,r8⟩ pf hpre hB=>by
 refine oB (lD pf bS) fun x2 _=>?_;refine oW (fun g2=>?_) fun g2=>?_
 ·have:s_.size=0:=rfl
  have:=mI
  have:=aB.wm s_ []
  exact oS
 have:=mI
 have:=aQ.we pf
 refine T8 pf.aFO 16 (fun i4 v6 hl4 hI5 _ _=>?_) ?_
 ·have:=bE pf.aFO
  have:=c8 pf.aFO i4 hl4
  have:=aY.we (aR pf.aFO i4)
  refine oB (bQ ((aR pf.aFO i4).aFs)) fun x10 h6=>oB (j9 ((aR pf.aFO i4).aFu) bS) fun x12 h7=>?_
  have:=mE x10 x12
  refine oB (fH ([x10,x12]:Z aB) bS) fun x14 h8=>?_
  have:=bE (v6)
  have:=cO x14
  refine oG fun z9=>?_
  have:=cE v6 ([x14]:Z aB)
  exact sP
 intro v6 h3
 have:arQ.size=2:=rfl
 refine oB (bQ arQ) fun x17 h10=>oB (bQ pf.aFs) fun x19 h11=>oB (gL pf.aFH bS) fun x21 h12=>oB (vX pf.aFL bS) fun x23 h13=>oB (j9 pf.aFM bS) fun x25 h14=>oB (wY pf.aFE bS (by first|assumption|trivial)) fun x27 h15=>?_
 have:s_.size=0:=rfl
 have:=aB.wm s_ v6
 have:=aq8 x17 x19 x21 x23 (aB.mk s_ v6) x25 x27
 exact oB (fH ([x17,x19,x21,x23,(aB.mk s_ v6),x25,x27]:Z aB) bS) fun x29 h16=>oB (r8 true x29 bS) fun x31 h17=>oS
def OO(fu:Nat):Prop:= ∀(p1:aB),wt p1≤65536→Ok (vG fu p1) (fun r=>wt r.1≤16*wt p1)
theorem u9:eK OO:=(((((((((bP 2147483648).and cQ).and iC).and tV).and jE).and rB).and c3).and u5).and iN).imp fun fu ⟨⟨⟨⟨⟨⟨⟨⟨hfu,cQ⟩,iC⟩,tV⟩,jE⟩,rB⟩,c3⟩,u5⟩,iN⟩ p1 hpre=>by
 refine oB (cQ p1 1 bS) fun x2 h1=>oB (cQ p1 2 bS) fun x4 h2=>oB (iC x4 bS) fun x6 h3=>oB (cQ p1 3 bS) fun x8 h4=>oB (tV x8 bS) fun x10 h5=>oB (cQ p1 5 bS) fun x12 h6=>oB (jE x12 bS) fun x14 h7=>oB (cQ p1 6 bS) fun x16 h8=>VT (rB x16 bS) fun x18 h9 h9B=>oB (cQ p1 4 bS) fun x20 h10=>?_
 have:=(vN:wl ([]:Z aY)=0∧_)
 have:=aB.we x20
 refine T8 x20.aFv 4 (fun i21 v23 hl12 hI13 _ _=>?_) ?_
 ·have:=bE x20.aFv
  have:=c8 x20.aFv i21 hl12
  refine oB (cQ (aR x20.aFv i21) 0 bS) fun x27 h14=>oB (cQ (aR x20.aFv i21) 1 bS) fun x29 h15=>oB (jE x29 bS) fun x31 h16=>?_
  have:=bE (v23)
  have:=aB.we x27
  have:=aY.wm x27.aFy x31
  have:=cO (aY.mk x27.aFy x31)
  refine oG fun z17=>?_
  have:=cE v23 ([(aY.mk x27.aFy x31)]:Z aY)
  exact sP
 intro v23 h11
 refine oB (c3 p1 bS) fun x34 _=>?_;refine oW (fun g19=>?_) fun g19=>?_
 ·have:s_.size=0:=rfl
  have:=b9
  have:=aA.wm 0 s_ []
  have:=nJ
  have:=fI
  have:=aM.wm 0 s_ s_ 0 (aA.mk 0 s_ []) [] []
  have:=dJ
  have:=BZ
  have:=aQ.wm s_ [] [] [] (aA.mk 0 s_ []) (aM.mk 0 s_ s_ 0 (aA.mk 0 s_ []) [] [])
  exact oS
 have:=aB.we p1
 have:=bE p1.aFv
 refine oD (fun g20=>?_) fun g20=>?_
 ·have:s_.size=0:=rfl
  have:=b9
  have:=aA.wm 0 s_ []
  have:=nJ
  have:=fI
  have:=aM.wm 0 s_ s_ 0 (aA.mk 0 s_ []) [] []
  have:=dJ
  have:=BZ
  have:=aQ.wm s_ [] [] [] (aA.mk 0 s_ []) (aM.mk 0 s_ s_ 0 (aA.mk 0 s_ []) [] [])
  exact oS
 have:=aB.we x2
 have:=aQ.wm x2.aFy x6 x10 v23 x14 x18
 refine oB (u5 (aQ.mk x2.aFy x6 x10 v23 x14 x18) bS (by first|assumption|trivial)) fun x38 h21=>oB (iN x38 p1 bS) fun x40 _=>?_;refine oW (fun g23=>?_) fun g23=>?_
 ·have:s_.size=0:=rfl
  have:=b9
  have:=aA.wm 0 s_ []
  have:=nJ
  have:=fI
  have:=aM.wm 0 s_ s_ 0 (aA.mk 0 s_ []) [] []
  have:=dJ
  have:=BZ
  have:=aQ.wm s_ [] [] [] (aA.mk 0 s_ []) (aM.mk 0 s_ s_ 0 (aA.mk 0 s_ []) [] [])
  exact oS
 exact oS
end Go.Proofs.YtfcoaagbccmahaaGreat.W
namespace Go.Proofs.YtfcoaagbccmahaaGreat.W
set_option maxRecDepth 20000
set_option maxHeartbeats 4000000
open Go.RowKit Go.WalkArith Go.IntWalk
def afC(fu:Nat):Prop:= ∀(ps:Y) (p4:UInt8),ps.size≤1073741824→Ok (IN fu ps p4) (fun r=>wl r≤ps.size+1)
theorem IB:eK afC:=(bP 2147483648).imp fun fu hfu ps p4 hpre=>by
 have:=dJ
 refine g0 (E:=fun(v4,v2,v3)=>wl v4≤ps.size+1) ?_ ?_
 ·refine Ok.loopW (fun(v4,v2,v3)=>0≤v2∧v2≤v3∧v3≤(ps.size:Int)+1∧(wl v4:Int)≤v2) (fun(v4,v2,v3)=>((ps.size:Int)+2-v3).toNat) ?_ _ _ bS bS
  rintro⟨v4,v2,v3⟩ hI3
  try dsimp only at hI3
  refine oD (fun g4=>?_) fun g4=>?_
  ·refine oD (fun g5=>?_) fun g5=>?_
   ·refine oG fun z6=>?_
    have:=bE (v4)
    have:=HY ps (v2:Int).toNat (v3:Int).toNat
    have:=cO (ps.extract (v2:Int).toNat (v3:Int).toNat)
    have:=bC (ps.extract (v2:Int).toNat (v3:Int).toNat)
    refine oG fun z7=>?_
    have:=cE v4 ([(ps.extract (v2:Int).toNat (v3:Int).toNat)]:LB)
    have:=fK (v3+1)
    exact sP
   refine oG fun z8=>?_;refine oD (fun g9=>?_) fun g9=>?_
   ·refine oG fun z10=>?_
    have:=bE (v4)
    have:=HY ps (v2:Int).toNat (v3:Int).toNat
    have:=cO (ps.extract (v2:Int).toNat (v3:Int).toNat)
    have:=bC (ps.extract (v2:Int).toNat (v3:Int).toNat)
    refine oG fun z11=>?_
    have:=cE v4 ([(ps.extract (v2:Int).toNat (v3:Int).toNat)]:LB)
    have:=fK (v3+1)
    exact sP
   have:=fK (v3+1)
   exact sP
  exact oK
 rintro⟨v4,v2,v3⟩ h1
 dsimp only at h1
 exact oS
def aiH(fu:Nat):Prop:= ∀(ps:Y),ps.size≤1073741824→Ok (K9 fu ps) (fun _=>True)
theorem KM:eK aiH:=(bP 2147483648).imp fun fu hfu ps hpre=>by
 refine JO ?_ ?_
 ·refine gD ?_;rintro i1 ⟨⟩ hl2
  exact oG fun z4=>oN (fun _=>oR) fun g5=>sP
 rintro⟨⟩-
 exact oS
def amC(fu:Nat):Prop:= ∀(p1:Y×(LB)×(Z aZ)×(Z aO)×(Z aL)×(Z aQ)) (p2:aB),wt p2≤65536∧wl p1.2.2.1+wl p1.2.2.2.1+wl p1.2.2.2.2.1+wl p1.2.2.2.2.2≤1073741824→Ok (PZ fu p1 p2) (fun r=>r.2.1.size+wl r.2.2.1+wl r.2.2.2.1+wl r.2.2.2.2.1+wl r.2.2.2.2.2.1+wl r.2.2.2.2.2.2≤p1.1.size+wl p1.2.1+wl p1.2.2.1+wl p1.2.2.2.1+wl p1.2.2.2.2.1+wl p1.2.2.2.2.2+16*wt p2+1)
theorem O8:eK amC:=((((((bP 2147483648).and cQ).and A4).and u7).and vA).and u9).imp fun fu ⟨⟨⟨⟨⟨hfu,cQ⟩,A4⟩,u7⟩,vA⟩,u9⟩ p1 p2 hpre=>by
 have:=bE p1.2.2.1
 have:=bE p1.2.2.2.1
 have:=bE p1.2.2.2.2.1
 have:=bE p1.2.2.2.2.2
 refine oB (cQ p2 0 bS) fun x2 h1=>?_
 have:=aB.we x2
 have:MI.size=5:=rfl
 refine oD (fun g2=>?_) fun g2=>?_
 ·have:=congrArg ByteArray.size g2
  refine xK (A4 p2 bS) fun x5 x6 h3=>?_
  dsimp only at h3
  have:=bE (p1.2.2.1)
  have:=cO x5
  refine oG fun z4=>?_
  have:=cE p1.2.2.1 ([x5]:Z aZ)
  exact oS
 have:UV.size=4:=rfl
 refine oD (fun g5=>?_) fun g5=>?_
 ·have:=congrArg ByteArray.size g5
  refine xK (u7 p2 bS) fun x10 x11 h6=>?_
  dsimp only at h6
  have:=bE (p1.2.2.2.1)
  have:=cO x10
  refine oG fun z7=>?_
  have:=cE p1.2.2.2.1 ([x10]:Z aO)
  exact oS
 have:UW.size=4:=rfl
 refine oD (fun g8=>?_) fun g8=>?_
 ·have:=congrArg ByteArray.size g8
  refine xK (vA p2 bS) fun x15 x16 h9=>?_
  dsimp only at h9
  have:=bE (p1.2.2.2.2.1)
  have:=cO x15
  refine oG fun z10=>?_
  have:=cE p1.2.2.2.2.1 ([x15]:Z aL)
  exact oS
 have:arQ.size=2:=rfl
 refine oD (fun g11=>?_) fun g11=>?_
 ·have:=congrArg ByteArray.size g11
  refine xK (u9 p2 bS) fun x20 x21 h12=>?_
  dsimp only at h12
  have:=cO x20
  refine oG fun z13=>?_
  have:=cE p1.2.2.2.2.2 ([x20]:Z aQ)
  exact oS
 exact oS
def aiI(fu:Nat):Prop:= ∀(p0:aN),wt p0≤4194304→Ok (LA fu p0) (fun _=>True)
theorem KN:eK aiI:=(bP 2147483648).imp fun fu hfu p0 hpre=>by
 have:=dJ
 have:=aN.we p0
 refine T8 p0.aFK 1 (fun i1 v3 hl2 hI3 _ _=>?_) ?_
 ·have:=bE p0.aFK
  have:=bE (v3)
  have:=c8 p0.aFK i1 hl2
  have:=aZ.we (aR p0.aFK i1)
  have:=cO ((aR p0.aFK i1).aFs)
  have:=bC ((aR p0.aFK i1).aFs)
  refine oG fun z4=>?_
  have:=cE v3 ([((aR p0.aFK i1).aFs)]:LB)
  exact sP
 intro v3 h1
 refine g0 (E:=fun(v10,v11)=>wl v10+1*wl (List.take 0 p0.aFB)≤wl ([]:LB)+1*wl p0.aFB∧wl v11+1*wl (List.take 0 p0.aFB)≤wl ([]:LB)+1*wl p0.aFB) ?_ ?_
 ·refine J3 (fun i7 (v10,v11)=>wl v10+1*wl (List.take 0 p0.aFB)≤wl ([]:LB)+1*wl (List.take i7 p0.aFB)∧wl v11+1*wl (List.take 0 p0.aFB)≤wl ([]:LB)+1*wl (List.take i7 p0.aFB)) (by exact bS) (by rintro i7 ⟨v10,v11⟩-hI;have:=rR p0.aFB i7;(try dsimp only at hI ⊢);omega) ?_;rintro i7 ⟨v10,v11⟩ hl6 hI7
  dsimp only at hI7
  have:=bE p0.aFB
  have:=rT p0.aFB i7 hl6
  have:=rR p0.aFB (i7+1)
  have:=bE (v10)
  have:=c8 p0.aFB i7 hl6
  have:=aO.we (aR p0.aFB i7)
  have:=cO ((aR p0.aFB i7).aFs)
  have:=bC ((aR p0.aFB i7).aFs)
  refine oG fun z8=>?_;refine T8 ((aR p0.aFB i7).aFx) 1 (fun i15 v17 hl10 hI11 _ _=>?_) ?_
  ·have:=bE ((aR p0.aFB i7).aFx)
   have:=bE (v17)
   have:=c8 ((aR p0.aFB i7).aFx) i15 hl10
   have:=aE.we (aR ((aR p0.aFB i7).aFx) i15)
   have:=cO ((aR ((aR p0.aFB i7).aFx) i15).aFs)
   have:=bC ((aR ((aR p0.aFB i7).aFx) i15).aFs)
   refine oG fun z12=>?_
   have:=cE v17 ([((aR ((aR p0.aFB i7).aFx) i15).aFs)]:LB)
   exact sP
  intro v17 h9
  have:=cE v10 ([((aR p0.aFB i7).aFs)]:LB)
  exact sP
 rintro⟨v10,v11⟩ h5
 dsimp only at h5
 refine T8 p0.aFT 1 (fun i21 v23 hl14 hI15 _ _=>?_) ?_
 ·have:=bE p0.aFT
  have:=c8 p0.aFT i21 hl14
  refine Ok.lt fun y26 h16=>?_
  have:=congrArg wt h16
  have:=bE (v23)
  have:=aQ.we y26
  have:=cO y26.aFs
  have:=bC y26.aFs
  refine oG fun z17=>?_
  have:=cE v23 ([y26.aFs]:LB)
  exact sP
 intro v23 h13
 exact oS
def aiJ(fu:Nat):Prop:= ∀(pp:aN),wt pp≤4194304→Ok (AJ fu pp) (fun _=>True)
theorem KO:eK aiJ:=(((((bP 2147483648).and nQ).and lC).and lE).and lD).imp fun fu ⟨⟨⟨⟨hfu,nQ⟩,lC⟩,lE⟩,lD⟩ pp hpre=>by
 refine JO ?_ ?_
 ·refine gD ?_;rintro i1 ⟨⟩ hl2
  have:=aN.we pp
  have:=bE pp.aFK
  have:=c8 pp.aFK i1 hl2
  exact oB (nQ (aR pp.aFK i1) bS) fun x5 _=>oW (fun _=>oR) fun g5=>sP
 rintro⟨⟩-
 refine JO ?_ ?_
 ·refine gD ?_;rintro i7 ⟨⟩ hl7
  have:=aN.we pp
  have:=bE pp.aFB
  have:=c8 pp.aFB i7 hl7
  exact oB (lC (aR pp.aFB i7) bS) fun x11 _=>oW (fun _=>oR) fun g10=>sP
 rintro⟨⟩-
 refine JO ?_ ?_
 ·refine gD ?_;rintro i13 ⟨⟩ hl12
  have:=aN.we pp
  have:=bE pp.aFG
  have:=c8 pp.aFG i13 hl12
  refine Ok.lt fun y16 h14=>?_
  have:=congrArg wt h14
  exact oB (lE y16 bS) fun x19 _=>oW (fun _=>oR) fun g16=>sP
 rintro⟨⟩-
 refine JO ?_ ?_
 ·refine gD ?_;rintro i21 ⟨⟩ hl18
  have:=aN.we pp
  have:=bE pp.aFT
  have:=c8 pp.aFT i21 hl18
  refine Ok.lt fun y24 h20=>?_
  have:=congrArg wt h20
  exact oB (lD y24 bS) fun x27 _=>oW (fun _=>oR) fun g22=>sP
 rintro⟨⟩-
 exact oS
def QL(fu:Nat):Prop:= ∀(p0:aN),wt p0≤4194304→Ok (oF fu p0) (fun _=>True)
theorem wW:eK QL:=(((((((bP 2147483648).and KN).and bO).and dU).and eN).and fB).and KO).imp fun fu ⟨⟨⟨⟨⟨⟨hfu,KN⟩,bO⟩,dU⟩,eN⟩,fB⟩,KO⟩ p0 hpre=>by
 refine oB4 (KN p0 bS) fun x2 x3 x4 x5 _=>?_
 have:=aN.we p0
 refine oB (bO p0.aFs) fun x7 _=>oW (fun _=>oS) fun g3=>oB (dU p0.aF6 5) fun x10 _=>oW (fun _=>oS) fun g5=>oB (eN p0.aF6 p0.aFs) fun x13 _=>oC (fun _=>oS) fun g7=>?_
 have:=bE p0.aFK
 have:=bE p0.aFB
 have:=fK ((p0.aFK.length:Int)+(p0.aFB.length:Int))
 have:=bE p0.aFG
 have:=fK ((bB ((p0.aFK.length:Int)+(p0.aFB.length:Int)))+(p0.aFG.length:Int))
 have:=bE p0.aFT
 have:=fK ((bB ((bB ((p0.aFK.length:Int)+(p0.aFB.length:Int)))+(p0.aFG.length:Int)))+(p0.aFT.length:Int))
 refine oD (fun _=>oS) fun g8=>oB (fB x2) fun x17 _=>?_;refine oC (fun g10=>?_) fun g10=>?_
 ·refine oB (fB x3) fun x20 _=>?_;refine oC (fun g12=>?_) fun g12=>?_
  ·refine oB (fB x4) fun x23 _=>?_;refine oC (fun g14=>?_) fun g14=>?_
   ·refine oB (fB x5) fun x26 _=>?_;refine oC (fun g16=>?_) fun g16=>?_
    ·exact oB (KO p0 bS) fun x29 _=>oS
    exact oS
   exact oS
  exact oS
 exact oS
def QM(fu:Nat):Prop:= ∀(p0:aB),wt p0≤65536→Ok (oH fu p0) (fun r=>wt r.1≤20*wt p0)
theorem wX:eK QM:=((((((bP 2147483648).and cQ).and jR).and c3).and O8).and wW).imp fun fu ⟨⟨⟨⟨⟨hfu,cQ⟩,jR⟩,c3⟩,O8⟩,wW⟩ p0 hpre=>by
 refine oB (cQ p0 2 bS) fun x2 h1=>?_
 have:=aB.we x2
 refine xK (jR x2.aFv bS) fun x4 x5 h2=>?_
 dsimp only at h2
 refine oB (cQ p0 1 bS) fun x7 h3=>oB (c3 p0 bS) fun x9 _=>?_;refine oW (fun g5=>?_) fun g5=>?_
 ·have:s_.size=0:=rfl
  have:=dJ
  have:=uK
  have:=zH
  have:=zJ
  have:=zI
  have:=aN.wm s_ [] [] [] [] []
  exact oS
 have:=aB.we p0
 have:=bE p0.aFv
 refine oD (fun g6=>?_) fun g6=>?_
 ·have:s_.size=0:=rfl
  have:=dJ
  have:=uK
  have:=zH
  have:=zJ
  have:=zI
  have:=aN.wm s_ [] [] [] [] []
  exact oS
 have:=bE (p0.aFv)
 refine oG fun z7=>?_
 have:=c8 p0.aFv 0 z7
 have:wl (List.take 1 p0.aFv)=wl (List.take 0 p0.aFv)+wt (aR p0.aFv 0)+1:=N8 p0.aFv 0 z7
 have:=aB.we (aR p0.aFv 0)
 have:aeK.size=7:=rfl
 refine oN (fun g8=>?_) fun g8=>?_
 ·have:s_.size=0:=rfl
  have:=dJ
  have:=uK
  have:=zH
  have:=zJ
  have:=zI
  have:=aN.wm s_ [] [] [] [] []
  exact oS
 have:=congrArg ByteArray.size g8
 refine oG fun z9=>?_
 have:=c8 p0.aFv 2 z9
 have:wl (List.take 3 p0.aFv)=wl (List.take 2 p0.aFv)+wt (aR p0.aFv 2)+1:=N8 p0.aFv 2 z9
 have:=aB.we (aR p0.aFv 2)
 have:s_.size=0:=rfl
 refine oN (fun g10=>?_) fun g10=>?_
 ·have:=J8 g10
  have:=dJ
  have:=uK
  have:=zH
  have:=zJ
  have:=zI
  have:=aN.wm s_ [] [] [] [] []
  exact oS
 refine oW (fun g11=>?_) fun g11=>?_
 ·have:=dJ
  have:=uK
  have:=zH
  have:=zJ
  have:=zI
  have:=aN.wm s_ [] [] [] [] []
  exact oS
 have:=uK
 have:=zH
 have:=zJ
 have:=zI
 have:=aB.we x7
 refine g0 (E:=fun(v18,v19,v24,v25,v26,v27)=>v18.size+wl v19+wl v24+wl v25+wl v26+wl v27≤x7.aFy.size+wl x4+16*wl p0.aFv) ?_ ?_
 ·refine J3 (fun i17 (v18,v19,v24,v25,v26,v27)=>v18.size+wl v19+wl v24+wl v25+wl v26+wl v27≤x7.aFy.size+wl x4+16*wl (List.take i17 p0.aFv)) (by exact bS) (by rintro i17 ⟨v18,v19,v24,v25,v26,v27⟩-hI;have:=rR p0.aFv i17;(try dsimp only at hI ⊢);omega) ?_;rintro i17 ⟨v18,v19,v24,v25,v26,v27⟩ hl13 hI14
  dsimp only at hI14
  have:=rT p0.aFv i17 hl13
  have:=rR p0.aFv (i17+1)
  have:=c8 p0.aFv i17 hl13
  refine xK (O8 (v18,v19,v24,v25,v26,v27) (aR p0.aFv i17) bS) fun x31 x32 h15=>?_
  dsimp only at h15
  refine oW (fun g16=>?_) fun g16=>?_
  ·have:=dJ
   have:=uK
   have:=zH
   have:=zJ
   have:=zI
   have:=aN.wm s_ [] [] [] [] []
   exact oR
  exact sP
 rintro⟨v18,v19,v24,v25,v26,v27⟩ h12
 dsimp only at h12
 have:=aN.wm v18 v19 v24 v25 v26 v27
 refine oB (wW (aN.mk v18 v19 v24 v25 v26 v27) bS) fun x35 _=>?_;refine oW (fun g18=>?_) fun g18=>?_
 ·have:=dJ
  have:=uK
  have:=zH
  have:=zJ
  have:=zI
  have:=aN.wm s_ [] [] [] [] []
  exact oS
 exact oS
def WK(fu:Nat):Prop:= ∀(ps:Y),ps.size≤16384→Ok (uW fu ps) (fun r=>wt r.1≤40*ps.size)
theorem A2:eK WK:=(((bP 2147483648).and FG).and wX).imp fun fu ⟨⟨hfu,FG⟩,wX⟩ ps hpre=>by
 refine xK (FG ps bS) fun x2 x3 h1=>?_
 dsimp only at h1
 refine oW (fun g2=>?_) fun g2=>?_
 ·have:s_.size=0:=rfl
  have:=dJ
  have:=uK
  have:=zH
  have:=zJ
  have:=zI
  have:=aN.wm s_ [] [] [] [] []
  exact oS
 refine xK (wX x2 bS) fun x6 x7 h3=>?_
 dsimp only at h3
 exact oS
def WL(fu:Nat):Prop:= ∀(ps:Y),ps.size≤8192→Ok (r9 fu ps) (fun r=>wt r.1≤40*(ps.size+1))
theorem A3:eK WL:=((((bP 2147483648).and IB).and KM).and A2).imp fun fu ⟨⟨⟨hfu,IB⟩,KM⟩,A2⟩ ps hpre=>by
 refine oB (IB ps (10:UInt8) bS) fun x2 h1=>?_
 have:=(vN:wl ([]:Z aN)=0∧_)
 refine T8 x2 40 (fun i3 v5 hl3 hI4 _ _=>?_) ?_
 ·have:=bE x2
  have:=c8 x2 i3 hl3
  have:=bC (aR x2 i3)
  refine oB (KM (aR x2 i3) bS) fun x9 _=>oC (fun _=>sP) fun g6=>xK (A2 (aR x2 i3) bS) fun x12 x13 h7=>?_
  dsimp only at h7
  refine oW (fun g8=>?_) fun g8=>?_
  ·have:=aH.wm []
   have:=bE v5
   exact oR
  have:=bE v5
  refine oD (fun g9=>?_) fun g9=>?_
  ·have:=aH.wm []
   exact oR
  have:=bE (v5)
  have:=cO x12
  refine oG fun z10=>?_
  have:=cE v5 ([x12]:Z aN)
  exact sP
 intro v5 h2
 have:=aH.wm v5
 exact oS
def amB(fu:Nat):Prop:= ∀(pc:DS),Ok (PY fu pc) (fun r=>r.1.size≤4000)
theorem O7:eK amB:=(bP 2147483648).imp fun fu hfu pc=>by
 have:c5.size=110:=rfl
 have:c6.size=156:=rfl
 refine oG fun z1=>?_
 have:=fR c5 c6
 have:dG.size=119:=rfl
 refine oG fun z2=>?_
 have:=fR (c5++c6) dG
 have:dT.size=86:=rfl
 refine oG fun z3=>Ok.lt fun d4 h4=>?_;refine oC (fun g5=>?_) fun g5=>?_
 ·have:=fR ((c5++c6)++dG) dT
  have:k7.size=120:=rfl
  refine oG fun z6=>?_
  have:=fR (((c5++c6)++dG)++dT) k7
  have:eQ.size=127:=rfl
  refine oG fun z7=>?_
  have:=fR ((((c5++c6)++dG)++dT)++k7) eQ
  have:fN.size=95:=rfl
  refine oG fun z8=>?_
  have:=fR (((((c5++c6)++dG)++dT)++k7)++eQ) fN
  have:gU.size=107:=rfl
  refine oG fun z9=>?_
  have:=fR ((((((c5++c6)++dG)++dT)++k7)++eQ)++fN) gU
  have:jU.size=51:=rfl
  refine oG fun z10=>?_
  have:=fR (((((((c5++c6)++dG)++dT)++k7)++eQ)++fN)++gU) jU
  have:mH.size=140:=rfl
  refine oG fun z11=>?_
  have:=fR ((((((((c5++c6)++dG)++dT)++k7)++eQ)++fN)++gU)++jU) mH
  have:rY.size=90:=rfl
  refine oG fun z12=>?_
  have:=fR (((((((((c5++c6)++dG)++dT)++k7)++eQ)++fN)++gU)++jU)++mH) rY
  have:D4.size=1:=rfl
  refine oG fun z13=>?_
  have:=fR ((((((((((c5++c6)++dG)++dT)++k7)++eQ)++fN)++gU)++jU)++mH)++rY) D4
  exact oS
 have:=fR ((c5++c6)++dG) dT
 have:k8.size=147:=rfl
 refine oG fun z14=>?_
 have:=fR (((c5++c6)++dG)++dT) k8
 have:eQ.size=127:=rfl
 refine oG fun z15=>?_
 have:=fR ((((c5++c6)++dG)++dT)++k8) eQ
 have:fN.size=95:=rfl
 refine oG fun z16=>?_
 have:=fR (((((c5++c6)++dG)++dT)++k8)++eQ) fN
 have:gU.size=107:=rfl
 refine oG fun z17=>?_
 have:=fR ((((((c5++c6)++dG)++dT)++k8)++eQ)++fN) gU
 have:jU.size=51:=rfl
 refine oG fun z18=>?_
 have:=fR (((((((c5++c6)++dG)++dT)++k8)++eQ)++fN)++gU) jU
 have:mH.size=140:=rfl
 refine oG fun z19=>?_
 have:=fR ((((((((c5++c6)++dG)++dT)++k8)++eQ)++fN)++gU)++jU) mH
 have:rY.size=90:=rfl
 refine oG fun z20=>?_
 have:=fR (((((((((c5++c6)++dG)++dT)++k8)++eQ)++fN)++gU)++jU)++mH) rY
 have:D4.size=1:=rfl
 refine oG fun z21=>?_
 have:=fR ((((((((((c5++c6)++dG)++dT)++k8)++eQ)++fN)++gU)++jU)++mH)++rY) D4
 exact oS
def ap6(fu:Nat):Prop:= ∀(pc:DS),Ok (U1 fu pc) (fun r=>r.1.size≤3000)
theorem TW:eK ap6:=(bP 2147483648).imp fun fu hfu pc=>by
 refine g0 (E:=fun(v1,v2)=>v1.size≤1000) ?_ ?_
 ·refine Ok.lt fun d3 h2=>?_;refine oC (fun g3=>?_) fun g3=>?_
  ·have:fM.size=50:=rfl
   have:Q6.size=38:=rfl
   refine oG fun z4=>?_
   have:=fR fM Q6
   exact oI
  refine oC (fun g5=>?_) fun g5=>?_
  ·have:fM.size=50:=rfl
   have:Q4.size=64:=rfl
   refine oG fun z6=>?_
   have:=fR fM Q4
   exact oI
  refine oC (fun g7=>?_) fun g7=>?_
  ·have:fM.size=50:=rfl
   have:QW.size=83:=rfl
   refine oG fun z8=>?_
   have:=fR fM QW
   exact oI
  refine oC (fun g9=>?_) fun g9=>?_
  ·have:fM.size=50:=rfl
   have:QY.size=45:=rfl
   refine oG fun z10=>?_
   have:=fR fM QY
   exact oI
  refine oC (fun g11=>?_) fun g11=>?_
  ·have:fM.size=50:=rfl
   have:QX.size=90:=rfl
   refine oG fun z12=>?_
   have:=fR fM QX
   exact oI
  refine oC (fun g13=>?_) fun g13=>?_
  ·have:fM.size=50:=rfl
   have:Q3.size=45:=rfl
   refine oG fun z14=>?_
   have:=fR fM Q3
   exact oI
  have:fM.size=50:=rfl
  have:QZ.size=64:=rfl
  refine oG fun z15=>?_
  have:=fR fM QZ
  exact oI
 rintro⟨v1,v2⟩ h1
 dsimp only at h1
 have:rX.size=23:=rfl
 refine oG fun z16=>?_
 have:GB.size=13:=rfl
 have:GA.size=68:=rfl
 have:F8.size=29:=rfl
 have:GC.size=43:=rfl
 have:F7.size=68:=rfl
 have:GF.size=25:=rfl
 have:GG.size=29:=rfl
 have:GD.size=45:=rfl
 have:GE.size=65:=rfl
 have:F6.size=43:=rfl
 have:wl ([GB,GA,F8,GC,F7,GF,GG,GD,GE,F6]:LB)=438:=rfl
 refine Ok.lt fun d19 h17=>Ok.lt fun y21 h18=>?_
 have:=congrArg wt h18
 simp only [bC] at this
 have:y21.size≤200:=by rw [h18];exact cJ _ (by decide) (by decide)
 have:=fR v1 rX
 refine oG fun z19=>?_
 have:=fR (v1++rX) y21
 have:D4.size=1:=rfl
 refine oG fun z20=>?_;refine g0 (E:=fun(v25,v26)=>v25.size≤2000) ?_ ?_
 ·refine Ok.lt fun d27 h22=>?_;refine oC (fun g23=>?_) fun g23=>?_
  ·have:=fR ((v1++rX)++y21) D4
   have:Q0.size=83:=rfl
   refine oG fun z24=>?_
   have:=fR (((v1++rX)++y21)++D4) Q0
   exact oI
  have:=fR ((v1++rX)++y21) D4
  exact oI
 rintro⟨v25,v26⟩ h21
 dsimp only at h21
 refine g0 (E:=fun(v31,v32)=>v31.size≤2500) ?_ ?_
 ·refine Ok.lt fun d33 h26=>?_;refine oC (fun g27=>?_) fun g27=>?_
  ·have:Q5.size=77:=rfl
   refine oG fun z28=>?_
   have:=fR v25 Q5
   exact oI
  exact oI
 rintro⟨v31,v32⟩ h25
 dsimp only at h25
 refine Ok.lt fun d37 h29=>?_;refine oC (fun g30=>?_) fun g30=>?_
 ·have:F9.size=113:=rfl
  refine oG fun z31=>?_
  have:=fR v31 F9
  refine oG fun z32=>?_
  have:=fR (v31++F9) D4
  exact oS
 refine oG fun z33=>?_
 have:=fR v31 D4
 exact oS
def WO(fu:Nat):Prop:= ∀(pc:DS),Ok (BE fu pc) (fun r=>r.1.size≤7001)
theorem A6:eK WO:=(((bP 2147483648).and O7).and TW).imp fun fu ⟨⟨hfu,O7⟩,TW⟩ pc=>by
 refine xK (O7 pc) fun x2 x3 h1=>?_
 dsimp only at h1
 refine Ok.lt fun d4 h2=>oC (fun _=>oS) fun g3=>?_
 have:asA.size=1:=rfl
 refine oG fun z4=>xK (TW d4) fun x9 x10 h5=>?_
 dsimp only at h5
 have:=fR x2 asA
 refine oG fun z6=>?_
 have:=fR (x2++asA) x9
 exact oS
def amD(fu:Nat):Prop:= ∀(pc:DS),Ok (IX fu pc) (fun r=>wt r.1≤327680)
theorem O9:eK amD:=(((bP 2147483648).and A6).and A3).imp fun fu ⟨⟨hfu,A6⟩,A3⟩ pc=>by
 refine xK (A6 pc) fun x2 x3 h1=>?_
 dsimp only at h1
 refine xK (A3 x2 bS) fun x5 x6 h2=>?_
 dsimp only at h2
 have:=aH.we x5
 have:=aH.wm x5.aFr
 exact oS
def bT:Nat→Nat
 |0=>1000
 |n+1=>2*bT n+20
theorem ao7: ∀n:Nat,1000≤bT n
 |0=>Nat.le_refl _
 |n+1=>by unfold bT;have:=ao7 n;omega
theorem auZ(x:Int):0<x∧x≤4→bT x.toNat=2*bT (bB (x-1)).toNat+20:=fun h=>by
 rw [fK (x-1) (by omega)]
 obtain⟨n,rfl⟩: ∃n:Nat,x=((n+1:Nat):Int):=⟨x.toNat-1,by omega⟩
 have e:(((n+1:Nat):Int)-1).toNat=n:=by omega
 rw [e]
 simp only [Int.toNat_natCast]
 rfl
theorem ao8(x:Int):x≤4→bT x.toNat≤20000:=fun h=>by
 have:x.toNat=0∨x.toNat=1∨x.toNat=2∨x.toNat=3∨x.toNat=4:=by omega
 rcases this with h|h|h|h|h<;>rw [h]<;>decide
def bX:Nat→Nat
 |0=>3000
 |n+1=>4*bX n+22000
theorem as5: ∀n:Nat,3000≤bX n
 |0=>Nat.le_refl _
 |n+1=>by unfold bX;have:=as5 n;omega
theorem au0(x:Int):0<x∧x≤4→bX x.toNat=4*bX (bB (x-1)).toNat+22000:=fun h=>by
 rw [fK (x-1) (by omega)]
 obtain⟨n,rfl⟩: ∃n:Nat,x=((n+1:Nat):Int):=⟨x.toNat-1,by omega⟩
 have e:(((n+1:Nat):Int)-1).toNat=n:=by omega
 rw [e]
 simp only [Int.toNat_natCast]
 rfl
theorem awC(x:Int):x≤3→bX x.toNat≤1000000:=fun h=>by
 have:x.toNat=0∨x.toNat=1∨x.toNat=2∨x.toNat=3:=by omega
 rcases this with h|h|h|h<;>rw [h]<;>decide
theorem afK:bT (1:Int).toNat=2020:=rfl
theorem aw1:bX (2:Int).toNat=158000:=rfl
theorem amH:bT (2:Int).toNat=4060:=rfl
attribute [local irreducible] wt wl bT bX lt
def ao2(fu:Nat):Prop:= ∀(pc:DS) (p3:LB) (p2:Int),wl p3≤1000∧ -100≤p2∧p2≤4→Ok (mP fu pc p3 p2) (fun r=>wt r.1≤bT p2.toNat)
def ae8(n:Nat)(m:MW):Prop:= ∀(pc:DS) (p3:LB) (p2:Int),p2.toNat<n→wl p3≤1000∧ -100≤p2∧p2≤4→Ok (m pc p3 p2) (fun r=>wt r.1≤bT p2.toNat)
theorem auA{n fu:Nat}(hfu:2147483648≤fu)(fV:YK fu)(eE:YJ fu){pH:MW}(p8:ae8 n pH):ae8 (n+1) (XW fu pH):=by
 intro pc p3 p2 hm hpre
 have:=ao7 p2.toNat
 have:=ao7 (bB (p2-1)).toNat
 have:=auZ p2
 have:=ao8 (bB (p2-1))
 refine Ok.lt fun d1 h1=>?_;refine oC (fun g2=>?_) fun g2=>?_
 ·have:=bE p3
  refine oD (fun g3=>?_) fun g3=>?_
  ·refine Ok.lt fun d5 h4=>?_
   have:=aqM d1 p3.length
   have:=bE (p3)
   refine oG fun z5=>?_
   have:=c8 p3 (d1.below p3.length) z5
   have:=bC (aR p3 (d1.below p3.length))
   refine oB (fV (aR p3 (d1.below p3.length))) fun x9 h6=>?_
   have:=aA.we x9
   have:=aA.wm x9.aFw x9.aFs x9.aFt
   exact oS
  refine oC (fun g7=>?_) fun g7=>?_
  ·have:fE.size=3:=rfl
   have:eU.size=4:=rfl
   have:kY.size=4:=rfl
   have:=JN fE eU kY
   have:=bC fE
   have:=bC eU
   have:=bC kY
   refine Ok.lt fun d11 h8=>Ok.lt fun y13 h9=>?_
   have:=congrArg wt h9
   simp only [bC] at this
   have:y13.size≤4:=by rw [h9];exact cJ _ (by decide) (by decide)
   have:=b9
   refine oB (eE y13 ([]:Z aA) bS) fun x16 h10=>?_
   have:=aA.we x16
   have:=aA.wm x16.aFw x16.aFs x16.aFt
   exact oS
  refine oD (fun g11=>?_) fun g11=>?_
  ·have:fE.size=3:=rfl
   have:eU.size=4:=rfl
   have:kY.size=4:=rfl
   have:=JN fE eU kY
   have:=bC fE
   have:=bC eU
   have:=bC kY
   refine Ok.lt fun d18 h12=>Ok.lt fun y20 h13=>?_
   have:=congrArg wt h13
   simp only [bC] at this
   have:y20.size≤4:=by rw [h13];exact cJ _ (by decide) (by decide)
   have:=b9
   refine oB (eE y20 ([]:Z aA) bS) fun x23 h14=>?_
   have:=aA.we x23
   have:=aA.wm x23.aFw x23.aFs x23.aFt
   exact oS
  refine oC (fun g15=>?_) fun g15=>?_
  ·have:=fK (p2-1)
   refine xK (p8 d1 p3 (bB (p2-1)) bS bS) fun x26 x27 h16=>?_
   dsimp only at h16
   refine xK (p8 x27 p3 (bB (p2-1)) bS bS) fun x29 x30 h17=>?_
   dsimp only at h17
   have:vJ.size=4:=rfl
   have:=aA.we x26
   have:=aA.wm x26.aFw x26.aFs x26.aFt
   have:=aA.we x29
   have:=aA.wm x29.aFw x29.aFs x29.aFt
   have:=mE (aA.mk x26.aFw x26.aFs x26.aFt) (aA.mk x29.aFw x29.aFs x29.aFt)
   refine oB (eE vJ ([(aA.mk x26.aFw x26.aFs x26.aFt),(aA.mk x29.aFw x29.aFs x29.aFt)]:Z aA) bS) fun x32 h18=>?_
   have:=aA.we x32
   have:=aA.wm x32.aFw x32.aFs x32.aFt
   exact oS
  have:cV.size=4:=rfl
  have:AG.size=3:=rfl
  have:=JN cV cV AG
  have:=bC cV
  have:=bC AG
  refine Ok.lt fun d33 h19=>Ok.lt fun y35 h20=>?_
  have:=congrArg wt h20
  simp only [bC] at this
  have:y35.size≤4:=by rw [h20];exact cJ _ (by decide) (by decide)
  have:=fK (p2-1)
  refine xK (p8 d33 p3 (bB (p2-1)) bS bS) fun x38 x39 h21=>?_
  dsimp only at h21
  have:=aA.we x38
  have:=aA.wm x38.aFw x38.aFs x38.aFt
  have:=cO (aA.mk x38.aFw x38.aFs x38.aFt)
  refine oB (eE y35 ([(aA.mk x38.aFw x38.aFs x38.aFt)]:Z aA) bS) fun x41 h22=>?_
  have:=aA.we x41
  have:=aA.wm x41.aFw x41.aFs x41.aFt
  exact oS
 refine oC (fun g23=>?_) fun g23=>?_
 ·have:fE.size=3:=rfl
  have:eU.size=4:=rfl
  have:kY.size=4:=rfl
  have:=JN fE eU kY
  have:=bC fE
  have:=bC eU
  have:=bC kY
  refine Ok.lt fun d43 h24=>Ok.lt fun y45 h25=>?_
  have:=congrArg wt h25
  simp only [bC] at this
  have:y45.size≤4:=by rw [h25];exact cJ _ (by decide) (by decide)
  have:=b9
  refine oB (eE y45 ([]:Z aA) bS) fun x48 h26=>?_
  have:=aA.we x48
  have:=aA.wm x48.aFw x48.aFs x48.aFt
  exact oS
 refine oD (fun g27=>?_) fun g27=>?_
 ·have:fE.size=3:=rfl
  have:eU.size=4:=rfl
  have:kY.size=4:=rfl
  have:=JN fE eU kY
  have:=bC fE
  have:=bC eU
  have:=bC kY
  refine Ok.lt fun d50 h28=>Ok.lt fun y52 h29=>?_
  have:=congrArg wt h29
  simp only [bC] at this
  have:y52.size≤4:=by rw [h29];exact cJ _ (by decide) (by decide)
  have:=b9
  refine oB (eE y52 ([]:Z aA) bS) fun x55 h30=>?_
  have:=aA.we x55
  have:=aA.wm x55.aFw x55.aFs x55.aFt
  exact oS
 refine oC (fun g31=>?_) fun g31=>?_
 ·have:=fK (p2-1)
  refine xK (p8 d1 p3 (bB (p2-1)) bS bS) fun x58 x59 h32=>?_
  dsimp only at h32
  refine xK (p8 x59 p3 (bB (p2-1)) bS bS) fun x61 x62 h33=>?_
  dsimp only at h33
  have:vJ.size=4:=rfl
  have:=aA.we x58
  have:=aA.wm x58.aFw x58.aFs x58.aFt
  have:=aA.we x61
  have:=aA.wm x61.aFw x61.aFs x61.aFt
  have:=mE (aA.mk x58.aFw x58.aFs x58.aFt) (aA.mk x61.aFw x61.aFs x61.aFt)
  refine oB (eE vJ ([(aA.mk x58.aFw x58.aFs x58.aFt),(aA.mk x61.aFw x61.aFs x61.aFt)]:Z aA) bS) fun x64 h34=>?_
  have:=aA.we x64
  have:=aA.wm x64.aFw x64.aFs x64.aFt
  exact oS
 have:cV.size=4:=rfl
 have:AG.size=3:=rfl
 have:=JN cV cV AG
 have:=bC cV
 have:=bC AG
 refine Ok.lt fun d65 h35=>Ok.lt fun y67 h36=>?_
 have:=congrArg wt h36
 simp only [bC] at this
 have:y67.size≤4:=by rw [h36];exact cJ _ (by decide) (by decide)
 have:=fK (p2-1)
 refine xK (p8 d65 p3 (bB (p2-1)) bS bS) fun x70 x71 h37=>?_
 dsimp only at h37
 have:=aA.we x70
 have:=aA.wm x70.aFw x70.aFs x70.aFt
 have:=cO (aA.mk x70.aFw x70.aFs x70.aFt)
 refine oB (eE y67 ([(aA.mk x70.aFw x70.aFs x70.aFt)]:Z aA) bS) fun x73 h38=>?_
 have:=aA.we x73
 have:=aA.wm x73.aFw x73.aFs x73.aFt
 exact oS
theorem avZ(n:Nat):eK fun fu=>ae8 n (mP fu):=by
 induction n with
 |zero=>exact .all fun fu=>fun _ _ _ h=>absurd h (Nat.not_lt_zero _)
 |succ n ih=>exact bY ((ih.and (((bP 2147483648).and fV).and eE)).imp fun fu ⟨h,⟨⟨hfu,fV⟩,eE⟩⟩=>fun pc p3 p2=>by rw [mP];exact auA hfu fV eE h pc p3 p2)
theorem sV:eK ao2:=(avZ 100).imp fun fu h pc p3 p2 hpre=>h pc p3 p2 bS hpre
def aqA(fu:Nat):Prop:= ∀(pt:aA),wt pt≤268435456→Ok (jH fu pt) (fun r=>wt r≤wt pt)
def LP(n:Nat)(m:t6):Prop:= ∀(pt:aA),2*wt pt+1<n→wt pt≤268435456→Ok (m pt) (fun r=>wt r≤wt pt)
def D7(n:Nat)(m:oT):Prop:= ∀(p7:Z aA),2*wl p7<n→wl p7≤268435456→Ok (m p7) (fun r=>wl r≤wl p7)
theorem aoG{n fu:Nat}(hfu:2147483648≤fu){p5:t6}(pE:LP n p5){p4:oT}(p9:D7 n p4):LP (n+1) (MR fu p5 p4):=by
 intro pt hm hpre
 have:=aA.we pt
 refine oB (p9 pt.aFt bS bS) fun x2 h1=>?_
 have:=aA.wm pt.aFw pt.aFs x2
 exact oS
theorem ahI{n fu:Nat}(hfu:2147483648≤fu){p5:t6}(pE:LP n p5){p4:oT}(p9:D7 n p4):D7 (n+1) (AO fu p5 p4):=by
 intro p7 hm hpre
 have:=b9
 refine T8 p7 1 (fun i1 v3 hl2 hI3 _ _=>?_) ?_
 ·have:=bE p7
  have:=c8 p7 i1 hl2
  refine oB (pE (aR p7 i1) bS bS) fun x7 h4=>?_
  have:=bE (v3)
  have:=cO x7
  refine oG fun z5=>?_
  have:=cE v3 ([x7]:Z aA)
  exact sP
 intro v3 h1
 exact oS
theorem arY(n:Nat):eK fun fu=>LP n (jH fu)∧D7 n (jG fu):=by
 induction n with
 |zero=>exact .all fun fu=>⟨fun _ h=>absurd h (Nat.not_lt_zero _),fun _ h=>absurd h (Nat.not_lt_zero _)⟩
 |succ n ih=>exact bY ((ih.and (bP 2147483648)).imp fun fu ⟨h,hfu⟩=>⟨fun pt=>by rw [jH];exact aoG hfu h.1 h.2 pt,fun p7=>by rw [jG];exact ahI hfu h.1 h.2 p7⟩)
theorem T3:eK aqA:=(arY 8589934592).imp fun fu h pt hpre=>h.1 pt bS hpre
def aqE(fu:Nat):Prop:= ∀(pA:Y) (pt:aA),pA.size+wt pt≤67108864→Ok (HB fu pA pt) (fun r=>wt r≤pA.size+wt pt+1)
theorem L9:eK aqE:=((bP 2147483648).and T3).imp fun fu ⟨hfu,T3⟩ pA pt hpre=>by
 refine oB (T3 pt bS) fun x2 h1=>?_
 have:=cO x2
 have:=aA.wm 3 pA ([x2]:Z aA)
 exact oS
def aqC(fu:Nat):Prop:= ∀(pc:DS) (p2:Int),-100≤p2∧p2≤4→Ok (sJ fu pc p2) (fun r=>wt r.1≤bT p2.toNat+60)
theorem l9:eK aqC:=((((bP 2147483648).and sV).and L9).and eE).imp fun fu ⟨⟨⟨hfu,sV⟩,L9⟩,eE⟩ pc p2 hpre=>by
 have:=ao7 p2.toNat
 have:=ao8 p2
 have:hH.size=1:=rfl
 have:ES.size=1:=rfl
 have:=mE hH ES
 have:=bC hH
 have:=bC ES
 refine xK (sV pc ([hH,ES]:LB) p2 bS) fun x2 x3 h1=>?_
 dsimp only at h1
 refine Ok.lt fun d4 h2=>?_;refine oC (fun g3=>?_) fun g3=>?_
 ·have:eV.size=3:=rfl
  have:bH.size=4:=rfl
  have:=mE eV bH
  have:=bC eV
  have:=bC bH
  refine Ok.lt fun d7 h4=>Ok.lt fun y9 h5=>?_
  have:=congrArg wt h5
  simp only [bC] at this
  have:y9.size≤4:=by rw [h5];exact cJ _ (by decide) (by decide)
  have:=aA.we x2
  have:=aA.wm x2.aFw x2.aFs x2.aFt
  refine oB (L9 y9 (aA.mk x2.aFw x2.aFs x2.aFt) bS) fun x12 h6=>?_
  have:=aA.we x12
  have:=aA.wm x12.aFw x12.aFs x12.aFt
  exact oS
 refine oC (fun g7=>?_) fun g7=>?_
 ·have:eV.size=3:=rfl
  have:=aA.we x2
  have:=aA.wm x2.aFw x2.aFs x2.aFt
  refine oB (L9 eV (aA.mk x2.aFw x2.aFs x2.aFt) bS) fun x15 h8=>?_
  have:cV.size=4:=rfl
  have:=aA.we x15
  have:=aA.wm x15.aFw x15.aFs x15.aFt
  have:=cO (aA.mk x15.aFw x15.aFs x15.aFt)
  refine oB (eE cV ([(aA.mk x15.aFw x15.aFs x15.aFt)]:Z aA) bS) fun x17 h9=>?_
  have:=aA.we x17
  have:=aA.wm x17.aFw x17.aFs x17.aFt
  exact oS
 refine oC (fun g10=>?_) fun g10=>?_
 ·have:bH.size=4:=rfl
  have:=b9
  have:=aA.wm 4 bH []
  exact oS
 have:=aA.we x2
 have:=aA.wm x2.aFw x2.aFs x2.aFt
 exact oS
def ah9(fu:Nat):Prop:= ∀(pk:Int) (pG:Y) (pC:Z aM),pG.size+wl pC≤67108864→Ok (xA fu pk pG pC) (fun r=>wt r=pG.size+wl pC)
theorem qE:eK ah9:=(bP 2147483648).imp fun fu hfu pk pG pC hpre=>by
 have:=nJ
 have:=bE (pC)
 refine oG fun z1=>?_
 have:s_.size=0:=rfl
 have:=b9
 have:=aA.wm 0 s_ []
 have:=cE ([]:Z aM) pC
 have:=fI
 have:=aM.wm pk s_ pG 0 (aA.mk 0 s_ []) (([])++pC) []
 exact oS
def al0(fu:Nat):Prop:= ∀(pF:DS) (p6:LB) (p0:Int),wl p6+10*p0.toNat≤900∧ -100≤p0∧p0≤3→Ok (nG fu pF p6 p0) (fun r=>wt r.1≤bX p0.toNat)
def OD(n:Nat)(m:vK):Prop:= ∀(pF:DS) (p6:LB) (p0:Int),p0.toNat<n→wl p6+10*p0.toNat≤900∧ -100≤p0∧p0≤3→Ok (m pF p6 p0) (fun r=>wt r.1≤bX p0.toNat)
theorem aj7{n fu:Nat}(hfu:2147483648≤fu)(gH:FX fu)(f9:FW fu)(qE:ah9 fu)(sV:ao2 fu){pD:vK}(p1:OD n pD):OD (n+1) (PO fu pD):=by
 intro pF p6 p0 hm hpre
 have:=as5 p0.toNat
 have:=as5 (bB (p0-1)).toNat
 have:=au0 p0
 have:=afK
 have:=awC p0
 have:=fK (p0-1)
 refine Ok.lt fun d1 h1=>?_;refine g0 (E:=fun v3=>p0≤0→v3≤2) ?_ ?_
 ·refine oD (fun g3=>?_) fun g3=>?_
  ·have:=DS.below_lt pF (n:=13) (by decide)
   exact oI
  have:=DS.below_lt pF (n:=13) (by decide)
  exact oI
 intro v3 h2
 refine oD (fun g4=>?_) fun g4=>?_
 ·refine Ok.lt fun d6 h5=>?_
  have:s_.size=0:=rfl
  have:=DS.below_lt d1 (n:=2) (by decide)
  have:=b9
  have:=aA.wm 0 s_ []
  have:=nJ
  have:=fI
  have:=aM.wm 2 s_ s_ (d1.below 2:Int) (aA.mk 0 s_ []) [] []
  exact oS
 refine JO ?_ ?_
 ·exact oD (fun _=>oI) fun g7=>oI
 intro v8 _
 refine oC (fun g8=>?_) fun g8=>?_
 ·have:=bE p6
  refine oD (fun g9=>?_) fun g9=>?_
  ·have:=bE (p6)
   refine oG fun z10=>Ok.lt fun d13 h11=>?_
   have:=avQ d1 p6
   refine Ok.lt fun y15 h12=>?_
   have:=congrArg wt h12
   simp only [bC] at this
   exact VT (gH y15) fun x18 h13 h13B=>oS
  refine Ok.lt fun d19 h14=>?_
  have:=DS.below_lt d1 (n:=20) (by decide)
  have:=fK ((d1.below 20:Int)-5)
  exact VT (f9 (bB ((d1.below 20:Int)-5)) bS) fun x22 h15 h15B=>oS
 refine oD (fun g16=>?_) fun g16=>?_
 ·have:s_f.size=1:=rfl
  have:s_g.size=1:=rfl
  have:=mE s_f s_g
  have:=bC s_f
  have:=bC s_g
  refine Ok.lt fun d24 h17=>Ok.lt fun y26 h18=>?_
  have:=congrArg wt h18
  simp only [bC] at this
  have:y26.size≤1:=by rw [h18];exact cJ _ (by decide) (by decide)
  have:=fK (p0-1)
  refine xK (p1 d24 p6 (bB (p0-1)) bS bS) fun x29 x30 h19=>?_
  dsimp only at h19
  have:=cO x29
  exact oB (qE 4 y26 ([x29]:Z aM) bS) fun x32 h20=>oS
 refine oD (fun g21=>?_) fun g21=>?_
 ·have:bH.size=4:=rfl
  have:eV.size=3:=rfl
  have:=mE bH eV
  have:=bC bH
  have:=bC eV
  refine Ok.lt fun d34 h22=>Ok.lt fun y36 h23=>?_
  have:=congrArg wt h23
  simp only [bC] at this
  have:y36.size≤4:=by rw [h23];exact cJ _ (by decide) (by decide)
  have:=fK (p0-1)
  refine xK (p1 d34 p6 (bB (p0-1)) bS bS) fun x39 x40 h24=>?_
  dsimp only at h24
  refine xK (p1 x40 p6 (bB (p0-1)) bS bS) fun x42 x43 h25=>?_
  dsimp only at h25
  have:fP.size=1:=rfl
  have:s_.size=0:=rfl
  have:=b9
  have:=aA.wm 0 s_ []
  have:=mE x39 x42
  have:=fI
  have:=aM.wm 5 y36 fP 0 (aA.mk 0 s_ []) ([x39,x42]:Z aM) []
  exact oS
 refine oD (fun g26=>?_) fun g26=>?_
 ·have:=fK (p0-1)
  refine xK (p1 d1 p6 (bB (p0-1)) bS bS) fun x46 x47 h27=>?_
  dsimp only at h27
  refine xK (p1 x47 p6 (bB (p0-1)) bS bS) fun x49 x50 h28=>?_
  dsimp only at h28
  have:cU.size=4:=rfl
  have:=mE x46 x49
  exact oB (qE 6 cU ([x46,x49]:Z aM) bS) fun x52 h29=>oS
 refine oD (fun g30=>?_) fun g30=>?_
 ·have:=dJ
  have:=bE (p6)
  refine oG fun z31=>?_
  have:=cE ([]:LB) p6
  have:s_h.size=1:=rfl
  have:s_t.size=1:=rfl
  have:=mE s_h s_t
  have:=bC s_h
  have:=bC s_t
  refine oG fun z32=>?_
  have:=fK (p0-1)
  refine xK (p1 d1 p6 (bB (p0-1)) bS bS) fun x57 x58 h33=>?_
  dsimp only at h33
  refine xK (p1 x58 p6 (bB (p0-1)) bS bS) fun x60 x61 h34=>?_
  dsimp only at h34
  have:=cE (([])++p6) ([s_h,s_t]:LB)
  refine xK (p1 x61 ((([])++p6)++([s_h,s_t]:LB)) (bB (p0-1)) bS bS) fun x63 x64 h35=>?_
  dsimp only at h35
  have:s_.size=0:=rfl
  have:=b9
  have:=aA.wm 0 s_ []
  have:=cO x57
  have:gW.size=3:=rfl
  have:=cC.wm gW [] x60
  have:cU.size=4:=rfl
  have:=cC.wm cU ([s_h,s_t]:LB) x63
  have:=mE (cC.mk gW [] x60) (cC.mk cU ([s_h,s_t]:LB) x63)
  have:=aM.wm 7 s_ s_ 0 (aA.mk 0 s_ []) ([x57]:Z aM) ([(cC.mk gW [] x60),(cC.mk cU ([s_h,s_t]:LB) x63)]:Z cC)
  exact oS
 refine oD (fun g36=>?_) fun g36=>?_
 ·have:=fK (p0-1)
  refine xK (p1 d1 p6 (bB (p0-1)) bS bS) fun x67 x68 h37=>?_
  dsimp only at h37
  have:=dJ
  have:=bE (p6)
  refine oG fun z38=>?_
  have:=cE ([]:LB) p6
  have:t2.size=1:=rfl
  have:=cO t2
  have:=bC t2
  refine oG fun z39=>?_
  have:=cE (([])++p6) ([t2]:LB)
  refine xK (p1 x68 ((([])++p6)++([t2]:LB)) (bB (p0-1)) bS bS) fun x72 x73 h40=>?_
  dsimp only at h40
  have:=mE x67 x72
  exact oB (qE 8 t2 ([x67,x72]:Z aM) bS) fun x75 h41=>oS
 refine oD (fun g42=>?_) fun g42=>?_
 ·have:=fK (p0-1)
  refine xK (p1 d1 p6 (bB (p0-1)) bS bS) fun x78 x79 h43=>?_
  dsimp only at h43
  refine xK (p1 x79 p6 (bB (p0-1)) bS bS) fun x81 x82 h44=>?_
  dsimp only at h44
  refine xK (p1 x82 p6 (bB (p0-1)) bS bS) fun x84 x85 h45=>?_
  dsimp only at h45
  have:s_.size=0:=rfl
  have:=JN x78 x81 x84
  exact oB (qE 9 s_ ([x78,x81,x84]:Z aM) bS) fun x87 h46=>oS
 refine oD (fun g47=>?_) fun g47=>?_
 ·have:D5.size=1:=rfl
  have:JU.size=1:=rfl
  have:SS.size=1:=rfl
  have:ST.size=1:=rfl
  have:SU.size=1:=rfl
  have:=ayU D5 JU SS ST SU
  have:=bC D5
  have:=bC JU
  have:=bC SS
  have:=bC ST
  have:=bC SU
  refine Ok.lt fun d89 h48=>Ok.lt fun y91 h49=>?_
  have:=congrArg wt h49
  simp only [bC] at this
  have:y91.size≤1:=by rw [h49];exact cJ _ (by decide) (by decide)
  have:=fK (p0-1)
  refine xK (p1 d89 p6 (bB (p0-1)) bS bS) fun x94 x95 h50=>?_
  dsimp only at h50
  refine xK (p1 x95 p6 (bB (p0-1)) bS bS) fun x97 x98 h51=>?_
  dsimp only at h51
  have:=mE x94 x97
  exact oB (qE 10 y91 ([x94,x97]:Z aM) bS) fun x100 h52=>oS
 refine oD (fun g53=>?_) fun g53=>?_
 ·have:=fK (p0-1)
  refine xK (p1 d1 p6 (bB (p0-1)) bS bS) fun x103 x104 h54=>?_
  dsimp only at h54
  have:bH.size=4:=rfl
  have:s_.size=0:=rfl
  have:=b9
  have:=aA.wm 0 s_ []
  have:=cO x103
  have:=fI
  have:=aM.wm 11 bH s_ 0 (aA.mk 0 s_ []) ([x103]:Z aM) []
  exact oS
 refine oD (fun g55=>?_) fun g55=>?_
 ·have:hH.size=1:=rfl
  have:=cO hH
  have:=bC hH
  refine xK (sV d1 ([hH]:LB) 1 bS) fun x107 x108 h56=>?_
  dsimp only at h56
  have:=fK (p0-1)
  refine xK (p1 x108 p6 (bB (p0-1)) bS bS) fun x110 x111 h57=>?_
  dsimp only at h57
  have:s_.size=0:=rfl
  have:=cO x110
  have:=fI
  have:=aM.wm 12 s_ s_ 0 x107 ([x110]:Z aM) []
  exact oS
 refine Ok.lt fun d112 h58=>?_
 have:=DS.below_lt d1 (n:=20) (by decide)
 have:=fK ((d1.below 20:Int)-5)
 exact VT (f9 (bB ((d1.below 20:Int)-5)) bS) fun x115 h59 h59B=>oS
theorem anM(n:Nat):eK fun fu=>OD n (nG fu):=by
 induction n with
 |zero=>exact .all fun fu=>fun _ _ _ h=>absurd h (Nat.not_lt_zero _)
 |succ n ih=>exact bY ((ih.and (((((bP 2147483648).and gH).and f9).and qE).and sV)).imp fun fu ⟨h,⟨⟨⟨⟨hfu,gH⟩,f9⟩,qE⟩,sV⟩⟩=>fun pF p6 p0=>by rw [nG];exact aj7 hfu gH f9 qE sV h pF p6 p0)
theorem yD:eK al0:=(anM 100).imp fun fu h pF p6 p0 hpre=>h pF p6 p0 bS hpre
def asX(fu:Nat):Prop:=Ok (G9 fu) (fun r=>wt r≤3)
theorem uJ:eK asX:=((bP 2147483648).and eE).imp fun fu ⟨hfu,eE⟩=>by
 have:fE.size=3:=rfl
 have:=b9
 exact oB (eE fE ([]:Z aA) bS) fun x2 h1=>oS
def al7(fu:Nat):Prop:= ∀(pF:DS),Ok (DU fu pF) (fun r=>wt r.1≤1000000)
theorem O5:eK al7:=((((((((bP 2147483648).and f9).and uJ).and fV).and eE).and sV).and l9).and yD).imp fun fu ⟨⟨⟨⟨⟨⟨⟨hfu,f9⟩,uJ⟩,fV⟩,eE⟩,sV⟩,l9⟩,yD⟩ pF=>by
 have:=afK
 have:=amH
 have:=aw1
 have:bH.size=4:=rfl
 have:lU.size=2:=rfl
 have:eV.size=3:=rfl
 have:=JN bH lU eV
 have:=bC bH
 have:=bC lU
 have:=bC eV
 refine Ok.lt fun d1 h1=>Ok.lt fun y3 h2=>?_
 have:=congrArg wt h2
 simp only [bC] at this
 have:y3.size≤4:=by rw [h2];exact cJ _ (by decide) (by decide)
 refine Ok.lt fun d5 h3=>?_
 have:=DS.below_lt d1 (n:=9) (by decide)
 refine VT (f9 (d1.below 9:Int) bS) fun x8 h4 h4B=>?_;refine g0 (E:=fun(v9,v10,v11,v12,v13,v14)=>wl v9≤10∧v11.size+wl v12≤100∧wl v13≤100) ?_ ?_
 ·refine Ok.lt fun d15 h6=>?_;refine oC (fun g7=>?_) fun g7=>?_
  ·refine oB (uJ) fun x19 h8=>?_
   have:=aA.we x19
   have:=dJ
   have:=BZ
   exact oI
  refine oC (fun g9=>?_) fun g9=>?_
  ·have:hH.size=1:=rfl
   refine oB (fV hH) fun x22 h10=>?_
   have:cV.size=4:=rfl
   have:=cO x22
   refine oB (eE cV ([x22]:Z aA) bS) fun x24 h11=>?_
   have:=cO hH
   have:=bC hH
   have:=aA.we x24
   have:=aD.wm y3 x22
   have:=cO (aD.mk y3 x22)
   exact oI
  refine oC (fun g12=>?_) fun g12=>?_
  ·have:hH.size=1:=rfl
   refine oB (fV hH) fun x27 h13=>?_
   have:ES.size=1:=rfl
   refine oB (fV ES) fun x29 h14=>?_
   have:vJ.size=4:=rfl
   have:=mE x27 x29
   refine oB (eE vJ ([x27,x29]:Z aA) bS) fun x31 h15=>?_
   have:=mE hH ES
   have:=bC hH
   have:=bC ES
   have:=aA.we x31
   have:=BZ
   exact oI
  have:hH.size=1:=rfl
  refine oB (fV hH) fun x33 h16=>?_
  have:=cO hH
  have:=bC hH
  have:=aA.we x33
  have:fD.size=3:=rfl
  have:=aD.wm fD x33
  have:=cO (aD.mk fD x33)
  exact oI
 rintro⟨v9,v10,v11,v12,v13,v14⟩ h5
 dsimp only at h5
 refine g0 (E:=fun(v38,v35,v36,v37,v34)=>wl v38+v37.size≤5000) ?_ ?_
 ·refine Ok.lt fun d39 h18=>?_;refine oC (fun g19=>?_) fun g19=>?_
  ·refine xK (sV d39 v9 1 bS) fun x43 x44 h20=>?_
   dsimp only at h20
   have:=aA.we x43
   exact oI
  have:s_.size=0:=rfl
  have:=b9
  exact oI
 rintro⟨v38,v35,v36,v37,v34⟩ h17
 dsimp only at h17
 refine Ok.lt fun d45 h21=>Ok.lt fun d47 h22=>?_;refine oC (fun g23=>?_) fun g23=>?_
 ·refine xK (l9 d47 2 bS) fun x51 x52 h24=>?_
  dsimp only at h24
  have:=DS.below_lt v34 (n:=4) (by decide)
  have:=aA.wm v36 v37 v38
  have:fP.size=1:=rfl
  have:fJ.size=1:=rfl
  have:=cO fJ
  have:=bC fJ
  have:=aT.wm fP ([fJ]:LB) x8
  have:=cO (aT.mk fP ([fJ]:LB) x8)
  have:=aL.wm y3 v9 x51 v13 (decide (v34.below 4=0)) v35 (aA.mk v36 v37 v38) ([(aT.mk fP ([fJ]:LB) x8)]:Z aT)
  exact oS
 refine oC (fun g25=>?_) fun g25=>?_
 ·have:hH.size=1:=rfl
  have:s_c.size=1:=rfl
  have:=mE hH s_c
  have:=bC hH
  have:=bC s_c
  refine Ok.lt fun d54 h26=>Ok.lt fun y56 h27=>?_
  have:=congrArg wt h27
  simp only [bC] at this
  have:y56.size≤1:=by rw [h27];exact cJ _ (by decide) (by decide)
  have:=bE (v9)
  have:=cO y56
  have:=bC y56
  refine oG fun z28=>?_
  have:=cE v9 ([y56]:LB)
  have:=aA.wm v10 v11 v12
  have:=DS.below_lt v34 (n:=4) (by decide)
  have:=aA.wm v36 v37 v38
  have:fP.size=1:=rfl
  have:fJ.size=1:=rfl
  have:=cO fJ
  have:=bC fJ
  have:=aT.wm fP ([fJ]:LB) x8
  have:=cO (aT.mk fP ([fJ]:LB) x8)
  have:=aL.wm y3 (v9++([y56]:LB)) (aA.mk v10 v11 v12) v13 (decide (v34.below 4=0)) v35 (aA.mk v36 v37 v38) ([(aT.mk fP ([fJ]:LB) x8)]:Z aT)
  exact oS
 refine oC (fun g29=>?_) fun g29=>?_
 ·refine xK (l9 d47 1 bS) fun x61 x62 h30=>?_
  dsimp only at h30
  have:=bE (v13)
  have:=aD.wm lU x61
  have:=cO (aD.mk lU x61)
  refine oG fun z31=>?_
  have:=aA.wm v10 v11 v12
  have:=cE v13 ([(aD.mk lU x61)]:Z aD)
  have:=DS.below_lt v34 (n:=4) (by decide)
  have:=aA.wm v36 v37 v38
  have:fP.size=1:=rfl
  have:fJ.size=1:=rfl
  have:=cO fJ
  have:=bC fJ
  have:=aT.wm fP ([fJ]:LB) x8
  have:=cO (aT.mk fP ([fJ]:LB) x8)
  have:=aL.wm y3 v9 (aA.mk v10 v11 v12) (v13++([(aD.mk lU x61)]:Z aD)) (decide (v34.below 4=0)) v35 (aA.mk v36 v37 v38) ([(aT.mk fP ([fJ]:LB) x8)]:Z aT)
  exact oS
 refine oC (fun g32=>?_) fun g32=>?_
 ·have:fJ.size=1:=rfl
  have:t2.size=1:=rfl
  have:=mE fJ t2
  have:=bC fJ
  have:=bC t2
  refine xK (yD d47 ([fJ,t2]:LB) 2 bS) fun x66 x67 h33=>?_
  dsimp only at h33
  have:=aA.wm v10 v11 v12
  have:=DS.below_lt v34 (n:=4) (by decide)
  have:=aA.wm v36 v37 v38
  have:fP.size=1:=rfl
  have:=cO fJ
  have:=aT.wm fP ([fJ]:LB) x66
  have:=cO (aT.mk fP ([fJ]:LB) x66)
  have:=aL.wm y3 v9 (aA.mk v10 v11 v12) v13 (decide (v34.below 4=0)) v35 (aA.mk v36 v37 v38) ([(aT.mk fP ([fJ]:LB) x66)]:Z aT)
  exact oS
 refine oC (fun g34=>?_) fun g34=>?_
 ·refine oB (uJ) fun x70 h35=>?_
  have:=aA.wm v10 v11 v12
  have:=DS.below_lt v34 (n:=4) (by decide)
  have:fP.size=1:=rfl
  have:fJ.size=1:=rfl
  have:=cO fJ
  have:=bC fJ
  have:=aT.wm fP ([fJ]:LB) x8
  have:=cO (aT.mk fP ([fJ]:LB) x8)
  have:=aL.wm y3 v9 (aA.mk v10 v11 v12) v13 (decide (v34.below 4=0)) v35 x70 ([(aT.mk fP ([fJ]:LB) x8)]:Z aT)
  exact oS
 refine oC (fun g36=>?_) fun g36=>?_
 ·have:=aA.wm v10 v11 v12
  have:=DS.below_lt v34 (n:=4) (by decide)
  have:=aA.wm v36 v37 v38
  have:fP.size=1:=rfl
  have:=dJ
  have:=aT.wm fP ([]) x8
  have:=cO (aT.mk fP ([]) x8)
  have:=aL.wm y3 v9 (aA.mk v10 v11 v12) v13 (decide (v34.below 4=0)) v35 (aA.mk v36 v37 v38) ([(aT.mk fP ([]) x8)]:Z aT)
  exact oS
 have:=aA.wm v10 v11 v12
 have:=DS.below_lt v34 (n:=4) (by decide)
 have:=aA.wm v36 v37 v38
 have:fP.size=1:=rfl
 have:fJ.size=1:=rfl
 have:=cO fJ
 have:=bC fJ
 have:=aT.wm fP ([fJ]:LB) x8
 have:=cO (aT.mk fP ([fJ]:LB) x8)
 have:=aL.wm y3 v9 (aA.mk v10 v11 v12) v13 (decide (v34.below 4=0)) v35 (aA.mk v36 v37 v38) ([(aT.mk fP ([fJ]:LB) x8)]:Z aT)
 exact oS
def asU(fu:Nat):Prop:= ∀(pc:DS),Ok (aa0 fu pc) (fun r=>wt r.1≤2000000)
theorem ZT:eK asU:=((((((bP 2147483648).and fV).and uJ).and gH).and l9).and yD).imp fun fu ⟨⟨⟨⟨⟨hfu,fV⟩,uJ⟩,gH⟩,l9⟩,yD⟩ pc=>by
 have:=afK
 have:=amH
 have:=awC 3 (by decide)
 have:s_f.size=1:=rfl
 have:s_g.size=1:=rfl
 have:=mE s_f s_g
 have:=bC s_f
 have:=bC s_g
 refine Ok.lt fun d1 h1=>Ok.lt fun y3 h2=>?_
 have:=congrArg wt h2
 simp only [bC] at this
 have:y3.size≤1:=by rw [h2];exact cJ _ (by decide) (by decide)
 have:hH.size=1:=rfl
 refine oB (fV hH) fun x6 h3=>oB (uJ) fun x8 h4=>?_
 have:fJ.size=1:=rfl
 refine VT (gH fJ) fun x10 h5 h5B=>Ok.lt fun d11 h6=>?_;refine oC (fun g7=>?_) fun g7=>?_
 ·refine xK (l9 d11 2 bS) fun x15 x16 h8=>?_
  dsimp only at h8
  have:=cO hH
  have:=bC hH
  have:bH.size=4:=rfl
  have:=aD.wm bH x6
  have:=cO (aD.mk bH x6)
  have:=aY.wm fJ x6
  have:=cO (aY.mk fJ x6)
  have:fP.size=1:=rfl
  have:s_.size=0:=rfl
  have:=b9
  have:=aA.wm 0 s_ []
  have:=cO x10
  have:=fI
  have:=aM.wm 5 bH fP 0 (aA.mk 0 s_ []) ([x10]:Z aM) []
  have:=aQ.wm y3 ([hH]:LB) ([(aD.mk bH x6)]:Z aD) ([(aY.mk fJ x6)]:Z aY) x15 (aM.mk 5 bH fP 0 (aA.mk 0 s_ []) ([x10]:Z aM) [])
  exact oS
 refine oC (fun g9=>?_) fun g9=>?_
 ·have:t2.size=1:=rfl
  have:=mE fJ t2
  have:=bC fJ
  have:=bC t2
  refine Ok.lt fun d18 h10=>Ok.lt fun y20 h11=>?_
  have:=congrArg wt h11
  simp only [bC] at this
  have:y20.size≤1:=by rw [h11];exact cJ _ (by decide) (by decide)
  have:=aY.wm fJ x6
  have:=cO (aY.mk fJ x6)
  have:=aY.wm y20 x8
  have:=cO (aY.mk y20 x8)
  refine oG fun z12=>?_
  have:=cO hH
  have:=bC hH
  have:bH.size=4:=rfl
  have:=aD.wm bH x6
  have:=cO (aD.mk bH x6)
  have:=cE ([(aY.mk fJ x6)]:Z aY) ([(aY.mk y20 x8)]:Z aY)
  have:fP.size=1:=rfl
  have:s_.size=0:=rfl
  have:=b9
  have:=aA.wm 0 s_ []
  have:=cO x10
  have:=fI
  have:=aM.wm 5 bH fP 0 (aA.mk 0 s_ []) ([x10]:Z aM) []
  have:=aQ.wm y3 ([hH]:LB) ([(aD.mk bH x6)]:Z aD) (([(aY.mk fJ x6)]:Z aY)++([(aY.mk y20 x8)]:Z aY)) x8 (aM.mk 5 bH fP 0 (aA.mk 0 s_ []) ([x10]:Z aM) [])
  exact oS
 refine oC (fun g13=>?_) fun g13=>?_
 ·have:t2.size=1:=rfl
  have:=mE fJ t2
  have:=bC fJ
  have:=bC t2
  refine xK (yD d11 ([fJ,t2]:LB) 3 bS) fun x25 x26 h14=>?_
  dsimp only at h14
  have:=cO hH
  have:=bC hH
  have:bH.size=4:=rfl
  have:=aD.wm bH x6
  have:=cO (aD.mk bH x6)
  have:=aY.wm fJ x6
  have:=cO (aY.mk fJ x6)
  have:=aQ.wm y3 ([hH]:LB) ([(aD.mk bH x6)]:Z aD) ([(aY.mk fJ x6)]:Z aY) x8 x25
  exact oS
 refine oC (fun g15=>?_) fun g15=>?_
 ·refine xK (l9 d11 1 bS) fun x29 x30 h16=>?_
  dsimp only at h16
  have:=cO hH
  have:=bC hH
  have:bH.size=4:=rfl
  have:=aD.wm bH x29
  have:=cO (aD.mk bH x29)
  have:=aY.wm fJ x6
  have:=cO (aY.mk fJ x6)
  have:fP.size=1:=rfl
  have:s_.size=0:=rfl
  have:=b9
  have:=aA.wm 0 s_ []
  have:=cO x10
  have:=fI
  have:=aM.wm 5 bH fP 0 (aA.mk 0 s_ []) ([x10]:Z aM) []
  have:=aQ.wm y3 ([hH]:LB) ([(aD.mk bH x29)]:Z aD) ([(aY.mk fJ x6)]:Z aY) x8 (aM.mk 5 bH fP 0 (aA.mk 0 s_ []) ([x10]:Z aM) [])
  exact oS
 refine oC (fun g17=>?_) fun g17=>?_
 ·have:s_.size=0:=rfl
  have:IQ.size=2:=rfl
  have:=mE s_ IQ
  have:=bC s_
  have:=bC IQ
  refine Ok.lt fun d32 h18=>Ok.lt fun y34 h19=>?_
  have:=congrArg wt h19
  simp only [bC] at this
  have:y34.size≤2:=by rw [h19];exact cJ _ (by decide) (by decide)
  have:=cO hH
  have:=bC hH
  have:bH.size=4:=rfl
  have:=aD.wm bH x6
  have:=cO (aD.mk bH x6)
  have:=aY.wm fJ x6
  have:=cO (aY.mk fJ x6)
  have:fP.size=1:=rfl
  have:=b9
  have:=aA.wm 0 s_ []
  have:=cO x10
  have:=fI
  have:=aM.wm 5 bH fP 0 (aA.mk 0 s_ []) ([x10]:Z aM) []
  have:=aQ.wm y34 ([hH]:LB) ([(aD.mk bH x6)]:Z aD) ([(aY.mk fJ x6)]:Z aY) x8 (aM.mk 5 bH fP 0 (aA.mk 0 s_ []) ([x10]:Z aM) [])
  exact oS
 have:=cO hH
 have:=bC hH
 have:bH.size=4:=rfl
 have:=aD.wm bH x6
 have:=cO (aD.mk bH x6)
 have:=aY.wm fJ x6
 have:=cO (aY.mk fJ x6)
 have:fP.size=1:=rfl
 have:s_.size=0:=rfl
 have:=b9
 have:=aA.wm 0 s_ []
 have:=cO x10
 have:=fI
 have:=aM.wm 5 bH fP 0 (aA.mk 0 s_ []) ([x10]:Z aM) []
 have:=aQ.wm y3 ([hH]:LB) ([(aD.mk bH x6)]:Z aD) ([(aY.mk fJ x6)]:Z aY) x8 (aM.mk 5 bH fP 0 (aA.mk 0 s_ []) ([x10]:Z aM) [])
 exact oS
def aiA(fu:Nat):Prop:= ∀(pF:DS),Ok (K8 fu pF) (fun r=>wt r.1≤10000)
theorem KL:eK aiA:=((((((bP 2147483648).and fV).and uJ).and gH).and f9).and qE).imp fun fu ⟨⟨⟨⟨⟨hfu,fV⟩,uJ⟩,gH⟩,f9⟩,qE⟩ pF=>by
 have:lI.size=4:=rfl
 refine oB (fV lI) fun x2 h1=>?_
 have:bH.size=4:=rfl
 have:lU.size=2:=rfl
 have:eV.size=3:=rfl
 have:=JN bH lU eV
 have:=bC bH
 have:=bC lU
 have:=bC eV
 refine Ok.lt fun d3 h2=>Ok.lt fun y5 h3=>?_
 have:=congrArg wt h3
 simp only [bC] at this
 have:y5.size≤4:=by rw [h3];exact cJ _ (by decide) (by decide)
 refine Ok.lt fun d7 h4=>oB (uJ) fun x10 h5=>?_;refine oC (fun g6=>?_) fun g6=>?_
 ·refine oC (fun g7=>?_) fun g7=>?_
  ·refine Ok.lt fun d13 h8=>?_
   have:fJ.size=1:=rfl
   refine VT (gH fJ) fun x17 h9 h9B=>VT (f9 1 bS) fun x19 h10 h10B=>?_
   have:D5.size=1:=rfl
   have:fP.size=1:=rfl
   have:s_.size=0:=rfl
   have:=b9
   have:=aA.wm 0 s_ []
   have:=cO x17
   have:=fI
   have:=aM.wm 5 y5 fP 0 (aA.mk 0 s_ []) ([x17]:Z aM) []
   have:=mE (aM.mk 5 y5 fP 0 (aA.mk 0 s_ []) ([x17]:Z aM) []) x19
   refine oB (qE 10 D5 ([(aM.mk 5 y5 fP 0 (aA.mk 0 s_ []) ([x17]:Z aM) []),x19]:Z aM) bS) fun x21 h11=>?_
   have:=nJ
   have:=aM.wm 0 s_ s_ 0 (aA.mk 0 s_ []) [] []
   have:=dJ
   have:=aG.wm fP [] x10 false [] (aM.mk 0 s_ s_ 0 (aA.mk 0 s_ []) [] [])
   have:=cO (aG.mk fP [] x10 false [] (aM.mk 0 s_ s_ 0 (aA.mk 0 s_ []) [] []))
   have:gG.size=5:=rfl
   have:=cO x2
   have:t2.size=1:=rfl
   have:=mE fJ t2
   have:=bC fJ
   have:=bC t2
   have:=aG.wm gG ([x2]:Z aA) x10 true ([fJ,t2]:LB) x21
   have:=cO (aG.mk gG ([x2]:Z aA) x10 true ([fJ,t2]:LB) x21)
   refine oG fun z12=>?_;refine g0 (E:=fun v23=>wl v23≤10) ?_ ?_
   ·refine Ok.lt fun d24 h14=>?_;refine oC (fun g15=>?_) fun g15=>?_
    ·have:fD.size=3:=rfl
     have:=cO fD
     have:=bC fD
     exact oI
    exact oI
   intro v23 h13
   refine Ok.lt fun d28 h16=>?_;refine oC (fun g17=>?_) fun g17=>?_
   ·have:ES.size=1:=rfl
    have:=mE lI ES
    have:=bC lI
    have:=bC ES
    refine Ok.lt fun d31 h18=>Ok.lt fun y33 h19=>?_
    have:=congrArg wt h19
    simp only [bC] at this
    have:y33.size≤4:=by rw [h19];exact cJ _ (by decide) (by decide)
    refine oB (fV y33) fun x36 h20=>?_
    have:=DS.below_lt d3 (n:=3) (by decide)
    have:=aA.wm 0 s_ ([])
    have:=aM.wm 0 s_ s_ 0 (aA.mk 0 s_ ([])) ([]) ([])
    have:=aG.wm fP ([]) x36 false ([]) (aM.mk 0 s_ s_ 0 (aA.mk 0 s_ ([])) ([]) ([]))
    have:=mE (aG.mk fP ([]) x36 false ([]) (aM.mk 0 s_ s_ 0 (aA.mk 0 s_ ([])) ([]) ([]))) (aG.mk gG ([x2]:Z aA) x10 true ([fJ,t2]:LB) x21)
    have:=aZ.wm y5 v23 false (decide (d3.below 3=0)) ([(aG.mk fP ([]) x36 false ([]) (aM.mk 0 s_ s_ 0 (aA.mk 0 s_ ([])) ([]) ([]))),(aG.mk gG ([x2]:Z aA) x10 true ([fJ,t2]:LB) x21)]:Z aG)
    exact oS
   have:=DS.below_lt d3 (n:=3) (by decide)
   have:=aA.wm 0 s_ ([])
   have:=aM.wm 0 s_ s_ 0 (aA.mk 0 s_ ([])) ([]) ([])
   have:=aG.wm fP ([]) x10 true ([]) (aM.mk 0 s_ s_ 0 (aA.mk 0 s_ ([])) ([]) ([]))
   have:=mE (aG.mk fP ([]) x10 true ([]) (aM.mk 0 s_ s_ 0 (aA.mk 0 s_ ([])) ([]) ([]))) (aG.mk gG ([x2]:Z aA) x10 true ([fJ,t2]:LB) x21)
   have:=aZ.wm y5 v23 false (decide (d3.below 3=0)) ([(aG.mk fP ([]) x10 true ([]) (aM.mk 0 s_ s_ 0 (aA.mk 0 s_ ([])) ([]) ([]))),(aG.mk gG ([x2]:Z aA) x10 true ([fJ,t2]:LB) x21)]:Z aG)
   exact oS
  refine Ok.lt fun d37 h21=>?_;refine g0 (E:=fun v40=>wl v40≤10) ?_ ?_
  ·refine Ok.lt fun d41 h23=>?_;refine oC (fun g24=>?_) fun g24=>?_
   ·have:fD.size=3:=rfl
    have:=cO fD
    have:=bC fD
    exact oI
   have:=dJ
   exact oI
  intro v40 h22
  refine Ok.lt fun d45 h25=>?_;refine oC (fun g26=>?_) fun g26=>?_
  ·have:ES.size=1:=rfl
   have:=mE lI ES
   have:=bC lI
   have:=bC ES
   refine Ok.lt fun d48 h27=>Ok.lt fun y50 h28=>?_
   have:=congrArg wt h28
   simp only [bC] at this
   have:y50.size≤4:=by rw [h28];exact cJ _ (by decide) (by decide)
   refine oB (fV y50) fun x53 h29=>?_
   have:=DS.below_lt d3 (n:=3) (by decide)
   have:fP.size=1:=rfl
   have:s_.size=0:=rfl
   have:=b9
   have:=aA.wm 0 s_ []
   have:=nJ
   have:=fI
   have:=aM.wm 0 s_ s_ 0 (aA.mk 0 s_ []) [] []
   have:=dJ
   have:=aG.wm fP [] x53 false [] (aM.mk 0 s_ s_ 0 (aA.mk 0 s_ []) [] [])
   have:=cO (aG.mk fP [] x53 false [] (aM.mk 0 s_ s_ 0 (aA.mk 0 s_ []) [] []))
   have:=aZ.wm y5 v40 false (decide (d3.below 3=0)) ([(aG.mk fP [] x53 false [] (aM.mk 0 s_ s_ 0 (aA.mk 0 s_ []) [] []))]:Z aG)
   exact oS
  have:=DS.below_lt d3 (n:=3) (by decide)
  have:fP.size=1:=rfl
  have:s_.size=0:=rfl
  have:=b9
  have:=aA.wm 0 s_ []
  have:=nJ
  have:=fI
  have:=aM.wm 0 s_ s_ 0 (aA.mk 0 s_ []) [] []
  have:=dJ
  have:=aG.wm fP [] x10 true [] (aM.mk 0 s_ s_ 0 (aA.mk 0 s_ []) [] [])
  have:=cO (aG.mk fP [] x10 true [] (aM.mk 0 s_ s_ 0 (aA.mk 0 s_ []) [] []))
  have:=aZ.wm y5 v40 false (decide (d3.below 3=0)) ([(aG.mk fP [] x10 true [] (aM.mk 0 s_ s_ 0 (aA.mk 0 s_ []) [] []))]:Z aG)
  exact oS
 refine g0 (E:=fun v55=>wl v55≤1000∧0<v55.length) ?_ ?_
 ·refine Ok.lt fun d56 h31=>?_;refine oC (fun g32=>?_) fun g32=>?_
  ·have:fJ.size=1:=rfl
   refine VT (gH fJ) fun x61 h33 h33B=>VT (f9 1 bS) fun x63 h34 h34B=>?_
   have:D5.size=1:=rfl
   have:fP.size=1:=rfl
   have:s_.size=0:=rfl
   have:=b9
   have:=aA.wm 0 s_ []
   have:=cO x61
   have:=fI
   have:=aM.wm 5 y5 fP 0 (aA.mk 0 s_ []) ([x61]:Z aM) []
   have:=mE (aM.mk 5 y5 fP 0 (aA.mk 0 s_ []) ([x61]:Z aM) []) x63
   refine oB (qE 10 D5 ([(aM.mk 5 y5 fP 0 (aA.mk 0 s_ []) ([x61]:Z aM) []),x63]:Z aM) bS) fun x65 h35=>?_
   have:=nJ
   have:=aM.wm 0 s_ s_ 0 (aA.mk 0 s_ []) [] []
   have:=dJ
   have:=aG.wm fP [] x10 false [] (aM.mk 0 s_ s_ 0 (aA.mk 0 s_ []) [] [])
   have:=cO (aG.mk fP [] x10 false [] (aM.mk 0 s_ s_ 0 (aA.mk 0 s_ []) [] []))
   have:gG.size=5:=rfl
   have:=cO x2
   have:t2.size=1:=rfl
   have:=mE fJ t2
   have:=bC fJ
   have:=bC t2
   have:=aG.wm gG ([x2]:Z aA) x10 true ([fJ,t2]:LB) x65
   have:=cO (aG.mk gG ([x2]:Z aA) x10 true ([fJ,t2]:LB) x65)
   refine oG fun z36=>?_
   have:=cE ([(aG.mk fP [] x10 false [] (aM.mk 0 s_ s_ 0 (aA.mk 0 s_ []) [] []))]:Z aG) ([(aG.mk gG ([x2]:Z aA) x10 true ([fJ,t2]:LB) x65)]:Z aG)
   exact oI
  have:fP.size=1:=rfl
  have:s_.size=0:=rfl
  have:=b9
  have:=aA.wm 0 s_ []
  have:=nJ
  have:=fI
  have:=aM.wm 0 s_ s_ 0 (aA.mk 0 s_ []) [] []
  have:=dJ
  have:=aG.wm fP [] x10 false [] (aM.mk 0 s_ s_ 0 (aA.mk 0 s_ []) [] [])
  have:=cO (aG.mk fP [] x10 false [] (aM.mk 0 s_ s_ 0 (aA.mk 0 s_ []) [] []))
  exact oI
 intro v55 h30
 refine g0 (E:=fun v67=>wl v67≤10) ?_ ?_
 ·refine Ok.lt fun d68 h38=>?_;refine oC (fun g39=>?_) fun g39=>?_
  ·have:fD.size=3:=rfl
   have:=cO fD
   have:=bC fD
   exact oI
  have:=dJ
  exact oI
 intro v67 h37
 refine Ok.lt fun d72 h40=>?_;refine oC (fun g41=>?_) fun g41=>?_
 ·have:=DS.below_lt d3 (n:=3) (by decide)
  have:=aZ.wm y5 v67 true (decide (d3.below 3=0)) v55
  exact oS
 refine oC (fun g42=>?_) fun g42=>?_
 ·have:s_.size=0:=rfl
  have:fE.size=3:=rfl
  have:s_A.size=1:=rfl
  have:=JN s_ fE s_A
  have:=bC s_
  have:=bC fE
  have:=bC s_A
  refine Ok.lt fun d76 h43=>Ok.lt fun y78 h44=>?_
  have:=congrArg wt h44
  simp only [bC] at this
  have:y78.size≤3:=by rw [h44];exact cJ _ (by decide) (by decide)
  have:=DS.below_lt d3 (n:=3) (by decide)
  have:=aZ.wm y78 v67 false (decide (d3.below 3=0)) v55
  exact oS
 refine oC (fun g45=>?_) fun g45=>?_
 ·have:=bE (v67)
  have:fD.size=3:=rfl
  have:=cO fD
  have:=bC fD
  refine oG fun z46=>?_
  have:=cE v67 ([fD]:LB)
  have:=DS.below_lt d3 (n:=3) (by decide)
  have:=aZ.wm y5 (v67++([fD]:LB)) false (decide (d3.below 3=0)) v55
  exact oS
 refine oC (fun g47=>?_) fun g47=>?_
 ·have:=bE (v55)
  refine oG fun z48=>?_
  have:=c8 v55 0 z48
  have:wl (List.take 1 v55)=wl (List.take 0 v55)+wt (aR v55 0)+1:=N8 v55 0 z48
  refine Ok.lt fun y84 h49=>?_
  have:=congrArg wt h49
  have:=cO y84
  refine oG fun z50=>?_
  have:=DS.below_lt d3 (n:=3) (by decide)
  have:=cE v55 ([y84]:Z aG)
  have:=aZ.wm y5 v67 false (decide (d3.below 3=0)) (v55++([y84]:Z aG))
  exact oS
 have:=DS.below_lt d3 (n:=3) (by decide)
 have:=aZ.wm y5 v67 false (decide (d3.below 3=0)) v55
 exact oS
def al6(fu:Nat):Prop:= ∀(pc:DS),Ok (DT fu pc) (fun r=>wt r.1≤10000)
theorem O4:eK al6:=((((bP 2147483648).and fV).and eE).and l9).imp fun fu ⟨⟨⟨hfu,fV⟩,eE⟩,l9⟩ pc=>by
 have:=afK
 have:=amH
 have:hH.size=1:=rfl
 refine oB (fV hH) fun x2 h1=>?_
 have:cV.size=4:=rfl
 have:=cO x2
 refine oB (eE cV ([x2]:Z aA) bS) fun x4 h2=>Ok.lt fun d5 h3=>?_;refine oC (fun g4=>?_) fun g4=>?_
 ·have:ES.size=1:=rfl
  have:=mE hH ES
  have:=bC hH
  have:=bC ES
  refine Ok.lt fun d8 h5=>Ok.lt fun y10 h6=>?_
  have:=congrArg wt h6
  simp only [bC] at this
  have:y10.size≤1:=by rw [h6];exact cJ _ (by decide) (by decide)
  have:=cO hH
  have:=cO y10
  have:=bC y10
  refine oG fun z7=>?_
  have:=cE ([hH]:LB) ([y10]:LB)
  have:gW.size=3:=rfl
  have:=b9
  have:=aE.wm gW []
  have:cU.size=4:=rfl
  have:=mE x2 x4
  have:=aE.wm cU ([x2,x4]:Z aA)
  have:=mE (aE.mk gW []) (aE.mk cU ([x2,x4]:Z aA))
  have:=aO.wm cV (([hH]:LB)++([y10]:LB)) ([(aE.mk gW []),(aE.mk cU ([x2,x4]:Z aA))]:Z aE)
  exact oS
 refine oC (fun g8=>?_) fun g8=>?_
 ·refine Ok.lt fun d14 h9=>?_
  have:=DS.below_lt d5 (n:=2) (by decide)
  have:gW.size=3:=rfl
  have:=b9
  have:=aE.wm gW []
  have:cU.size=4:=rfl
  have:=mE x2 x4
  have:=aE.wm cU ([x2,x4]:Z aA)
  have:=mE (aE.mk gW []) (aE.mk cU ([x2,x4]:Z aA))
  refine oG fun z10=>?_
  have:=cO hH
  have:=bC hH
  have:=XZ (0:Int).toNat (d5.below 2:Int).toNat ([(aE.mk gW []),(aE.mk cU ([x2,x4]:Z aA))]:Z aE)
  have:=aO.wm cV ([hH]:LB) (List.drop (0:Int).toNat (List.take (d5.below 2:Int).toNat ([(aE.mk gW []),(aE.mk cU ([x2,x4]:Z aA))]:Z aE)))
  exact oS
 refine oC (fun g11=>?_) fun g11=>?_
 ·refine xK (l9 d5 2 bS) fun x19 x20 h12=>?_
  dsimp only at h12
  have:=cO hH
  have:=bC hH
  have:gW.size=3:=rfl
  have:=cO x19
  have:=aE.wm gW ([x19]:Z aA)
  have:cU.size=4:=rfl
  have:=mE x2 x4
  have:=aE.wm cU ([x2,x4]:Z aA)
  have:=mE (aE.mk gW ([x19]:Z aA)) (aE.mk cU ([x2,x4]:Z aA))
  have:=aO.wm cV ([hH]:LB) ([(aE.mk gW ([x19]:Z aA)),(aE.mk cU ([x2,x4]:Z aA))]:Z aE)
  exact oS
 refine oC (fun g13=>?_) fun g13=>?_
 ·have:cU.size=4:=rfl
  have:s_.size=0:=rfl
  have:aaV.size=3:=rfl
  have:=JN cU s_ aaV
  have:=bC cU
  have:=bC s_
  have:=bC aaV
  refine Ok.lt fun d22 h14=>Ok.lt fun y24 h15=>?_
  have:=congrArg wt h15
  simp only [bC] at this
  have:y24.size≤4:=by rw [h15];exact cJ _ (by decide) (by decide)
  have:=cO hH
  have:=bC hH
  have:=b9
  have:=aE.wm y24 []
  have:=mE x2 x4
  have:=aE.wm cU ([x2,x4]:Z aA)
  have:=mE (aE.mk y24 []) (aE.mk cU ([x2,x4]:Z aA))
  have:=aO.wm cV ([hH]:LB) ([(aE.mk y24 []),(aE.mk cU ([x2,x4]:Z aA))]:Z aE)
  exact oS
 have:=cO hH
 have:=bC hH
 have:gW.size=3:=rfl
 have:=b9
 have:=aE.wm gW []
 have:cU.size=4:=rfl
 have:=mE x2 x4
 have:=aE.wm cU ([x2,x4]:Z aA)
 have:=mE (aE.mk gW []) (aE.mk cU ([x2,x4]:Z aA))
 have:=aO.wm cV ([hH]:LB) ([(aE.mk gW []),(aE.mk cU ([x2,x4]:Z aA))]:Z aE)
 exact oS
def ap7(fu:Nat):Prop:= ∀(pF:DS),Ok (G7 fu pF) (fun r=>wt r.1≤12000000)
theorem TX:eK ap7:=(((((bP 2147483648).and KL).and O4).and O5).and ZT).imp fun fu ⟨⟨⟨⟨hfu,KL⟩,O4⟩,O5⟩,ZT⟩ pF=>by
 refine Ok.lt fun d1 h1=>?_
 have:=DS.below_lt pF (n:=5) (by decide)
 have:=uK
 have:=zH
 have:=zJ
 have:=zI
 refine g0 (E:=fun(v9,v10,v11,v12,v4)=>wl v9+wl v10+wl v11+wl v12≤10000005) ?_ ?_
 ·refine J3 (fun i3 (v9,v10,v11,v12,v4)=>wl v9+wl v10+wl v11+wl v12≤2000001*i3∧i3≤5) (by exact bS) (by rintro i3 ⟨v9,v10,v11,v12,v4⟩-hI;(try dsimp only at hI ⊢);omega) ?_;rintro i3 ⟨v9,v10,v11,v12,v4⟩ hl3 hI4
  dsimp only at hI4
  refine Ok.lt fun d15 h5=>?_;refine oC (fun g6=>?_) fun g6=>?_
  ·refine xK (KL d15) fun x19 x20 h7=>?_
   dsimp only at h7
   have:=bE (v9)
   have:=cO x19
   refine oG fun z8=>?_
   have:=cE v9 ([x19]:Z aZ)
   exact sP
  refine oC (fun g9=>?_) fun g9=>?_
  ·refine xK (O4 d15) fun x24 x25 h10=>?_
   dsimp only at h10
   have:=bE (v10)
   have:=cO x24
   refine oG fun z11=>?_
   have:=cE v10 ([x24]:Z aO)
   exact sP
  refine oC (fun g12=>?_) fun g12=>?_
  ·refine xK (O5 d15) fun x29 x30 h13=>?_
   dsimp only at h13
   have:=bE (v11)
   have:=cO x29
   refine oG fun z14=>?_
   have:=cE v11 ([x29]:Z aL)
   exact sP
  refine xK (ZT d15) fun x33 x34 h15=>?_
  dsimp only at h15
  have:=bE (v12)
  have:=cO x33
  refine oG fun z16=>?_
  have:=cE v12 ([x33]:Z aQ)
  exact sP
 rintro⟨v9,v10,v11,v12,v4⟩ h2
 dsimp only at h2
 refine Ok.lt fun d36 h17=>?_;refine oC (fun g18=>?_) fun g18=>?_
 ·have:s_.size=0:=rfl
  have:iH.size=4:=rfl
  have:=mE s_ iH
  have:=bC s_
  have:=bC iH
  refine Ok.lt fun d39 h19=>Ok.lt fun y41 h20=>?_
  have:=congrArg wt h20
  simp only [bC] at this
  have:y41.size≤4:=by rw [h20];exact cJ _ (by decide) (by decide)
  have:=cO iH
  have:=aN.wm y41 ([iH]:LB) v9 v10 v11 v12
  exact oS
 refine oC (fun g21=>?_) fun g21=>?_
 ·have:iH.size=4:=rfl
  have:s_q.size=1:=rfl
  have:s_p.size=1:=rfl
  have:=JN iH s_q s_p
  have:=bC iH
  have:=bC s_q
  have:=bC s_p
  refine Ok.lt fun d44 h22=>Ok.lt fun y46 h23=>?_
  have:=congrArg wt h23
  simp only [bC] at this
  have:y46.size≤4:=by rw [h23];exact cJ _ (by decide) (by decide)
  have:=cO iH
  have:=cO y46
  have:=bC y46
  refine oG fun z24=>?_
  have:=cE ([iH]:LB) ([y46]:LB)
  have:=aN.wm s_p (([iH]:LB)++([y46]:LB)) v9 v10 v11 v12
  exact oS
 have:s_p.size=1:=rfl
 have:iH.size=4:=rfl
 have:=cO iH
 have:=bC iH
 have:=aN.wm s_p ([iH]:LB) v9 v10 v11 v12
 exact oS
def VK(fu:Nat):Prop:= ∀(pc:DS),Ok (AK fu pc) (fun r=>wt r.1≤13000000)
theorem ajD:eK VK:=(((bP 2147483648).and O9).and TX).imp fun fu ⟨⟨hfu,O9⟩,TX⟩ pc=>by
 refine xK (O9 pc) fun x2 x3 h1=>?_
 dsimp only at h1
 refine Ok.lt fun d4 h2=>?_;refine oC (fun g3=>?_) fun g3=>?_
 ·refine xK (TX d4) fun x8 x9 h4=>?_
  dsimp only at h4
  have:=aH.we x2
  have:=bE (x2.aFr)
  have:=cO x8
  refine oG fun z5=>?_
  have:=cE x2.aFr ([x8]:Z aN)
  have:=aH.wm (x2.aFr++([x8]:Z aN))
  exact oS
 have:=aH.we x2
 have:=aH.wm x2.aFr
 exact oS
end Go.Proofs.YtfcoaagbccmahaaGreat.W
