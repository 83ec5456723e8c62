/- Words, rules and walks of several kinds, laid together: OkA2, OkH, OkA3, OkA4, OkA5, OkA6, OkD, OkA7, WFnd, WRef, Fresh, MaTy2, TyEq0, WTy, MaMat, WMatch, Reg, WAll. No conditions but those that each theorem states. -/
import Derived.Test.YtpioomclpaiomaaGreatQhb69edcc7
import Derived.Test.YtpioomclpaiomaaGreatQh981ab51f
import Derived.Test.YtpioomclpaiomaaGreatQhc7ed0efd
import Derived.Test.YtpioomclpaiomaaGreatQh8fabc4e5
import Derived.Test.YtpioomclpaiomaaGreatQh54773eaf
import Derived.Deep.RegionHeld3
import Derived.Laws.IdiomStrings
set_option linter.unusedSimpArgs false
set_option linter.unusedVariables false
namespace Go.Proofs.YtpioomclpaiomaaGreat.W
set_option linter.unusedSimpArgs false
set_option linter.unusedVariables false
set_option maxRecDepth 20000
set_option maxHeartbeats 4000000
open Go.RowKit Go.WalkArith Go.IntWalk
def RJ(fu:Nat):Prop:= ∀(plist:List ByteArray) (ps:ByteArray),Ok (lV fu plist ps) (fun _=>True)
theorem eA:b5 RJ:=(b5.ge 2147483648).imp fun fu hfu plist ps=>by
 refine DL ?_ ?_
 ·refine Ok.loop1 ?_;rintro i1 ⟨⟩ hl2
  have:=aY plist
  exact oD (fun _=>oR) fun g4=>nX
 rintro⟨⟩-
 exact oS
def UL(fu:Nat):Prop:= ∀(ps:ByteArray),Ok (AI fu ps) (fun _=>True)
theorem AC:b5 UL:=((b5.ge 2147483648).and eA).imp fun fu ⟨hfu,eA⟩ ps=>by
 have:fK.size=3:=rfl
 have:fE.size=4:=rfl
 have:iY.size=5:=rfl
 have:wQ.size=3:=rfl
 have:CS.size=2:=rfl
 have:DE.size=3:=rfl
 have:wH.size=4:=rfl
 have:DF.size=3:=rfl
 have:oT.size=6:=rfl
 have:wI.size=4:=rfl
 have:pC.size=4:=rfl
 have:lY.size=5:=rfl
 have:wl ([fK,fE,iY,wQ,CS,DE,wH,DF,oT,wI,pC,lY]:List ByteArray)=58:=rfl
 exact oB (eA ([fK,fE,iY,wQ,CS,DE,wH,DF,oT,wI,pC,lY]:List ByteArray) ps) fun x2 _=>oS
def xO(fu:Nat):Prop:= ∀(ps:ByteArray),Ok (eB fu ps) (fun _=>True)
theorem bP:b5 xO:=(((b5.ge 2147483648).and qL).and AC).imp fun fu ⟨⟨hfu,qL⟩,AC⟩ ps=>by
 refine oB (qL (ps.size:Int) 1 8) fun x2 _=>oW (fun _=>oS) fun g2=>oB (AC ps) fun x5 _=>oC (fun _=>oS) fun g4=>?_;refine DL ?_ ?_
 ·refine Ok.loop1 ?_;rintro i7 ⟨⟩ hl6
  refine oG fun z8=>?_;refine oD (fun g9=>?_) fun g9=>?_
  ·refine oW (fun g10=>?_) fun g10=>?_
   ·exact oD (fun _=>oR) fun g11=>oD (fun _=>oR) fun g12=>oD (fun _=>oR) fun g13=>nX
   exact nX
  exact oD (fun _=>oR) fun g14=>oD (fun _=>oR) fun g15=>oD (fun _=>oR) fun g16=>nX
 rintro⟨⟩-
 exact oS
def RL(fu:Nat):Prop:= ∀(plist:List ByteArray),Ok (C1 fu plist) (fun _=>True)
theorem pY:b5 RL:=((b5.ge 2147483648).and bP).imp fun fu ⟨hfu,bP⟩ plist=>by
 refine DL ?_ ?_
 ·refine Ok.loop1 ?_;rintro i1 ⟨⟩ hl2
  have:=aY plist
  have:=cR plist i1 hl2
  have:=bA (bB plist i1)
  exact oB (bP (bB plist i1)) fun x5 _=>oW (fun _=>oR) fun g5=>nX
 rintro⟨⟩-
 exact oS
def DY(fu:Nat):Prop:= ∀(plist:List ByteArray),Ok (kK fu plist) (fun _=>True)
theorem eS:b5 DY:=((b5.ge 2147483648).and eA).imp fun fu ⟨hfu,eA⟩ plist=>by
 refine DL ?_ ?_
 ·refine Ok.loop1 ?_;rintro i1 ⟨⟩ hl2
  have:=aY plist
  refine oG fun z4=>?_
  have:=RD (0:Int).toNat (i1:Int).toNat plist
  have:=cR plist i1 hl2
  have:=bA (bB plist i1)
  exact oB (eA (List.drop (0:Int).toNat (List.take (i1:Int).toNat plist)) (bB plist i1)) fun x6 _=>oC (fun _=>oR) fun g6=>nX
 rintro⟨⟩-
 exact oS
def RN(fu:Nat):Prop:= ∀(ps:ByteArray),Ok (nL fu ps) (fun r=>wt r=ps.size)
theorem fH:b5 RN:=(b5.ge 2147483648).imp fun fu hfu ps=>by
 have:=(aT:wl ([]:List aA)=0∧_)
 have:=aA.wt_mk 1 ps []
 exact oS
def RM(fu:Nat):Prop:= ∀(ps:ByteArray) (pargs:List aA),ps.size+wl pargs≤1073741824→Ok (iZ fu ps pargs) (fun r=>wt r=ps.size+wl pargs)
theorem dQ:b5 RM:=(b5.ge 2147483648).imp fun fu hfu ps pargs hpre=>by
 have:=(aT:wl ([]:List aA)=0∧_)
 have:=aY (pargs)
 refine oG fun z1=>?_
 have:=b7 ([]:List aA) pargs
 have:=aA.wt_mk 2 ps (([])++pargs)
 exact oS
def XB(fu:Nat):Prop:= ∀(pa0:aA),wt pa0≤67108864→Ok (mG fu pa0) (fun r=>wt r+1≤8*(wt pa0+1))
def W4(n:Nat)(m:xE):Prop:= ∀(pa0:aA),wt pa0<n→wt pa0≤67108864→Ok (m pa0) (fun r=>wt r+1≤8*(wt pa0+1))
theorem alY{n fu:Nat}(hfu:2147483648≤fu)(bS:FJ fu)(eW:V7 fu){r_sl5Sx:xE}(h_sl5Sx:W4 n r_sl5Sx):W4 (n+1) (Z6 fu r_sl5Sx):=by
 intro pa0 hm hpre
 refine DL ?_ ?_
 ·have:=aA.wt_eq pa0
  refine oD (fun g2=>?_) fun g2=>?_
  ·have:akF.size=1:=rfl
   refine oG fun z3=>?_
   have:=fG akF pa0.gName
   exact oB (bS (akF++pa0.gName)) fun x4 h4=>oL
  refine oD (fun g5=>?_) fun g5=>?_
  ·have:wQ.size=3:=rfl
   refine oB (bS wQ) fun x7 h6=>oB (bS pa0.gName) fun x9 h7=>?_
   have:=kX x7 x9
   exact oB (eW ([x7,x9]:List aB) bV) fun x11 h8=>oL
  refine oD (fun g9=>?_) fun g9=>?_
  ·have:=aY pa0.gArgs
   refine oD (fun g10=>?_) fun g10=>?_
   ·exact oB (bS pa0.gName) fun x15 h11=>oL
   exact oI
  exact oI
 rintro⟨⟩-
 refine Ok.sok (E:=fun v17=>wl v17≤6) ?_ ?_
 ·have:=aA.wt_eq pa0
  refine oD (fun g13=>?_) fun g13=>?_
  ·have:iY.size=5:=rfl
   refine oB (bS iY) fun x20 h14=>?_
   have:=(aT:wl ([]:List aB)=0∧_)
   have:=cG x20
   refine oG fun z15=>?_
   have:=b7 ([]:List aB) ([x20]:List aB)
   exact oI
  have:=(aT:wl ([]:List aB)=0∧_)
  exact oI
 intro v17 h12
 have:=aA.wt_eq pa0
 refine oB (bS pa0.gName) fun x23 h16=>?_
 have:=aY (v17)
 have:=cG x23
 refine oG fun z17=>?_
 have:=b7 v17 ([x23]:List aB)
 refine NH pa0.gArgs 8 (fun i25 v27 hl19 hI20 _ _=>?_) ?_
 ·have:=aY pa0.gArgs
  have:=cR pa0.gArgs i25 hl19
  refine oB (h_sl5Sx (bB pa0.gArgs i25) bV bV) fun x31 h21=>?_
  have:=aY (v27)
  have:=cG x31
  refine oG fun z22=>?_
  have:=b7 v27 ([x31]:List aB)
  exact nX
 intro v27 h18
 have:s_.size=0:=rfl
 have:=aB.wt_mk s_ v27
 exact oS
theorem am2(n:Nat):b5 fun fu=>W4 n (mG fu):=by
 induction n with
 |zero=>exact .all fun fu=>fun _ h=>absurd h (Nat.not_lt_zero _)
 |succ n ih=>exact b5.succ ((ih.and (((b5.ge 2147483648).and bS).and eW)).imp fun fu ⟨h,⟨⟨hfu,bS⟩,eW⟩⟩=>fun pa0=>by rw [mG];exact alY hfu bS eW h pa0)
theorem iP:b5 XB:=(am2 8589934592).imp fun fu h pa0 hpre=>h pa0 bV hpre
def aiL(fu:Nat):Prop:= ∀(pt:aA) (pleft:Int),wt pt≤1073741824→Ok (o7 fu pt pleft) (fun _=>True)
def MO(n:Nat)(m:uV):Prop:= ∀(pt:aA) (pleft:Int),wt pt<n→wt pt≤1073741824→Ok (m pt pleft) (fun _=>True)
theorem agT{n fu:Nat}(hfu:2147483648≤fu){r_sl4Left:uV}(h_sl4Left:MO n r_sl4Left):MO (n+1) (OL fu r_sl4Left):=by
 intro pt pleft hm hpre
 refine oEN (fun i1 v2 hl2=>?_) ?_
 ·have:=aA.wt_eq pt
  have:=aY pt.gArgs
  refine oD (fun g4=>?_) fun g4=>?_
  ·have:=cR pt.gArgs i1 hl2
   exact oB (h_sl4Left (bB pt.gArgs i1) v2 bV bV) fun x7 _=>nX
  exact oK
 intro v2 _
 exact oS
theorem aj5(n:Nat):b5 fun fu=>MO n (o7 fu):=by
 induction n with
 |zero=>exact .all fun fu=>fun _ _ h=>absurd h (Nat.not_lt_zero _)
 |succ n ih=>exact b5.succ ((ih.and (b5.ge 2147483648)).imp fun fu ⟨h,hfu⟩=>fun pt pleft=>by rw [o7];exact agT hfu h pt pleft)
theorem NF:b5 aiL:=(aj5 8589934592).imp fun fu h pt pleft hpre=>h pt pleft bV hpre
def W9(fu:Nat):Prop:= ∀(pt:aA),wt pt≤1073741824→Ok (kB fu pt) (fun _=>True)
def BX(n:Nat)(m:n6):Prop:= ∀(pt:aA),wt pt<n→wt pt≤1073741824→Ok (m pt) (fun _=>True)
theorem VS{n fu:Nat}(hfu:2147483648≤fu)(rI:RK fu){r_sTypeDepth:n6}(h_sTypeDepth:BX n r_sTypeDepth):BX (n+1) (CR fu r_sTypeDepth):=by
 intro pt hm hpre
 refine oEN (fun i1 v2 hl2=>?_) ?_
 ·have:=aA.wt_eq pt
  have:=aY pt.gArgs
  have:=cR pt.gArgs i1 hl2
  refine oB (h_sTypeDepth (bB pt.gArgs i1) bV bV) fun x6 _=>?_
  have:=eZ (1+x6)
  exact oB (rI v2 (aQ (1+x6))) fun x8 _=>nX
 intro v2 _
 exact oS
theorem YK(n:Nat):b5 fun fu=>BX n (kB fu):=by
 induction n with
 |zero=>exact .all fun fu=>fun _ h=>absurd h (Nat.not_lt_zero _)
 |succ n ih=>exact b5.succ ((ih.and ((b5.ge 2147483648).and rI)).imp fun fu ⟨h,⟨hfu,rI⟩⟩=>fun pt=>by rw [kB];exact VS hfu rI h pt)
theorem CI:b5 W9:=(YK 8589934592).imp fun fu h pt hpre=>h pt bV hpre
def V9(fu:Nat):Prop:= ∀(ps:ByteArray),Ok (GC fu ps) (fun _=>True)
theorem xK:b5 V9:=(b5.ge 2147483648).imp fun fu hfu ps=>by
 exact oD (fun _=>oS) fun g1=>oS
def aiJ(fu:Nat):Prop:= ∀(pa0:aA),wt pa0≤1073741824→Ok (o6 fu pa0) (fun _=>True)
def MN(n:Nat)(m:qW):Prop:= ∀(pa0:aA),wt pa0<n→wt pa0≤1073741824→Ok (m pa0) (fun _=>True)
theorem agP{n fu:Nat}(hfu:2147483648≤fu)(bP:xO fu)(xK:V9 fu){r_sl4Form:qW}(h_sl4Form:MN n r_sl4Form):MN (n+1) (OK fu r_sl4Form):=by
 intro pa0 hm hpre
 have:=aA.wt_eq pa0
 refine oB (bP pa0.gName) fun x2 _=>?_;refine DL ?_ ?_
 ·refine DL ?_ ?_
  ·exact oD (fun _=>oI) fun g4=>oI
  intro v4 _
  refine oC (fun g5=>?_) fun g5=>?_
  ·exact oC (fun _=>oI) fun g6=>oI
  refine oD (fun g7=>?_) fun g7=>?_
  ·exact oC (fun _=>oI) fun g8=>oI
  refine oD (fun g9=>?_) fun g9=>?_
  ·refine oC (fun g10=>?_) fun g10=>?_
   ·exact oD (fun _=>oI) fun g11=>oB (xK pa0.gName) fun x14 _=>oC (fun _=>oI) fun g13=>oI
   exact oB (xK pa0.gName) fun x17 _=>oC (fun _=>oI) fun g15=>oI
  exact oL
 intro v3 _
 refine oEN (fun i19 v20 hl17=>?_) ?_
 ·have:=aY pa0.gArgs
  refine oC (fun g19=>?_) fun g19=>?_
  ·have:=cR pa0.gArgs i19 hl17
   exact oB (h_sl4Form (bB pa0.gArgs i19) bV bV) fun x25 _=>nX
  exact nX
 intro v20 _
 exact oS
theorem aj3(n:Nat):b5 fun fu=>MN n (o6 fu):=by
 induction n with
 |zero=>exact .all fun fu=>fun _ h=>absurd h (Nat.not_lt_zero _)
 |succ n ih=>exact b5.succ ((ih.and (((b5.ge 2147483648).and bP).and xK)).imp fun fu ⟨h,⟨⟨hfu,bP⟩,xK⟩⟩=>fun pa0=>by rw [o6];exact agP hfu bP xK h pa0)
theorem NE:b5 aiJ:=(aj3 8589934592).imp fun fu h pa0 hpre=>h pa0 bV hpre
def D1(fu:Nat):Prop:= ∀(pt:aA),wt pt≤1073741824→Ok (kL fu pt) (fun _=>True)
theorem eT:b5 D1:=((((b5.ge 2147483648).and NF).and CI).and NE).imp fun fu ⟨⟨⟨hfu,NF⟩,CI⟩,NE⟩ pt hpre=>by
 refine oB (NF pt 60 bV) fun x2 _=>?_;refine oD (fun g2=>?_) fun g2=>?_
 ·refine oB (CI pt bV) fun x5 _=>?_;refine oD (fun g4=>?_) fun g4=>?_
  ·exact oB (NE pt bV) fun x8 _=>oS
  exact oS
 exact oS
def KS(fu:Nat):Prop:= ∀(pa pb:aA),wt pa≤1073741824→Ok (fN fu pa pb) (fun _=>True)
def wS(n:Nat)(m:kA):Prop:= ∀(pa pb:aA),2*wt pa+1<n→wt pa≤1073741824→Ok (m pa pb) (fun _=>True)
def FI(n:Nat)(m:o8):Prop:= ∀(pa pb:List aA),2*wl pa<n→wl pa≤1073741824→Ok (m pa pb) (fun _=>True)
theorem VJ{n fu:Nat}(hfu:2147483648≤fu){r_sEqualType:kA}(h_sEqualType:wS n r_sEqualType){r_sl4Same:o8}(h_sl4Same:FI n r_sl4Same):wS (n+1) (xA fu r_sEqualType r_sl4Same):=by
 intro pa pb hm hpre
 have:=aA.wt_eq pa
 have:=aA.wt_eq pb
 refine oD (fun g1=>?_) fun g1=>?_
 ·refine oD (fun g2=>?_) fun g2=>?_
  ·exact oB (h_sl4Same pa.gArgs pb.gArgs bV bV) fun x4 _=>oS
  exact oS
 exact oS
theorem agW{n fu:Nat}(hfu:2147483648≤fu){r_sEqualType:kA}(h_sEqualType:wS n r_sEqualType){r_sl4Same:o8}(h_sl4Same:FI n r_sl4Same):FI (n+1) (BR fu r_sEqualType r_sl4Same):=by
 intro pa pb hm hpre
 have:=aY pa
 have:=aY pb
 refine oN (fun _=>oS) fun g1=>?_;refine DL ?_ ?_
 ·refine Ok.loop1 ?_;rintro i2 ⟨⟩ hl3
  have:=aY (pb)
  refine oG fun z5=>?_
  have:=cR pa i2 hl3
  have:=cR pb i2 z5
  exact oB (h_sEqualType (bB pa i2) (bB pb i2) bV bV) fun x7 _=>oW (fun _=>oR) fun g7=>nX
 rintro⟨⟩-
 exact oS
theorem YC(n:Nat):b5 fun fu=>wS n (fN fu)∧FI n (kS fu):=by
 induction n with
 |zero=>exact .all fun fu=>⟨fun _ _ h=>absurd h (Nat.not_lt_zero _),fun _ _ h=>absurd h (Nat.not_lt_zero _)⟩
 |succ n ih=>exact b5.succ ((ih.and (b5.ge 2147483648)).imp fun fu ⟨h,hfu⟩=>⟨fun pa pb=>by rw [fN];exact VJ hfu h.1 h.2 pa pb,fun pa pb=>by rw [kS];exact agW hfu h.1 h.2 pa pb⟩)
theorem tG:b5 KS:=(YC 8589934592).imp fun fu h pa pb hpre=>h.1 pa pb bV hpre
def aiN(fu:Nat):Prop:= ∀(pt:aA) (pout:List ByteArray),wt pt+wl pout≤268435456→Ok (lM fu pt pout) (fun r=>wl r≤wl pout+wt pt+1)
def MP(n:Nat)(m:sZ):Prop:= ∀(pt:aA) (pout:List ByteArray),wt pt<n→wt pt+wl pout≤268435456→Ok (m pt pout) (fun r=>wl r≤wl pout+wt pt+1)
theorem agZ{n fu:Nat}(hfu:2147483648≤fu)(eA:RJ fu){r_sl4Vars:sZ}(h_sl4Vars:MP n r_sl4Vars):MP (n+1) (GI fu r_sl4Vars):=by
 intro pt pout hm hpre
 have:=aA.wt_eq pt
 refine Ok.sok (E:=fun v2=>wl v2+wl pt.gArgs≤wl pout+wt pt+1) ?_ ?_
 ·refine oD (fun g2=>?_) fun g2=>?_
  ·refine oB (eA pout pt.gName) fun x5 _=>?_;refine oW (fun g4=>?_) fun g4=>?_
   ·have:=aY (pout)
    have:=cG pt.gName
    have:=bA pt.gName
    refine oG fun z5=>?_
    have:=b7 pout ([pt.gName]:List ByteArray)
    exact oI
   exact oI
  exact oI
 intro v2 h1
 refine NH pt.gArgs 1 (fun i8 v10 hl7 hI8 _ _=>?_) ?_
 ·have:=aY pt.gArgs
  have:=cR pt.gArgs i8 hl7
  exact oB (h_sl4Vars (bB pt.gArgs i8) v10 bV bV) fun x14 h9=>nX
 intro v10 h6
 exact oS
theorem aj8(n:Nat):b5 fun fu=>MP n (lM fu):=by
 induction n with
 |zero=>exact .all fun fu=>fun _ _ h=>absurd h (Nat.not_lt_zero _)
 |succ n ih=>exact b5.succ ((ih.and ((b5.ge 2147483648).and eA)).imp fun fu ⟨h,⟨hfu,eA⟩⟩=>fun pt pout=>by rw [lM];exact agZ hfu eA h pt pout)
theorem NG:b5 aiN:=(aj8 8589934592).imp fun fu h pt pout hpre=>h pt pout bV hpre
def MS(fu:Nat):Prop:= ∀(pt:aA),wt pt≤268435456→Ok (nI fu pt) (fun r=>wl r≤wt pt+1)
theorem uC:b5 MS:=((b5.ge 2147483648).and NG).imp fun fu ⟨hfu,NG⟩ pt hpre=>by
 have:=(aT:wl ([]:List ByteArray)=0∧_)
 exact oB (NG pt ([]:List ByteArray) bV) fun x2 h1=>oS
def MR(fu:Nat):Prop:= ∀(pt:aA),wt pt≤1073741824→Ok (dU fu pt) (fun _=>True)
def t3(n:Nat)(m:jW):Prop:= ∀(pt:aA),wt pt<n→wt pt≤1073741824→Ok (m pt) (fun _=>True)
theorem L1{n fu:Nat}(hfu:2147483648≤fu){r_sHasProjection:jW}(h_sHasProjection:t3 n r_sHasProjection):t3 (n+1) (qP fu r_sHasProjection):=by
 intro pt hm hpre
 refine DL ?_ ?_
 ·refine Ok.loop1 ?_;rintro i1 ⟨⟩ hl2
  have:=aA.wt_eq pt
  have:=aY pt.gArgs
  have:=cR pt.gArgs i1 hl2
  exact oB (h_sHasProjection (bB pt.gArgs i1) bV bV) fun x5 _=>oC (fun _=>oR) fun g5=>nX
 rintro⟨⟩-
 exact oS
theorem NM(n:Nat):b5 fun fu=>t3 n (dU fu):=by
 induction n with
 |zero=>exact .all fun fu=>fun _ h=>absurd h (Nat.not_lt_zero _)
 |succ n ih=>exact b5.succ ((ih.and (b5.ge 2147483648)).imp fun fu ⟨h,hfu⟩=>fun pt=>by rw [dU];exact L1 hfu h pt)
theorem lL:b5 MR:=(NM 8589934592).imp fun fu h pt hpre=>h pt bV hpre
def DZ(fu:Nat):Prop:= ∀(pt:aA) (pv:ByteArray),wt pt+pv.size≤1073741824→Ok (eG fu pt pv) (fun _=>True)
def pM(n:Nat)(m:fJ):Prop:= ∀(pt:aA) (pv:ByteArray),wt pt<n→wt pt+pv.size≤1073741824→Ok (m pt pv) (fun _=>True)
theorem DQ{n fu:Nat}(hfu:2147483648≤fu){r_sCountTypeVariable:fJ}(h_sCountTypeVariable:pM n r_sCountTypeVariable):pM (n+1) (qA fu r_sCountTypeVariable):=by
 intro pt pv hm hpre
 refine DL ?_ ?_
 ·refine oD (fun g2=>?_) fun g2=>?_
  ·exact oD (fun _=>oI) fun g3=>oI
  exact oI
 intro v1 _
 refine oEN (fun i4 v5 hl5=>?_) ?_
 ·have:=aA.wt_eq pt
  have:=aY pt.gArgs
  have:=cR pt.gArgs i4 hl5
  exact oB (h_sCountTypeVariable (bB pt.gArgs i4) pv bV bV) fun x9 _=>nX
 intro v5 _
 exact oS
theorem ER(n:Nat):b5 fun fu=>pM n (eG fu):=by
 induction n with
 |zero=>exact .all fun fu=>fun _ _ h=>absurd h (Nat.not_lt_zero _)
 |succ n ih=>exact b5.succ ((ih.and (b5.ge 2147483648)).imp fun fu ⟨h,hfu⟩=>fun pt pv=>by rw [eG];exact DQ hfu h pt pv)
theorem pW:b5 DZ:=(ER 8589934592).imp fun fu h pt pv hpre=>h pt pv bV hpre
def aaJ(fu:Nat):Prop:= ∀(pv:ByteArray) (pt:aA),pv.size+wt pt≤1073741824→Ok (ET fu pv pt) (fun _=>True)
theorem EH:b5 aaJ:=((b5.ge 2147483648).and pW).imp fun fu ⟨hfu,pW⟩ pv pt hpre=>by
 exact oB (pW pt pv bV) fun x2 _=>oS
end Go.Proofs.YtpioomclpaiomaaGreat.W

namespace Go.Proofs.YtpioomclpaiomaaGreat.W
set_option linter.unusedSimpArgs false
set_option linter.unusedVariables false
open Go.RowKit Go.WalkArith Go.IntWalk
theorem amS(d:DS)(l:List ByteArray):0<l.length→(d.pick l).size+1≤wl l:=fun h=>by
 have:=al5 (d.pick_mem h)
 exact this
theorem aiP(d:DS)(n:Nat):0<n→d.below n<n:=fun h=>d.below_lt h
theorem al6(E:Int): -9223372036854775808≤aQ E∧aQ E≤9223372036854775807:=by
 unfold aQ IntKind.wrap
 simp [IntKind.bits,IntKind.signed]
 omega
inductive IM:aH→Prop
 |mk {k:Int} {t n:ByteArray} {i:Int} {ty:aA} {args:List aH} {arms:List bM} (h:(k=2→0≤i∧i≤1)∧(k=1→i.natAbs≤9223372036854775808)) (ha: ∀a∈args,IM a) (hm: ∀m∈arms,IM m.gBody):IM (.mk k t n i ty args arms)
theorem IM.num{e:aH}(h:IM e):(e.gKind=2→0≤e.gN∧e.gN≤1)∧(e.gKind=1→e.gN.natAbs≤9223372036854775808):=by cases h;assumption
theorem IM.arg{e:aH}(h:IM e): ∀a∈e.gArgs,IM a:=by cases h;assumption
theorem IM.arm{e:aH}(h:IM e): ∀m∈e.gArms,IM m.gBody:=by cases h;assumption
theorem IM.zero:IM (aH.mk 0 s_ s_ 0 (aA.mk 0 s_ []) [] []):= .mk ⟨by omega,by omega⟩ (by simp) (by simp)
section
variable {α:Type}
theorem ahA{P:α→Prop}: ∀a∈([]:List α),P a:=by simp
theorem akQ{P:α→Prop}{l:List α}{x:α}(h: ∀a∈l,P a)(hx:P x): ∀a∈l++ [x],P a:=by
 intro a ha
 rcases List.mem_append.1 ha with ha|ha
 ·exact h a ha
 ·obtain rfl:=List.mem_singleton.1 ha
  exact hx
theorem XE [Inhabited α]{P:α→Prop}{l:List α}{i:Nat}(h: ∀a∈l,P a)(hi:i<l.length):P (bB l i):=h _ (iU hi)
variable [Wt α]
theorem aeK(a:List α)(x:α):(a.length=0→wl (List.drop 1 (a++ [x]))=0)∧(0<a.length→wl (List.drop 1 (a++ [x]))=wl (List.drop 1 a)+wt x+1):=by
 cases a with
 |nil=>exact⟨fun _=>rfl,fun h=>by simp at h⟩
 |cons b a=>exact⟨fun h=>by simp at h,fun _=>by simp only [List.cons_append,List.drop_succ_cons,List.drop_zero];rw [(b7 _ _).1,(cG _).1];omega⟩
theorem apC(v:List α):wl (List.drop (1:Int).toNat (List.take (((v.length:Nat):Int):Int).toNat v))=wl (List.drop 1 v):=by
 have:List.take (((v.length:Nat):Int):Int).toNat v=v:=by simp
 rw [this]
 rfl
theorem w8(L:List α)(x:Int)(k:Nat):(((k:Int)≤((L.length:Nat):Int)∧x=k)∨(((L.length:Nat):Int)≤k∧x=((L.length:Nat):Int)))→wl (List.drop (x:Int).toNat (List.take (((L.length:Nat):Int):Int).toNat L))+wl (List.take k L)≤wl L:=by
 have e:List.take (((L.length:Nat):Int):Int).toNat L=L:=by simp
 rw [e]
 rintro(⟨h,rfl⟩|⟨h,rfl⟩)
 ·have:=FF k L
  simp only [Int.toNat_natCast]
  omega
 ·simp only [Int.toNat_natCast,List.drop_length]
  have:=jA L k
  show 0+_≤_
  omega
theorem amR(L:List α)(x:Int):(((2:Int)≤((L.length:Nat):Int)∧x=2)∨(((L.length:Nat):Int)≤2∧x=((L.length:Nat):Int)))→wl (List.drop (1:Int).toNat (List.take (x:Int).toNat L))+wl (List.take 1 L)≤wl (List.take 2 L):=by
 have key: ∀M:List α,wl (List.drop (1:Int).toNat M)+wl (List.take 1 M)=wl M:=fun M=>by
  have:=FF 1 M
  show wl (List.drop 1 M)+_=_
  omega
 rintro(⟨h,rfl⟩|⟨h,rfl⟩)
 ·have:=key (L.take 2)
  rw [List.take_take] at this
  exact Nat.le_of_eq this
 ·have h2:L.length≤2:=by omega
  have:=key L
  rw [show List.take (((L.length:Nat):Int):Int).toNat L=L by simp,List.take_of_length_le h2]
  exact Nat.le_of_eq this
variable [Inhabited α]
theorem aeW(L:List α)(a b c:α)(k k1:Nat)(hk:k+1=k1):(k<L.length→wt (bB ((([])++L)++([a,b,c]:List α)) k)+1+wl (List.take k L)=wl (List.take k1 L))∧(L.length≤k→k<L.length+3→wt (bB ((([])++L)++([a,b,c]:List α)) k)≤wt a+wt b+wt c∧wl (List.take k L)=wl L∧wl (List.take k1 L)=wl L)∧wl (List.take k1 L)≤wl L:=by
 subst hk
 rw [List.nil_append]
 refine⟨fun h=>?_,fun h h3=>⟨?_,by rw [List.take_of_length_le h],by rw [List.take_of_length_le (by omega)]⟩,jA L _⟩
 ·have h2:=jB L k h
  have e:bB (L++ [a,b,c]) k=bB L k:=by
   unfold bB
   rw [List.getElem?_append_left h]
  rw [e]
  omega
 ·have e:bB (L++ [a,b,c]) k=bB [a,b,c] (k-L.length):=by
   unfold bB
   rw [List.getElem?_append_right h]
  rw [e]
  have:k-L.length=0∨k-L.length=1∨k-L.length=2:=by omega
  rcases this with h|h|h<;>rw [h]<;>simp [bB]<;>omega
end
theorem oX{α β:Type}[Wt α]{v:List α}{x:α}{PA:α→Prop}{E:List α→Prop}{Q:β→Prop}{m:List α→Prop}(hB: ∀a∈v,PA a)(h:m (v++ [x]):=by first|omega|(dsimp only;omega))(hx:PA x:=by first|assumption|exact IM.zero):Ok (some (LR.next (v++ [x]))) (PL Q (fun v=>m v∧ ∀a∈v,PA a) E):=⟨_,rfl,h,akQ hB hx⟩
theorem oS2{α:Type}{P1 P2:α→Prop}{a:α}(h:P1 a:=by first|omega|(dsimp only;omega))(k:P2 a:=by first|assumption|exact IM.zero|exact .mk ⟨by omega,by omega⟩ (by first|assumption|exact ahA) (by first|assumption|exact ahA)):Ok (some a) (fun a=>P1 a∧P2 a):=⟨a,rfl,h,k⟩
def aoY(p r:cT):Prop:=r.gs=p.gs∧p.gat≤r.gat∧r.gat≤((p.gs.size:Nat):Int)∧r.gdeep=p.gdeep∧r.gbad=p.gbad
def V8(fu:Nat):Prop:= ∀p:cT,0≤p.gat→p.gat≤((p.gs.size:Nat):Int)→p.gs.size≤1048576→Ok (xL fu p) (aoY p)
theorem WH:b5 V8:=(b5.ge 2147483648).imp fun fu hfu p h0 h1 h2=>by
 unfold xL
 refine Ok.sok (E:=fun v1=>p.gat≤v1∧v1≤((p.gs.size:Nat):Int)) ?_ (fun v1 h=>Ok.some ⟨rfl,h.1,h.2,rfl,rfl⟩)
 unfold TZ
 refine Ok.loopW (fun v1=>p.gat≤v1∧v1≤((p.gs.size:Nat):Int)) (fun v1=>(((p.gs.size:Nat):Int)-v1).toNat) ?_ _ _ bV bV
 intro v1 hI
 have:=eZ (v1+1)
 unfold TY
 refine Ok.swd (fun g=>?_) (fun g=>Ok.brk hI)
 refine Ok.gdk bV (fun z=>?_)
 refine Ok.swd (fun _=>Ok.next bV) (fun _=>?_)
 refine Ok.swd (fun _=>Ok.next bV) (fun _=>Ok.brk hI)
def aaW(p:cT)(r:aB×cT):Prop:=r.2.gs=p.gs∧p.gat≤r.2.gat∧r.2.gat≤((p.gs.size:Nat):Int)∧(r.2.gbad=false→r.2.gdeep=p.gdeep∧(wt r.1:Int)+1≤2*(r.2.gat-p.gat))
def akM(n:Nat)(r:cT→Option (aB×cT)):Prop:= ∀p:cT,(14-p.gdeep).toNat<n→0≤p.gat→p.gat≤((p.gs.size:Nat):Int)→p.gs.size≤1048576→0≤p.gdeep→p.gdeep≤14→p.gbad=false→Ok (r p) (aaW p)
theorem agF(n fu:Nat)(hfu:2147483648≤fu)(k1:V8 fu)(k2:V6 fu)(r:sW)(hr:akM n r):akM (n+1) (GA fu r):=by
 intro p hn h0 h1 h2 hd hd2 hb
 unfold GA
 refine Ok.bd (k1 p h0 h1 h2) ?_;rintro x ⟨e1,e2,e3,e4,e5⟩
 have e3':x.gat≤((x.gs.size:Nat):Int):=by rw [e1];exact e3
 have bad: ∀v:Int,p.gat≤v→v≤((p.gs.size:Nat):Int)→Ok (some ((aB.mk s_ []),(cT.mk x.gs v x.gdeep (aQ (x.gsize+1)) true))) (aaW p):=fun v hv hv2=>Ok.some ⟨e1,hv,hv2,fun h=>by cases h⟩
 refine Ok.swd (fun _=>bad _ e2 e3) (fun g1=>?_)
 refine Ok.swd (fun _=>bad _ e2 e3) (fun g2=>?_)
 refine Ok.sok (E:=fun v=>x.gat≤v∧v≤((x.gs.size:Nat):Int)) ?_ ?_
 ·unfold TW
  have hz:x.gs.size≤1048576:=by rw [e1];exact h2
  refine Ok.loopW (fun v1=>x.gat≤v1∧v1≤((x.gs.size:Nat):Int)) (fun v1=>(((x.gs.size:Nat):Int)-v1).toNat) ?_ _ _ bV bV
  intro v1 hI
  have:=eZ (v1+1)
  unfold TU
  refine Ok.swd (fun g=>?_) (fun g=>Ok.brk hI)
  refine Ok.gdk bV (fun z=>?_)
  refine Ok.bd (k2 _) ?_;rintro b-
  exact Ok.sw (fun _=>Ok.next bV) (fun _=>Ok.brk hI)
 intro v hv
 refine Ok.swd (fun g3=>?_) (fun g3=>?_)
 ·refine Ok.gdk bV (fun z=>Ok.some ⟨e1,by show _≤v;omega,by show v≤_;rw [← e1];exact hv.2,fun _=>⟨e4,?_⟩⟩)
  show(wt (aB.mk _ []):Int)+1≤2*(v-p.gat)
  rw [aB.wt_mk,B5]
  have:wl ([]:List aB)=0:=rfl
  omega
 ·refine Ok.gdk bV (fun z=>?_)
  have hvp:v≤((p.gs.size:Nat):Int):=by rw [← e1];exact hv.2
  refine Ok.swn (fun _=>bad _ (by omega) hvp) (fun g4=>?_)
  refine Ok.swd (fun _=>bad _ (by omega) hvp) (fun g5=>?_)
  have w1:=eZ (v+1)
  have w2:=eZ (x.gdeep+1)
  have hz:x.gs.size≤1048576:=by rw [e1];exact h2
  refine Ok.sok (E:=fun(q:ByteArray×Int×Int×Int×Bool×List aB)=>q.1=p.gs∧p.gat≤q.2.1∧q.2.1≤((p.gs.size:Nat):Int)∧q.2.2.2.2.1=true) ?_ ?_
  ·unfold TX
   refine Ok.loopW (fun(q:ByteArray×Int×Int×Int×Bool×List aB)=>q.1=p.gs∧v+1≤q.2.1∧q.2.1≤((p.gs.size:Nat):Int)∧(q.2.2.2.2.1=false→q.2.2.1=p.gdeep+1∧(wl q.2.2.2.2.2:Int)≤2*(q.2.1-(v+1)))) (fun q=>(2*(((p.gs.size:Nat):Int)-q.2.1)).toNat+(if q.2.2.2.2.1 then 0 else 1)) ?_ _ _ ?_ ?_
   ·rintro⟨v17,v18,v19,v20,v21,v23⟩ ⟨i1,i2,i3,i4⟩
    dsimp only at i1 i2 i3 i4
    subst i1
    unfold TV
    refine Ok.swb (fun g6=>?_) (fun g6=>Ok.brk ⟨rfl,by show p.gat≤v18;omega,i3,g6⟩)
    subst g6
    obtain⟨i5,i6⟩:=i4 rfl
    subst i5
    refine Ok.bd (k1 _ (by show 0≤v18;omega) i3 h2) ?_;rintro y ⟨f1,f2,f3,f4,f5⟩
    replace f1:y.gs=p.gs:=f1
    replace f2:v18≤y.gat:=f2
    replace f3:y.gat≤((p.gs.size:Nat):Int):=f3
    replace f4:y.gdeep=p.gdeep+1:=f4
    replace f5:y.gbad=false:=f5
    have hl:=aY v23
    have step: ∀q:aB×cT,aaW y q→Ok (gd ((v23).length+(([q.1]:List aB)).length≤68719476736) (some (LR.next (q.2.gs,q.2.gat,q.2.gdeep,q.2.gsize,q.2.gbad,(v23++([q.1]:List aB)))))) (PL (aaW p) (fun s'=>(fun(q:ByteArray×Int×Int×Int×Bool×List aB)=>q.1=p.gs∧v+1≤q.2.1∧q.2.1≤((p.gs.size:Nat):Int)∧(q.2.2.2.2.1=false→q.2.2.1=p.gdeep+1∧(wl q.2.2.2.2.2:Int)≤2*(q.2.1-(v+1)))) s'∧(fun(q:ByteArray×Int×Int×Int×Bool×List aB)=>(2*(((p.gs.size:Nat):Int)-q.2.1)).toNat+(if q.2.2.2.2.1 then 0 else 1)) s'<(fun(q:ByteArray×Int×Int×Int×Bool×List aB)=>(2*(((p.gs.size:Nat):Int)-q.2.1)).toNat+(if q.2.2.2.2.1 then 0 else 1)) (p.gs,v18,p.gdeep+1,v20,false,v23)) (fun(q:ByteArray×Int×Int×Int×Bool×List aB)=>q.1=p.gs∧p.gat≤q.2.1∧q.2.1≤((p.gs.size:Nat):Int)∧q.2.2.2.2.1=true)):=by
     rintro⟨a,b⟩ ⟨j1,j2,j3,j4⟩
     dsimp only at j1 j2 j3 j4
     have j3':b.gat≤((p.gs.size:Nat):Int):=by rw [← f1];exact j3
     have l1:=cG a
     refine Ok.gdk (by dsimp only;omega) (fun _=>Ok.next ⟨⟨j1.trans f1,by show v+1≤b.gat;omega,j3',fun hb2=>?_⟩,?_⟩)
     ·obtain⟨j5,j6⟩:=j4 hb2
      refine⟨by show b.gdeep=_;rw [j5,f4],?_⟩
      show(wl (v23++ [a]):Int)≤2*(b.gat-(v+1))
      have:=b7 v23 [a]
      omega
     ·dsimp only
      cases hbb:b.gbad with
      |true=>simp;omega
      |false=>
       obtain⟨j5,j6⟩:=j4 hbb
       simp
       omega
    have call:Ok (r y) (aaW y):=hr y (by rw [f4];omega) (by omega) (by rw [f1];exact f3) (by rw [f1];exact h2) (by rw [f4];omega) (by rw [f4];omega) f5
    have w3:=eZ (y.gat+1)
    have w4:=eZ (y.gdeep-1)
    have hys:y.gs.size=p.gs.size:=by rw [f1]
    refine Ok.swd (fun g7=>?_) (fun g7=>Ok.bd call step)
    refine Ok.gdk (by omega) (fun z2=>?_)
    refine Ok.swd (fun g8=>Ok.ret ⟨f1,by show p.gat≤aQ _;omega,by show aQ _≤_;omega,fun _=>⟨by show aQ _=_;omega,?_⟩⟩) (fun g8=>Ok.bd call step)
    show(wt (aB.mk s_ v23):Int)+1≤2*(aQ (y.gat+1)-p.gat)
    rw [aB.wt_mk]
    have:s_.size=0:=rfl
    omega
   ·dsimp only
    have: ∀b:Bool,(if b then 0 else 1)≤1:=by decide
    have:=this x.gbad
    omega
   ·have hxs:x.gs.size=p.gs.size:=by rw [e1]
    refine⟨e1,by dsimp only;omega,by dsimp only;omega,fun _=>⟨by dsimp only;omega,?_⟩⟩
    show((wl ([]:List aB):Nat):Int)≤2*(aQ (v+1)-(v+1))
    have:wl ([]:List aB)=0:=rfl
    omega
  ·rintro⟨v17,v18,v19,v20,v21,v23⟩ ⟨i1,i2,i3,i4⟩
   dsimp only at i1 i2 i3 i4
   exact Ok.some ⟨i1,i2,i3,fun h=>by rw [show v21=false from h] at i4;cases i4⟩
theorem ajZ(n:Nat):b5 fun fu=>akM n (qV fu):=by
 induction n with
 |zero=>exact .all fun fu p h=>absurd h (Nat.not_lt_zero _)
 |succ n ih=>
  refine b5.succ ((ih.and (((b5.ge 2147483648).and WH).and FT)).imp fun fu h=>?_)
  intro p
  rw [qV]
  exact agF n fu h.2.1.1 h.2.1.2 h.2.2 _ h.1 p
def UM(fu:Nat):Prop:= ∀ps:ByteArray,ps.size≤1048576→Ok (uZ fu ps) (fun r=>wt r.1≤2*ps.size)
theorem AD:b5 UM:=(((ajZ 15).and WH).and cS).imp fun fu hh ps h=>by
 obtain⟨⟨k1,k2⟩,k3⟩:=hh
 have zero: ∀b:Bool,Ok (some ((aB.mk s_ []),b)) (fun r=>wt r.1≤2*ps.size):=fun b=>Ok.some (by
  show wt (aB.mk s_ [])≤_
  rw [aB.wt_mk]
  have:s_.size=0:=rfl
  have:wl ([]:List aB)=0:=rfl
  omega)
 unfold uZ
 refine Ok.bd (k1 _ (by show(14-(0:Int)).toNat<15;omega) (Int.le_refl _) (by show(0:Int)≤_;omega) h (Int.le_refl _) (by show(0:Int)≤14;omega) rfl) ?_;rintro⟨x,r⟩ ⟨e1,e2,e3,e4⟩
 dsimp only at e1 e2 e3 e4
 replace e1:r.gs=ps:=e1
 replace e2:0≤r.gat:=e2
 replace e3:r.gat≤((ps.size:Nat):Int):=e3
 refine Ok.bd (k2 r e2 (by rw [e1];exact e3) (by rw [e1];exact h)) ?_;rintro y ⟨f1,f2,f3,f4,f5⟩
 refine Ok.sw (fun _=>zero _) (fun g=>?_)
 obtain⟨-,e5⟩:=e4 (by rw [← f5];exact g)
 replace e5:(wt x:Int)+1≤2*(r.gat-0):=e5
 refine Ok.swn (fun _=>zero _) (fun _=>?_)
 refine Ok.bd (k3 x (by omega)) ?_;rintro b-
 exact Ok.swb (fun _=>zero _) (fun _=>Ok.some (by show wt x≤_;omega))
theorem aoP{v:Int}{k:Nat}(h:v.natAbs<10^(k+1)):(v.tdiv 10).natAbs<10^k:=by
 rw [Int.natAbs_tdiv,Nat.pow_succ] at*
 show v.natAbs/10<_
 omega
def BZ(fu:Nat):Prop:= ∀pn:Int,pn.natAbs≤9223372036854775808→Ok (n0 fu pn) (fun r=>r.size≤21)
theorem l9:b5 BZ:=(b5.ge 18446744073709551616).imp fun fu hfu pn h=>by
 unfold n0
 refine Ok.swd (fun _=>Ok.some (by decide)) (fun _=>?_)
 refine Ok.sok (E:=fun q:Int×ByteArray=>q.2.size≤20) ?_ ?_
 ·unfold II
  refine Ok.loopW (fun q:Int×ByteArray=>q.1.natAbs≤9223372036854775808∧ ∃k,q.2.size+k≤19∧q.1.natAbs<10^k) (fun q=>q.1.natAbs) ?_ _ _ (by dsimp only;omega) ⟨h,19,by show(0:Nat)+19≤19;omega,by dsimp only;omega⟩
  rintro⟨v2,v3⟩ ⟨h1,k,h2,h3⟩
  dsimp only at h1 h2 h3
  unfold IH
  refine Ok.swn (fun g=>?_) (fun _=>Ok.brk (by dsimp only;omega))
  obtain⟨k,rfl⟩: ∃m,k=m+1:=by
   rcases k with _|m
   ·exfalso
    have:(10:Nat)^0=1:=rfl
    omega
   ·exact⟨m,rfl⟩
  have h4:=aoP h3
  have h5:(v2.tdiv 10).natAbs<v2.natAbs:=by
   rw [Int.natAbs_tdiv]
   show v2.natAbs/10<_
   omega
  have w:=eZ (v2.tdiv 10)
  have w:aQ (v2.tdiv 10)=v2.tdiv 10:=w (by omega)
  have fin: ∀u:UInt8,Ok (gd ((bytesStr ([u]:List UInt8)).size+(v3).size≤1099511627776) (some (LR.next ((aQ ((v2).tdiv 10)),((bytesStr ([u]:List UInt8))++v3))))) (PL (fun r:ByteArray=>r.size≤21) (fun s'=>(fun q:Int×ByteArray=>q.1.natAbs≤9223372036854775808∧ ∃k,q.2.size+k≤19∧q.1.natAbs<10^k) s'∧(fun q:Int×ByteArray=>q.1.natAbs) s'<(fun q:Int×ByteArray=>q.1.natAbs) (v2,v3)) (fun q:Int×ByteArray=>q.2.size≤20)):=fun u=>by
   have e1:=akU [u]
   have e2: [u].length=1:=rfl
   have e3:=fG (bytesStr [u]) v3
   refine Ok.gdk (by omega) (fun _=>Ok.next ⟨⟨by dsimp only;rw [w];omega,k,by dsimp only;omega,by dsimp only;rw [w];exact h4⟩,by dsimp only;rw [w];exact h5⟩)
  exact Ok.swd (fun _=>fin _) (fun _=>fin _)
 ·rintro⟨v2,v3⟩ hv
  dsimp only at hv
  have:DV.size=1:=rfl
  have:=fG DV v3
  exact Ok.swd (fun _=>Ok.gdk (by omega) (fun _=>Ok.some bV)) (fun _=>Ok.some bV)
def zA(fu:Nat):Prop:= ∀ps:ByteArray,Ok (zH fu ps) (fun r=>r.1.natAbs≤9223372036854775808)
theorem mA:b5 zA:=l9.imp fun fu k ps=>by
 have rng: ∀E:Int,(aQ E).natAbs≤9223372036854775808:=fun E=>by have:=al6 E;omega
 have fin: ∀v:Int,v.natAbs≤9223372036854775808→Ok (bd (n0 fu v) (fun x18=>sw (!decide (x18=ps)) (some ((0:Int),false)) (some (v,true)))) (fun r=>r.1.natAbs≤9223372036854775808):=fun v hv=>by
  refine Ok.bd (k v hv) ?_;rintro x-
  exact Ok.swn (fun _=>Ok.some (by decide)) (fun _=>Ok.some hv)
 have loop: ∀(f:Nat→Int→Option (LR Int (Int×Bool))) (n:Nat),(∀i s,i<n→Ok (f i s) (PL (fun r:Int×Bool=>r.1.natAbs≤9223372036854775808) (fun v:Int=>v.natAbs≤9223372036854775808) (fun v:Int=>v.natAbs≤9223372036854775808)))→Ok (loopN f (n-0) 0 0) (PS (fun r:Int×Bool=>r.1.natAbs≤9223372036854775808) (fun v:Int=>v.natAbs≤9223372036854775808)):=fun f n hf=>Ok.loop0 (fun _ v=>v.natAbs≤9223372036854775808) (by decide) (fun i s _ h=>h) (fun i s hi _=>hf i s hi)
 unfold zH
 refine Ok.bd (Q:=fun r:Int×Bool=>r.1.natAbs≤9223372036854775808) ?_ (fun r hr=>by obtain⟨a,b⟩:=r;exact Ok.some hr)
 unfold OH
 have hps:((ps.size:Nat):Int)=((ps.size:Nat):Int):=rfl
 refine Ok.swd (fun g=>?_) (fun g=>?_)
 ·refine Ok.gdk (by omega) (fun _=>?_)
  refine Ok.sok (E:=fun _=>True) ?_ ?_
  ·unfold TN
   exact Ok.swd (fun _=>Ok.gdk (by omega) (fun _=>Ok.inr trivial)) (fun _=>Ok.inr trivial)
  rintro v3-
  refine Ok.swd (fun _=>Ok.some (by decide)) (fun _=>?_)
  refine Ok.swd (fun _=>Ok.some (by decide)) (fun _=>?_)
  refine Ok.sok (E:=fun v:Int=>v.natAbs≤9223372036854775808) ?_ ?_
  ·unfold TR
   refine loop _ _ (fun i s hi=>?_)
   unfold TP
   refine Ok.gdk hi (fun _=>?_)
   exact Ok.swd (fun _=>Ok.ret (by decide)) (fun _=>Ok.swd (fun _=>Ok.ret (by decide)) (fun _=>Ok.next (rng _)))
  intro v9 hv
  refine Ok.sok (E:=fun v:Int=>v.natAbs≤9223372036854775808) ?_ ?_
  ·unfold TO
   exact Ok.swd (fun _=>Ok.inr (rng _)) (fun _=>Ok.inr hv)
  intro v15 hv
  exact fin v15 hv
 ·refine Ok.swd (fun _=>Ok.some (by decide)) (fun _=>?_)
  refine Ok.swd (fun _=>Ok.some (by decide)) (fun _=>?_)
  refine Ok.sok (E:=fun v:Int=>v.natAbs≤9223372036854775808) ?_ (fun v hv=>fin v hv)
  unfold TS
  refine loop _ _ (fun i s hi=>?_)
  unfold TQ
  refine Ok.gdk hi (fun _=>?_)
  exact Ok.swd (fun _=>Ok.ret (by decide)) (fun _=>Ok.swd (fun _=>Ok.ret (by decide)) (fun _=>Ok.next (rng _)))
end Go.Proofs.YtpioomclpaiomaaGreat.W

namespace Go.Proofs.YtpioomclpaiomaaGreat.W
set_option linter.unusedSimpArgs false
set_option linter.unusedVariables false
set_option maxRecDepth 20000
set_option maxHeartbeats 4000000
open Go.RowKit Go.WalkArith Go.IntWalk
attribute [local irreducible] wt wl
def QP(fu:Nat):Prop:= ∀(pa0:aB),wt pa0≤268435456→Ok (mH fu pa0) (fun r=>wt r≤2*wt pa0)
def W5(n:Nat)(m:C2):Prop:= ∀(pa0:aB),wt pa0<n→wt pa0≤268435456→Ok (m pa0) (fun r=>wt r≤2*wt pa0)
theorem al1{n fu:Nat}(hfu:2147483648≤fu)(fH:RN fu)(dQ:RM fu){r_sl5Ty:C2}(h_sl5Ty:W5 n r_sl5Ty):W5 (n+1) (Z7 fu r_sl5Ty):=by
 intro pa0 hm hpre
 have:=aB.wt_eq pa0
 have:s_.size=0:=rfl
 refine oN (fun g1=>?_) fun g1=>?_
 ·have:=D3 g1
  refine oG fun z2=>?_;refine oD (fun g3=>?_) fun g3=>?_
  ·refine oG fun z4=>?_
   have:=B5 pa0.gAtom (1:Int).toNat (pa0.gAtom.size:Int).toNat
   exact oB (fH (pa0.gAtom.extract (1:Int).toNat (pa0.gAtom.size:Int).toNat)) fun x6 h5=>oS
  have:=(aT:wl ([]:List aA)=0∧_)
  exact oB (dQ pa0.gAtom ([]:List aA) bV) fun x8 h6=>oS
 have:=aY pa0.gList
 refine oD (fun g7=>?_) fun g7=>?_
 ·have:=(aT:wl ([]:List aA)=0∧_)
  have:=aA.wt_mk 0 s_ []
  exact oS
 have:=aY (pa0.gList)
 refine oG fun z8=>?_
 have:=(aT:wl ([]:List aA)=0∧_)
 refine Ok.sok (E:=fun v13=>wl v13+2*wl (List.take 1 pa0.gList)≤wl ([]:List aA)+2*wl pa0.gList∧(v13.length=0∨wl (List.drop 1 v13)+2*wl (List.take 2 pa0.gList)≤2*wl pa0.gList)) ?_ ?_
 ·refine Ok.loop0 (fun i11 v13=>wl v13+2*wl (List.take 1 pa0.gList)≤wl ([]:List aA)+2*wl (List.take i11 pa0.gList)∧((i11=1∧v13.length=0)∨(2≤i11∧1≤v13.length∧wl (List.drop 1 v13)+2*wl (List.take 2 pa0.gList)≤2*wl (List.take i11 pa0.gList)))) (by exact bV) (by rintro i11 v13-hI;have:=jA pa0.gList i11;(try dsimp only at hI ⊢);omega) ?_;rintro i11 v13 hl10 hI11
  have:=jB pa0.gList i11 hl10
  have:=jA pa0.gList (i11+1)
  have:=cR pa0.gList i11 hl10
  refine oB (h_sl5Ty (bB pa0.gList i11) bV bV) fun x17 h12=>?_
  have:=aY (v13)
  have:=cG x17
  refine oG fun z13=>?_
  have:=b7 v13 ([x17]:List aA)
  have:=aeK v13 x17
  have:=aaD pa0.gList 2 (i11+1)
  exact Ok.next bV
 intro v13 h9
 have:=cR pa0.gList 0 z8
 have:wl (List.take 1 pa0.gList)=wl (List.take 0 pa0.gList)+wt (bB pa0.gList 0)+1:=IL pa0.gList 0 z8
 have:=aB.wt_eq (bB pa0.gList 0)
 have:iY.size=5:=rfl
 refine oD (fun g14=>?_) fun g14=>?_
 ·have:=congrArg ByteArray.size g14
  have:=aY v13
  refine oD (fun g15=>?_) fun g15=>?_
  ·refine oG fun z16=>?_
   have:=cR pa0.gList 1 z16
   have:wl (List.take 2 pa0.gList)=wl (List.take 1 pa0.gList)+wt (bB pa0.gList 1)+1:=IL pa0.gList 1 z16
   have:=aB.wt_eq (bB pa0.gList 1)
   refine oN (fun g17=>?_) fun g17=>?_
   ·have:=D3 g17
    refine oG fun z18=>?_
    have:=w8 v13 1 1
    have:=apC v13
    have:=aA.wt_mk 3 ((bB pa0.gList 1).gAtom) (List.drop (1:Int).toNat (List.take (v13.length:Int).toNat v13))
    exact oS
   have:wQ.size=3:=rfl
   refine oD (fun g19=>?_) fun g19=>?_
   ·have:=congrArg ByteArray.size g19
    have:=aA.wt_mk 2 ((bB pa0.gList 0).gAtom) v13
    exact oS
   have:=aA.wt_mk 2 ((bB pa0.gList 0).gAtom) v13
   exact oS
  have:wQ.size=3:=rfl
  refine oD (fun g20=>?_) fun g20=>?_
  ·have:=congrArg ByteArray.size g20
   refine oD (fun g21=>?_) fun g21=>?_
   ·refine oG fun z22=>?_
    have:=cR pa0.gList 1 z22
    have:wl (List.take 2 pa0.gList)=wl (List.take 1 pa0.gList)+wt (bB pa0.gList 1)+1:=IL pa0.gList 1 z22
    have:=aB.wt_eq (bB pa0.gList 1)
    refine oN (fun g23=>?_) fun g23=>?_
    ·have:=D3 g23
     have:=aA.wt_mk 4 ((bB pa0.gList 1).gAtom) []
     exact oS
    have:=aA.wt_mk 2 ((bB pa0.gList 0).gAtom) v13
    exact oS
   have:=aA.wt_mk 2 ((bB pa0.gList 0).gAtom) v13
   exact oS
  have:=aA.wt_mk 2 ((bB pa0.gList 0).gAtom) v13
  exact oS
 have:wQ.size=3:=rfl
 refine oD (fun g24=>?_) fun g24=>?_
 ·have:=congrArg ByteArray.size g24
  have:=aY v13
  refine oD (fun g25=>?_) fun g25=>?_
  ·refine oG fun z26=>?_
   have:=cR pa0.gList 1 z26
   have:wl (List.take 2 pa0.gList)=wl (List.take 1 pa0.gList)+wt (bB pa0.gList 1)+1:=IL pa0.gList 1 z26
   have:=aB.wt_eq (bB pa0.gList 1)
   refine oN (fun g27=>?_) fun g27=>?_
   ·have:=D3 g27
    have:=aA.wt_mk 4 ((bB pa0.gList 1).gAtom) []
    exact oS
   have:=aA.wt_mk 2 ((bB pa0.gList 0).gAtom) v13
   exact oS
  have:=aA.wt_mk 2 ((bB pa0.gList 0).gAtom) v13
  exact oS
 have:=aA.wt_mk 2 ((bB pa0.gList 0).gAtom) v13
 exact oS
theorem am3(n:Nat):b5 fun fu=>W5 n (mH fu):=by
 induction n with
 |zero=>exact .all fun fu=>fun _ h=>absurd h (Nat.not_lt_zero _)
 |succ n ih=>exact b5.succ ((ih.and (((b5.ge 2147483648).and fH).and dQ)).imp fun fu ⟨h,⟨⟨hfu,fH⟩,dQ⟩⟩=>fun pa0=>by rw [mH];exact al1 hfu fH dQ h pa0)
theorem iB:b5 QP:=(am3 8589934592).imp fun fu h pa0 hpre=>h pa0 bV hpre
def AP(fu:Nat):Prop:= ∀(pn:Int),pn.natAbs≤9223372036854775808→Ok (sV fu pn) (fun r=>wt r=0∧IM r)
theorem fL:b5 AP:=(b5.ge 2147483648).imp fun fu hfu pn hpre=>by
 have:s_.size=0:=rfl
 have:=(aT:wl ([]:List aA)=0∧_)
 have:=aA.wt_mk 0 s_ []
 have:=(aT:wl ([]:List aH)=0∧_)
 have:=(aT:wl ([]:List bM)=0∧_)
 have:=aH.wt_mk 1 s_ s_ pn (aA.mk 0 s_ []) [] []
 exact oS2
def AQ(fu:Nat):Prop:= ∀(ps:ByteArray),Ok (uO fu ps) (fun r=>wt r=ps.size∧IM r)
theorem fV:b5 AQ:=(b5.ge 2147483648).imp fun fu hfu ps=>by
 have:s_.size=0:=rfl
 have:=(aT:wl ([]:List aA)=0∧_)
 have:=aA.wt_mk 0 s_ []
 have:=(aT:wl ([]:List aH)=0∧_)
 have:=(aT:wl ([]:List bM)=0∧_)
 have:=aH.wt_mk 3 s_ ps 0 (aA.mk 0 s_ []) [] []
 exact oS2
def KV(fu:Nat):Prop:= ∀(pa pb:Int),Ok (qD fu pa pb) (fun r=>(pa≤pb∧r=pa)∨(pb≤pa∧r=pb))
theorem iV:b5 KV:=(b5.ge 2147483648).imp fun fu hfu pa pb=>by
 exact oD (fun _=>oS) fun g1=>oS
def ad4(fu:Nat):Prop:= ∀(pa0:aB),wt pa0≤67108864→Ok (g0 fu pa0) (fun r=>wt r≤2*wt pa0∧IM r)
def xN(n:Nat)(m:iI):Prop:= ∀(pa0:aB),2*wt pa0+1<n→wt pa0≤67108864→Ok (m pa0) (fun r=>wt r≤2*wt pa0∧IM r)
def vA(n:Nat)(m:gK):Prop:= ∀(plist:List aB),2*wl plist<n→wl plist≤67108864→Ok (m plist) (fun r=>wl r≤2*wl plist∧ ∀a∈r,IM a)
def AO(n:Nat)(m:jZ):Prop:= ∀(px:aB),2*wt px+1<n→wt px≤67108864→Ok (m px) (fun r=>wt r≤2*wt px∧IM r.gBody)
theorem acN{n fu:Nat}(hfu:2147483648≤fu)(mA:zA fu)(fL:AP fu)(fV:AQ fu)(iV:KV fu)(iB:QP fu)(iF:B3 fu){r_sl12Expr:iI}(h_sl12Expr:xN n r_sl12Expr){r_sl12Exprs:gK}(h_sl12Exprs:vA n r_sl12Exprs){r_sl12Arm:jZ}(h_sl12Arm:AO n r_sl12Arm):xN (n+1) (J8 fu r_sl12Expr r_sl12Exprs r_sl12Arm):=by
 intro pa0 hm hpre
 have:=aB.wt_eq pa0
 have:s_.size=0:=rfl
 refine oN (fun g1=>?_) fun g1=>?_
 ·have:=D3 g1
  refine tV (mA pa0.gAtom) fun x3 x4 h2=>?_
  dsimp only at h2
  refine oC (fun g3=>?_) fun g3=>?_
  ·exact O0 (fL x3 bV) fun x7 h4 h4B=>oS2
  have:pC.size=4:=rfl
  refine oD (fun g5=>?_) fun g5=>?_
  ·have:=congrArg ByteArray.size g5
   have:=(aT:wl ([]:List aA)=0∧_)
   have:=aA.wt_mk 0 s_ []
   have:=(aT:wl ([]:List aH)=0∧_)
   have:=(aT:wl ([]:List bM)=0∧_)
   have:=aH.wt_mk 2 s_ s_ 1 (aA.mk 0 s_ []) [] []
   exact oS2
  have:lY.size=5:=rfl
  refine oD (fun g6=>?_) fun g6=>?_
  ·have:=congrArg ByteArray.size g6
   have:=(aT:wl ([]:List aA)=0∧_)
   have:=aA.wt_mk 0 s_ []
   have:=(aT:wl ([]:List aH)=0∧_)
   have:=(aT:wl ([]:List bM)=0∧_)
   have:=aH.wt_mk 2 s_ s_ 0 (aA.mk 0 s_ []) [] []
   exact oS2
  exact O0 (fV pa0.gAtom) fun x11 h7 h7B=>oS2
 have:=(aT:wl ([]:List aB)=0∧_)
 have:=aY (pa0.gList)
 refine oG fun z8=>?_
 have:=b7 ([]:List aB) pa0.gList
 have:=aB.wt_mk s_ []
 have:=DJ (aB.mk s_ []) (aB.mk s_ []) (aB.mk s_ [])
 refine oG fun z9=>?_
 have:=b7 (([])++pa0.gList) ([(aB.mk s_ []),(aB.mk s_ []),(aB.mk s_ [])]:List aB)
 refine oG fun z10=>?_
 have:=aeW pa0.gList (aB.mk s_ []) (aB.mk s_ []) (aB.mk s_ []) 1 2 rfl
 refine Ok.lt fun y15 h11=>?_
 have:=congrArg wt h11
 refine oG fun z12=>?_
 have:=aeW pa0.gList (aB.mk s_ []) (aB.mk s_ []) (aB.mk s_ []) 0 1 rfl
 refine Ok.lt fun y18 h13=>?_
 have:=congrArg wt h13
 have:=aB.wt_eq y18
 have:N6.size=4:=rfl
 refine oD (fun g14=>?_) fun g14=>?_
 ·have:=congrArg ByteArray.size g14
  have:=aY pa0.gList
  refine oB (iV 2 (pa0.gList.length:Int)) fun x22 h15=>oG fun z16=>?_
  have:=w8 pa0.gList x22 2
  refine O0 (h_sl12Exprs (List.drop (x22:Int).toNat (List.take (pa0.gList.length:Int).toNat pa0.gList)) bV bV) fun x25 h17 h17B=>?_
  have:=aB.wt_eq y15
  have:=(aT:wl ([]:List aA)=0∧_)
  have:=aA.wt_mk 0 s_ []
  have:=(aT:wl ([]:List bM)=0∧_)
  have:=aH.wt_mk 4 s_ y15.gAtom 0 (aA.mk 0 s_ []) x25 []
  exact oS2
 have:oT.size=6:=rfl
 refine oD (fun g18=>?_) fun g18=>?_
 ·have:=congrArg ByteArray.size g18
  refine oG fun z19=>?_
  have:=aeW pa0.gList (aB.mk s_ []) (aB.mk s_ []) (aB.mk s_ []) 2 3 rfl
  refine Ok.lt fun y28 h20=>?_
  have:=congrArg wt h20
  have:=aY pa0.gList
  refine oB (iV 3 (pa0.gList.length:Int)) fun x31 h21=>oG fun z22=>?_
  have:=w8 pa0.gList x31 3
  refine O0 (h_sl12Exprs (List.drop (x31:Int).toNat (List.take (pa0.gList.length:Int).toNat pa0.gList)) bV bV) fun x34 h23 h23B=>?_
  have:=aB.wt_eq y15
  have:=aB.wt_eq y28
  have:=(aT:wl ([]:List aA)=0∧_)
  have:=aA.wt_mk 0 s_ []
  have:=(aT:wl ([]:List bM)=0∧_)
  have:=aH.wt_mk 5 y15.gAtom y28.gAtom 0 (aA.mk 0 s_ []) x34 []
  exact oS2
 have:DF.size=3:=rfl
 refine oD (fun g24=>?_) fun g24=>?_
 ·have:=congrArg ByteArray.size g24
  have:=aY pa0.gList
  refine oB (iV 2 (pa0.gList.length:Int)) fun x37 h25=>oG fun z26=>?_
  have:=w8 pa0.gList x37 2
  refine O0 (h_sl12Exprs (List.drop (x37:Int).toNat (List.take (pa0.gList.length:Int).toNat pa0.gList)) bV bV) fun x40 h27 h27B=>?_
  have:=aB.wt_eq y15
  have:=(aT:wl ([]:List aA)=0∧_)
  have:=aA.wt_mk 0 s_ []
  have:=(aT:wl ([]:List bM)=0∧_)
  have:=aH.wt_mk 6 s_ y15.gAtom 0 (aA.mk 0 s_ []) x40 []
  exact oS2
 have:DE.size=3:=rfl
 refine oD (fun g28=>?_) fun g28=>?_
 ·have:=congrArg ByteArray.size g28
  have:=aY pa0.gList
  refine oB (iV 2 (pa0.gList.length:Int)) fun x43 h29=>oG fun z30=>?_
  have:=w8 pa0.gList x43 2
  refine O0 (h_sl12Exprs (List.drop (x43:Int).toNat (List.take (pa0.gList.length:Int).toNat pa0.gList)) bV bV) fun x46 h31 h31B=>?_
  have:=aB.wt_eq y15
  have:=(aT:wl ([]:List aA)=0∧_)
  have:=aA.wt_mk 0 s_ []
  have:=(aT:wl ([]:List bM)=0∧_)
  have:=aH.wt_mk 8 s_ y15.gAtom 0 (aA.mk 0 s_ []) x46 []
  exact oS2
 have:CS.size=2:=rfl
 refine oD (fun g32=>?_) fun g32=>?_
 ·have:=congrArg ByteArray.size g32
  have:=aY pa0.gList
  refine oG fun z33=>?_
  have:=w8 pa0.gList 1 1
  refine O0 (h_sl12Exprs (List.drop (1:Int).toNat (List.take (pa0.gList.length:Int).toNat pa0.gList)) bV bV) fun x50 h34 h34B=>?_
  have:=(aT:wl ([]:List aA)=0∧_)
  have:=aA.wt_mk 0 s_ []
  have:=(aT:wl ([]:List bM)=0∧_)
  have:=aH.wt_mk 9 s_ s_ 0 (aA.mk 0 s_ []) x50 []
  exact oS2
 have:wI.size=4:=rfl
 refine oD (fun g35=>?_) fun g35=>?_
 ·have:=congrArg ByteArray.size g35
  have:=aY pa0.gList
  refine oB (iV 2 (pa0.gList.length:Int)) fun x53 h36=>oG fun z37=>?_
  have:=w8 pa0.gList x53 2
  refine O0 (h_sl12Exprs (List.drop (x53:Int).toNat (List.take (pa0.gList.length:Int).toNat pa0.gList)) bV bV) fun x56 h38 h38B=>?_
  have:=aB.wt_eq y15
  have:=(aT:wl ([]:List aA)=0∧_)
  have:=aA.wt_mk 0 s_ []
  have:=(aT:wl ([]:List bM)=0∧_)
  have:=aH.wt_mk 11 y15.gAtom s_ 0 (aA.mk 0 s_ []) x56 []
  exact oS2
 have:WP.size=3:=rfl
 refine oD (fun g39=>?_) fun g39=>?_
 ·have:=congrArg ByteArray.size g39
  refine oB (iB y15 bV) fun x59 h40=>?_
  have:=aY pa0.gList
  refine oB (iV 2 (pa0.gList.length:Int)) fun x61 h41=>oG fun z42=>?_
  have:=w8 pa0.gList x61 2
  refine O0 (h_sl12Exprs (List.drop (x61:Int).toNat (List.take (pa0.gList.length:Int).toNat pa0.gList)) bV bV) fun x64 h43 h43B=>?_
  have:=(aT:wl ([]:List bM)=0∧_)
  have:=aH.wt_mk 12 s_ s_ 0 x59 x64 []
  exact oS2
 have:wH.size=4:=rfl
 refine oD (fun g44=>?_) fun g44=>?_
 ·have:=congrArg ByteArray.size g44
  have:=aY pa0.gList
  refine oB (iV 2 (pa0.gList.length:Int)) fun x67 h45=>oG fun z46=>?_
  have:=amR pa0.gList x67
  refine O0 (h_sl12Exprs (List.drop (1:Int).toNat (List.take (x67:Int).toNat pa0.gList)) bV bV) fun x70 h47 h47B=>?_
  have:=(aT:wl ([]:List bM)=0∧_)
  refine amQ (PA:=fun a=>IM a.gBody) pa0.gList 2 (fun i71 v73 hl49 hI50 hI50B _ _=>?_) ?_
  ·have:=cR pa0.gList i71 hl49
   refine O0 (h_sl12Arm (bB pa0.gList i71) bV bV) fun x77 h51 h51B=>?_
   have:=aY (v73)
   have:=cG x77
   refine oG fun z52=>?_
   have:=b7 v73 ([x77]:List bM)
   exact oX hI50B
  rintro v73 ⟨h48,h48B⟩
  have:=(aT:wl ([]:List aA)=0∧_)
  have:=aA.wt_mk 0 s_ []
  have:=aH.wt_mk 7 s_ s_ 0 (aA.mk 0 s_ []) x70 v73
  exact oS2
 have:=aY pa0.gList
 refine oB (iV 1 (pa0.gList.length:Int)) fun x80 h53=>oG fun z54=>?_
 have:=w8 pa0.gList x80 1
 refine O0 (h_sl12Exprs (List.drop (x80:Int).toNat (List.take (pa0.gList.length:Int).toNat pa0.gList)) bV bV) fun x83 h55 h55B=>?_
 have:=(aT:wl ([]:List aA)=0∧_)
 have:=aA.wt_mk 0 s_ []
 have:=(aT:wl ([]:List bM)=0∧_)
 have:=aH.wt_mk 10 s_ y18.gAtom 0 (aA.mk 0 s_ []) x83 []
 exact oS2
theorem YW{n fu:Nat}(hfu:2147483648≤fu)(mA:zA fu)(fL:AP fu)(fV:AQ fu)(iV:KV fu)(iB:QP fu)(iF:B3 fu){r_sl12Expr:iI}(h_sl12Expr:xN n r_sl12Expr){r_sl12Exprs:gK}(h_sl12Exprs:vA n r_sl12Exprs){r_sl12Arm:jZ}(h_sl12Arm:AO n r_sl12Arm):vA (n+1) (EY fu r_sl12Expr r_sl12Exprs r_sl12Arm):=by
 intro plist hm hpre
 have:=(aT:wl ([]:List aH)=0∧_)
 refine amQ (PA:=fun a=>IM a) plist 2 (fun i1 v3 hl2 hI3 hI3B _ _=>?_) ?_
 ·have:=aY plist
  have:=cR plist i1 hl2
  refine O0 (h_sl12Expr (bB plist i1) bV bV) fun x7 h4 h4B=>?_
  have:=aY (v3)
  have:=cG x7
  refine oG fun z5=>?_
  have:=b7 v3 ([x7]:List aH)
  exact oX hI3B
 rintro v3 ⟨h1,h1B⟩
 exact oS2
theorem afG{n fu:Nat}(hfu:2147483648≤fu)(mA:zA fu)(fL:AP fu)(fV:AQ fu)(iV:KV fu)(iB:QP fu)(iF:B3 fu){r_sl12Expr:iI}(h_sl12Expr:xN n r_sl12Expr){r_sl12Exprs:gK}(h_sl12Exprs:vA n r_sl12Exprs){r_sl12Arm:jZ}(h_sl12Arm:AO n r_sl12Arm):AO (n+1) (OA fu r_sl12Expr r_sl12Exprs r_sl12Arm):=by
 intro px hm hpre
 have:=aB.wt_eq px
 have:=aY px.gList
 refine oD (fun g1=>?_) fun g1=>?_
 ·have:s_.size=0:=rfl
  have:=(aT:wl ([]:List aA)=0∧_)
  have:=aA.wt_mk 0 s_ []
  have:=(aT:wl ([]:List aH)=0∧_)
  have:=(aT:wl ([]:List bM)=0∧_)
  have:=aH.wt_mk 0 s_ s_ 0 (aA.mk 0 s_ []) [] []
  have:=(aT:wl ([]:List ByteArray)=0∧_)
  have:=bM.wt_mk s_ [] (aH.mk 0 s_ s_ 0 (aA.mk 0 s_ []) [] [])
  exact oS2
 have:=eZ ((px.gList.length:Int)-1)
 refine oG fun z2=>?_
 have:=RD (1:Int).toNat (aQ ((px.gList.length:Int)-1):Int).toNat px.gList
 have:=aoF px.gList (aQ ((px.gList.length:Int)-1):Int).toNat
 have:=IL px.gList (aQ ((px.gList.length:Int)-1):Int).toNat
 have:=jA px.gList ((aQ ((px.gList.length:Int)-1):Int).toNat+1)
 refine tV (iF (List.drop (1:Int).toNat (List.take (aQ ((px.gList.length:Int)-1):Int).toNat px.gList)) bV) fun x4 x5 h3=>?_
 dsimp only at h3
 have:=aY (px.gList)
 refine oG fun z4=>oG fun z5=>?_
 have:=cR px.gList ((aQ ((px.gList.length:Int)-1)).toNat) z5.2
 refine Ok.lt fun y8 h6=>?_
 have:=congrArg wt h6
 refine O0 (h_sl12Expr y8 bV bV) fun x11 h7 h7B=>?_
 have:=cR px.gList 0 z4
 have:wl (List.take 1 px.gList)=wl (List.take 0 px.gList)+wt (bB px.gList 0)+1:=IL px.gList 0 z4
 have:=aB.wt_eq (bB px.gList 0)
 have:=bM.wt_mk ((bB px.gList 0).gAtom) x4 x11
 exact oS2
theorem afH(n:Nat):b5 fun fu=>xN n (g0 fu)∧vA n (kM fu)∧AO n (nJ fu):=by
 induction n with
 |zero=>exact .all fun fu=>⟨fun _ h=>absurd h (Nat.not_lt_zero _),fun _ h=>absurd h (Nat.not_lt_zero _),fun _ h=>absurd h (Nat.not_lt_zero _)⟩
 |succ n ih=>exact b5.succ ((ih.and (((((((b5.ge 2147483648).and mA).and fL).and fV).and iV).and iB).and iF)).imp fun fu ⟨h,⟨⟨⟨⟨⟨⟨hfu,mA⟩,fL⟩,fV⟩,iV⟩,iB⟩,iF⟩⟩=>⟨fun pa0=>by rw [g0];exact acN hfu mA fL fV iV iB iF h.1 h.2.1 h.2.2 pa0,fun plist=>by rw [kM];exact YW hfu mA fL fV iV iB iF h.1 h.2.1 h.2.2 plist,fun px=>by rw [nJ];exact afG hfu mA fL fV iV iB iF h.1 h.2.1 h.2.2 px⟩)
theorem nV:b5 ad4:=(afH 8589934592).imp fun fu h pa0 hpre=>h.1 pa0 bV hpre
def akG(fu:Nat):Prop:= ∀(pa0:aH),wt pa0≤2097152→(IM pa0)→Ok (mD fu pa0) (fun r=>wt r+8≤32*(wt pa0+1))
def KR(n:Nat)(m:oU):Prop:= ∀(pa0:aH),2*wt pa0+1<n→wt pa0≤2097152→(IM pa0)→Ok (m pa0) (fun r=>wt r+8≤32*(wt pa0+1))
def BY(n:Nat)(m:k7):Prop:= ∀(phead:List aB) (plist:List aH),2*wl plist<n→wl phead≤33554432∧wl plist≤2097152→(∀a∈plist,IM a)→Ok (m phead plist) (fun r=>wt r≤wl phead+32*wl plist)
theorem ajM{n fu:Nat}(hfu:2147483648≤fu)(l9:BZ fu)(bS:FJ fu)(iP:XB fu)(mN:I1 fu){r_sl12Sx:oU}(h_sl12Sx:KR n r_sl12Sx){r_sl12Args:k7}(h_sl12Args:BY n r_sl12Args):KR (n+1) (TJ fu r_sl12Sx r_sl12Args):=by
 intro pa0 hm hpre hB
 have hN:=hB.num
 have:=aH.wt_eq pa0
 refine oD (fun g1=>?_) fun g1=>?_
 ·exact oB (l9 pa0.gN bV) fun x3 h2=>oB (bS x3) fun x5 h3=>oS
 refine oD (fun g4=>?_) fun g4=>?_
 ·have:lY.size=5:=rfl
  have:pC.size=4:=rfl
  have:=kX lY pC
  have:=bA lY
  have:=bA pC
  refine oG fun z5=>?_
  have:=cR ([lY,pC]:List ByteArray) ((pa0.gN).toNat) z5.2
  have:=bA (bB ([lY,pC]:List ByteArray) ((pa0.gN).toNat))
  exact oB (bS (bB ([lY,pC]:List ByteArray) ((pa0.gN).toNat))) fun x9 h6=>oS
 refine oD (fun g7=>?_) fun g7=>?_
 ·exact oB (bS pa0.gName) fun x12 h8=>oS
 refine oD (fun g9=>?_) fun g9=>?_
 ·have:N6.size=4:=rfl
  refine oB (bS N6) fun x15 h10=>oB (bS pa0.gName) fun x17 h11=>?_
  have:=kX x15 x17
  refine oB (h_sl12Args ([x15,x17]:List aB) pa0.gArgs bV bV (by exact hB.arg)) fun x19 h12=>?_
  have:=aB.wt_eq x19
  have:=aB.wt_mk x19.gAtom x19.gList
  exact oS
 refine oD (fun g13=>?_) fun g13=>?_
 ·have:oT.size=6:=rfl
  refine oB (bS oT) fun x22 h14=>oB (bS pa0.gTrait) fun x24 h15=>oB (bS pa0.gName) fun x26 h16=>?_
  have:=DJ x22 x24 x26
  refine oB (h_sl12Args ([x22,x24,x26]:List aB) pa0.gArgs bV bV (by exact hB.arg)) fun x28 h17=>?_
  have:=aB.wt_eq x28
  have:=aB.wt_mk x28.gAtom x28.gList
  exact oS
 refine oD (fun g18=>?_) fun g18=>?_
 ·have:DF.size=3:=rfl
  refine oB (bS DF) fun x31 h19=>oB (bS pa0.gName) fun x33 h20=>?_
  have:=kX x31 x33
  refine oB (h_sl12Args ([x31,x33]:List aB) pa0.gArgs bV bV (by exact hB.arg)) fun x35 h21=>?_
  have:=aB.wt_eq x35
  have:=aB.wt_mk x35.gAtom x35.gList
  exact oS
 refine oD (fun g22=>?_) fun g22=>?_
 ·have:DE.size=3:=rfl
  refine oB (bS DE) fun x38 h23=>oB (bS pa0.gName) fun x40 h24=>?_
  have:=kX x38 x40
  refine oB (h_sl12Args ([x38,x40]:List aB) pa0.gArgs bV bV (by exact hB.arg)) fun x42 h25=>?_
  have:=aB.wt_eq x42
  have:=aB.wt_mk x42.gAtom x42.gList
  exact oS
 refine oD (fun g26=>?_) fun g26=>?_
 ·have:CS.size=2:=rfl
  refine oB (bS CS) fun x45 h27=>?_
  have:=cG x45
  refine oB (h_sl12Args ([x45]:List aB) pa0.gArgs bV bV (by exact hB.arg)) fun x47 h28=>?_
  have:=aB.wt_eq x47
  have:=aB.wt_mk x47.gAtom x47.gList
  exact oS
 refine oD (fun g29=>?_) fun g29=>?_
 ·refine oB (bS pa0.gName) fun x50 h30=>?_
  have:=cG x50
  refine oB (h_sl12Args ([x50]:List aB) pa0.gArgs bV bV (by exact hB.arg)) fun x52 h31=>?_
  have:=aB.wt_eq x52
  have:=aB.wt_mk x52.gAtom x52.gList
  exact oS
 refine oD (fun g32=>?_) fun g32=>?_
 ·have:wI.size=4:=rfl
  refine oB (bS wI) fun x55 h33=>oB (bS pa0.gTrait) fun x57 h34=>?_
  have:=kX x55 x57
  refine oB (h_sl12Args ([x55,x57]:List aB) pa0.gArgs bV bV (by exact hB.arg)) fun x59 h35=>?_
  have:=aB.wt_eq x59
  have:=aB.wt_mk x59.gAtom x59.gList
  exact oS
 refine oD (fun g36=>?_) fun g36=>?_
 ·have:WP.size=3:=rfl
  refine oB (bS WP) fun x62 h37=>oB (iP pa0.gType bV) fun x64 h38=>?_
  have:=kX x62 x64
  refine oB (h_sl12Args ([x62,x64]:List aB) pa0.gArgs bV bV (by exact hB.arg)) fun x66 h39=>?_
  have:=aB.wt_eq x66
  have:=aB.wt_mk x66.gAtom x66.gList
  exact oS
 have:wH.size=4:=rfl
 refine oB (bS wH) fun x68 h40=>?_
 have:=cG x68
 refine oB (h_sl12Args ([x68]:List aB) pa0.gArgs bV bV (by exact hB.arg)) fun x70 h41=>?_
 have:=aB.wt_eq x70
 refine NH pa0.gArms 32 (fun i71 v73 hl43 hI44 _ _=>?_) ?_
 ·have:=aY pa0.gArms
  have:=cR pa0.gArms i71 hl43
  refine Ok.lt fun y76 h45=>?_
  have:=congrArg wt h45
  have:=bM.wt_eq y76
  refine oB (bS y76.gConstructor) fun x79 h46=>oB (mN y76.gVars bV) fun x81 h47=>?_
  have:=cG x79
  have:=aY (x81)
  refine oG fun z48=>oB (h_sl12Sx y76.gBody bV bV (by rw [show y76=bB pa0.gArms i71 by assumption];exact XE hB.arm (by assumption))) fun x84 h49=>?_
  have:=b7 ([x79]:List aB) x81
  have:=cG x84
  refine oG fun z50=>?_
  have:=aY (v73)
  have:s_.size=0:=rfl
  have:=b7 (([x79]:List aB)++x81) ([x84]:List aB)
  have:=aB.wt_mk s_ ((([x79]:List aB)++x81)++([x84]:List aB))
  have:=cG (aB.mk s_ ((([x79]:List aB)++x81)++([x84]:List aB)))
  refine oG fun z51=>?_
  have:=b7 v73 ([(aB.mk s_ ((([x79]:List aB)++x81)++([x84]:List aB)))]:List aB)
  exact nX
 intro v73 h42
 have:=aB.wt_mk x70.gAtom v73
 exact oS
theorem acK{n fu:Nat}(hfu:2147483648≤fu)(l9:BZ fu)(bS:FJ fu)(iP:XB fu)(mN:I1 fu){r_sl12Sx:oU}(h_sl12Sx:KR n r_sl12Sx){r_sl12Args:k7}(h_sl12Args:BY n r_sl12Args):BY (n+1) (J7 fu r_sl12Sx r_sl12Args):=by
 intro phead plist hm hpre hB
 refine NH plist 32 (fun i1 v3 hl2 hI3 _ _=>?_) ?_
 ·have:=aY plist
  have:=cR plist i1 hl2
  refine Ok.lt fun y6 h4=>?_
  have:=congrArg wt h4
  refine oB (h_sl12Sx y6 bV bV (by rw [show y6=bB plist i1 by assumption];exact XE hB (by assumption))) fun x9 h5=>?_
  have:=aY (v3)
  have:=cG x9
  refine oG fun z6=>?_
  have:=b7 v3 ([x9]:List aB)
  exact nX
 intro v3 h1
 have:s_.size=0:=rfl
 have:=aB.wt_mk s_ v3
 exact oS
theorem alI(n:Nat):b5 fun fu=>KR n (mD fu)∧BY n (n8 fu):=by
 induction n with
 |zero=>exact .all fun fu=>⟨fun _ h=>absurd h (Nat.not_lt_zero _),fun _ _ h=>absurd h (Nat.not_lt_zero _)⟩
 |succ n ih=>exact b5.succ ((ih.and (((((b5.ge 2147483648).and l9).and bS).and iP).and mN)).imp fun fu ⟨h,⟨⟨⟨⟨hfu,l9⟩,bS⟩,iP⟩,mN⟩⟩=>⟨fun pa0=>by rw [mD];exact ajM hfu l9 bS iP mN h.1 h.2 pa0,fun phead plist=>by rw [n8];exact acK hfu l9 bS iP mN h.1 h.2 phead plist⟩)
theorem tJ:b5 akG:=(alI 8589934592).imp fun fu h pa0 hpre hB=>h.1 pa0 bV hpre hB
end Go.Proofs.YtpioomclpaiomaaGreat.W

namespace Go.Proofs.YtpioomclpaiomaaGreat.W
set_option linter.unusedSimpArgs false
set_option linter.unusedVariables false
set_option maxRecDepth 20000
set_option maxHeartbeats 4000000
open Go.RowKit Go.WalkArith Go.IntWalk
attribute [local irreducible] wt wl
def ad3(fu:Nat):Prop:= ∀(pe:aH) (pleft:Int),wt pe≤1073741824→Ok (mU fu pe pleft) (fun _=>True)
def IR(n:Nat)(m:n7):Prop:= ∀(pe:aH) (pleft:Int),wt pe<n→wt pe≤1073741824→Ok (m pe pleft) (fun _=>True)
theorem acE{n fu:Nat}(hfu:2147483648≤fu){r_sl11Left:n7}(h_sl11Left:IR n r_sl11Left):IR (n+1) (J5 fu r_sl11Left):=by
 intro pe pleft hm hpre
 refine oEN (fun i1 v2 hl2=>?_) ?_
 ·have:=aH.wt_eq pe
  have:=aY pe.gArgs
  refine oD (fun g4=>?_) fun g4=>?_
  ·have:=cR pe.gArgs i1 hl2
   refine Ok.lt fun y6 h5=>?_
   have:=congrArg wt h5
   exact oB (h_sl11Left y6 v2 bV bV) fun x9 _=>nX
  exact oK
 intro v2 _
 refine oEN (fun i10 v11 hl8=>?_) ?_
 ·have:=aH.wt_eq pe
  have:=aY pe.gArms
  refine oD (fun g10=>?_) fun g10=>?_
  ·have:=cR pe.gArms i10 hl8
   refine Ok.lt fun y15 h11=>?_
   have:=congrArg wt h11
   have:=bM.wt_eq y15
   exact oB (h_sl11Left y15.gBody v11 bV bV) fun x18 _=>nX
  exact oK
 intro v11 _
 exact oS
theorem afD(n:Nat):b5 fun fu=>IR n (mU fu):=by
 induction n with
 |zero=>exact .all fun fu=>fun _ _ h=>absurd h (Nat.not_lt_zero _)
 |succ n ih=>exact b5.succ ((ih.and (b5.ge 2147483648)).imp fun fu ⟨h,hfu⟩=>fun pe pleft=>by rw [mU];exact acE hfu h pe pleft)
theorem JC:b5 ad3:=(afD 8589934592).imp fun fu h pe pleft hpre=>h pe pleft bV hpre
def V5(fu:Nat):Prop:= ∀(pk:Int),Ok (N9 fu pk) (fun _=>True)
theorem BE:b5 V5:=(b5.ge 2147483648).imp fun fu hfu pk=>by
 refine DL ?_ ?_
 ·exact oD (fun _=>oI) fun g2=>oI
 intro v1 _
 refine oC (fun _=>oS) fun g3=>oD (fun _=>oS) fun g4=>?_;refine DL ?_ ?_
 ·exact oD (fun _=>oI) fun g6=>oI
 intro v5 _
 refine oC (fun _=>oS) fun g7=>oD (fun _=>oS) fun g8=>oD (fun _=>oS) fun g9=>?_;refine DL ?_ ?_
 ·exact oD (fun _=>oI) fun g11=>oI
 intro v10 _
 exact oC (fun _=>oS) fun g12=>oD (fun _=>oS) fun g13=>oD (fun _=>oS) fun g14=>oS
def RH(fu:Nat):Prop:= ∀(ps:ByteArray),Ok (J6 fu ps) (fun _=>True)
theorem yB:b5 RH:=((b5.ge 2147483648).and eA).imp fun fu ⟨hfu,eA⟩ ps=>by
 have:yZ.size=1:=rfl
 have:DV.size=1:=rfl
 have:MF.size=1:=rfl
 have:MG.size=1:=rfl
 have:MH.size=1:=rfl
 have:=ao5 yZ DV MF MG MH
 have:=bA yZ
 have:=bA DV
 have:=bA MF
 have:=bA MG
 have:=bA MH
 exact oB (eA ([yZ,DV,MF,MG,MH]:List ByteArray) ps) fun x2 _=>oS
def RI(fu:Nat):Prop:= ∀(pt:aA),Ok (sK fu pt) (fun _=>True)
theorem lS:b5 RI:=(b5.ge 2147483648).imp fun fu hfu pt=>by
 refine oD (fun g1=>?_) fun g1=>?_
 ·exact oD (fun _=>oS) fun g2=>oS
 exact oS
def ad0(fu:Nat):Prop:= ∀(pa0:aH),wt pa0≤1073741824→Ok (mR fu pa0) (fun _=>True)
def IP(n:Nat)(m:jY):Prop:= ∀(pa0:aH),wt pa0<n→wt pa0≤1073741824→Ok (m pa0) (fun _=>True)
theorem ab1{n fu:Nat}(hfu:2147483648≤fu)(BE:V5 fu)(qL:ag8 fu)(bP:xO fu)(yB:RH fu)(eT:D1 fu)(lS:RI fu)(pY:RL fu)(eS:DY fu){r_sl11Form:jY}(h_sl11Form:IP n r_sl11Form):IP (n+1) (J3 fu r_sl11Form):=by
 intro pa0 hm hpre
 have:=aH.wt_eq pa0
 refine oB6 (BE pa0.gKind) fun x2 x3 x4 x5 x6 x7 _=>?_;refine DL ?_ ?_
 ·refine oB (qL pa0.gKind 1 12) fun x9 _=>oW (fun _=>oL) fun g4=>oB (bP pa0.gTrait) fun x12 _=>oN (fun _=>oL) fun g6=>?_;refine oW (fun g7=>?_) fun g7=>?_
  ·refine oN (fun _=>oL) fun g8=>?_;refine oW (fun g9=>?_) fun g9=>?_
   ·exact oN (fun _=>oL) fun g10=>oN (fun _=>oL) fun g11=>oI
   exact oN (fun _=>oL) fun g12=>oI
  refine oW (fun g13=>?_) fun g13=>?_
  ·exact oN (fun _=>oL) fun g14=>oN (fun _=>oL) fun g15=>oI
  exact oN (fun _=>oL) fun g16=>oI
 rintro⟨⟩-
 refine DL ?_ ?_
 ·refine oD (fun g18=>?_) fun g18=>?_
  ·refine oB (yB pa0.gName) fun x26 _=>oW (fun _=>oL) fun g20=>?_;refine oN (fun g21=>?_) fun g21=>?_
   ·refine oB (bP pa0.gName) fun x30 _=>oN (fun _=>oL) fun g23=>?_;refine oW (fun g24=>?_) fun g24=>?_
    ·exact oN (fun _=>oL) fun g25=>oI
    exact oI
   exact oI
  refine oN (fun g26=>?_) fun g26=>?_
  ·refine oB (bP pa0.gName) fun x36 _=>oN (fun _=>oL) fun g28=>?_;refine oW (fun g29=>?_) fun g29=>?_
   ·exact oN (fun _=>oL) fun g30=>oI
   exact oI
  exact oI
 rintro⟨⟩-
 refine DL ?_ ?_
 ·refine oD (fun g32=>?_) fun g32=>?_
  ·have:=aY pa0.gArgs
   refine oN (fun _=>oL) fun g33=>?_;refine oD (fun g34=>?_) fun g34=>?_
   ·refine oD (fun _=>oL) fun g35=>?_;refine oC (fun g36=>?_) fun g36=>?_
    ·exact oB (eT pa0.gType bV) fun x46 _=>oW (fun _=>oL) fun g38=>oI
    exact oB (lS pa0.gType) fun x49 _=>oW (fun _=>oL) fun g40=>oI
   refine oC (fun g41=>?_) fun g41=>?_
   ·exact oB (eT pa0.gType bV) fun x53 _=>oW (fun _=>oL) fun g43=>oI
   exact oB (lS pa0.gType) fun x56 _=>oW (fun _=>oL) fun g45=>oI
  refine oD (fun g46=>?_) fun g46=>?_
  ·have:=aY pa0.gArgs
   refine oD (fun _=>oL) fun g47=>?_;refine oC (fun g48=>?_) fun g48=>?_
   ·exact oB (eT pa0.gType bV) fun x62 _=>oW (fun _=>oL) fun g50=>oI
   exact oB (lS pa0.gType) fun x65 _=>oW (fun _=>oL) fun g52=>oI
  refine oC (fun g53=>?_) fun g53=>?_
  ·exact oB (eT pa0.gType bV) fun x69 _=>oW (fun _=>oL) fun g55=>oI
  exact oB (lS pa0.gType) fun x72 _=>oW (fun _=>oL) fun g57=>oI
 rintro⟨⟩-
 refine DL ?_ ?_
 ·refine oD (fun g59=>?_) fun g59=>?_
  ·exact oB (qL pa0.gN (-999999) 999999) fun x76 _=>oW (fun _=>oL) fun g61=>oI
  refine oD (fun g62=>?_) fun g62=>?_
  ·exact oB (qL pa0.gN 0 1) fun x80 _=>oW (fun _=>oL) fun g64=>oI
  exact oI
 rintro⟨⟩-
 refine DL ?_ ?_
 ·refine Ok.loop1 ?_;rintro i82 ⟨⟩ hl66
  have:=aY pa0.gArgs
  have:=cR pa0.gArgs i82 hl66
  refine Ok.lt fun y85 h68=>?_
  have:=congrArg wt h68
  exact oB (h_sl11Form y85 bV bV) fun x88 _=>oW (fun _=>oR) fun g70=>nX
 rintro⟨⟩-
 refine DL ?_ ?_
 ·refine Ok.loop1 ?_;rintro i90 ⟨⟩ hl72
  have:=aY pa0.gArms
  have:=cR pa0.gArms i90 hl72
  refine Ok.lt fun y93 h74=>?_
  have:=congrArg wt h74
  have:=bM.wt_eq y93
  exact oB (bP y93.gConstructor) fun x96 _=>oW (fun _=>oR) fun g76=>oB (pY y93.gVars) fun x99 _=>oW (fun _=>oR) fun g78=>oB (eS y93.gVars) fun x102 _=>oW (fun _=>oR) fun g80=>oB (h_sl11Form y93.gBody bV bV) fun x105 _=>oW (fun _=>oR) fun g82=>nX
 rintro⟨⟩-
 exact oS
theorem ae7(n:Nat):b5 fun fu=>IP n (mR fu):=by
 induction n with
 |zero=>exact .all fun fu=>fun _ h=>absurd h (Nat.not_lt_zero _)
 |succ n ih=>exact b5.succ ((ih.and (((((((((b5.ge 2147483648).and BE).and qL).and bP).and yB).and eT).and lS).and pY).and eS)).imp fun fu ⟨h,⟨⟨⟨⟨⟨⟨⟨⟨hfu,BE⟩,qL⟩,bP⟩,yB⟩,eT⟩,lS⟩,pY⟩,eS⟩⟩=>fun pa0=>by rw [mR];exact ab1 hfu BE qL bP yB eT lS pY eS h pa0)
theorem JA:b5 ad0:=(ae7 8589934592).imp fun fu h pa0 hpre=>h pa0 bV hpre
def RG(fu:Nat):Prop:= ∀(pe:aH),wt pe≤1073741824→Ok (yL fu pe) (fun _=>True)
theorem yA:b5 RG:=(((b5.ge 2147483648).and JC).and JA).imp fun fu ⟨⟨hfu,JC⟩,JA⟩ pe hpre=>by
 refine oB (JC pe 300 bV) fun x2 _=>?_;refine oD (fun g2=>?_) fun g2=>?_
 ·exact oB (JA pe bV) fun x5 _=>oS
 exact oS
def OR(fu:Nat):Prop:= ∀(pa pb:List ByteArray),Ok (EW fu pa pb) (fun _=>True)
theorem vH:b5 OR:=(b5.ge 2147483648).imp fun fu hfu pa pb=>by
 have:=aY pa
 have:=aY pb
 refine oN (fun _=>oS) fun g1=>?_;refine DL ?_ ?_
 ·refine Ok.loop1 ?_;rintro i2 ⟨⟩ hl3
  have:=aY (pb)
  exact oG fun z5=>oN (fun _=>oR) fun g6=>nX
 rintro⟨⟩-
 exact oS
def W7(fu:Nat):Prop:= ∀(pa0 pa1:aH),wt pa0≤536870912→Ok (j9 fu pa0 pa1) (fun _=>True)
def BW(n:Nat)(m:lH):Prop:= ∀(pa0 pa1:aH),wt pa0<n→wt pa0≤536870912→Ok (m pa0 pa1) (fun _=>True)
theorem VE{n fu:Nat}(hfu:2147483648≤fu)(tG:KS fu)(vH:OR fu){r_sEqualExpr:lH}(h_sEqualExpr:BW n r_sEqualExpr):BW (n+1) (CP fu r_sEqualExpr):=by
 intro pa0 pa1 hm hpre
 have:=aH.wt_eq pa0
 have:=aH.wt_eq pa1
 refine oN (fun _=>oS) fun g1=>oN (fun _=>oS) fun g2=>oN (fun _=>oS) fun g3=>oN (fun _=>oS) fun g4=>oB (tG pa0.gType pa1.gType bV) fun x6 _=>oW (fun _=>oS) fun g6=>?_
 have:=aY pa0.gArgs
 have:=aY pa1.gArgs
 refine oN (fun _=>oS) fun g7=>?_
 have:=aY pa0.gArms
 have:=aY pa1.gArms
 refine oN (fun _=>oS) fun g8=>?_;refine DL ?_ ?_
 ·refine Ok.loop1 ?_;rintro i10 ⟨⟩ hl10
  have:=cR pa0.gArgs i10 hl10
  refine Ok.lt fun y13 h12=>?_
  have:=congrArg wt h12
  have:=aY (pa1.gArgs)
  refine oG fun z13=>?_
  have:=cR pa1.gArgs i10 z13
  refine Ok.lt fun y16 h14=>?_
  have:=congrArg wt h14
  exact oB (h_sEqualExpr y13 y16 bV bV) fun x19 _=>oW (fun _=>oR) fun g16=>nX
 rintro⟨⟩-
 refine DL ?_ ?_
 ·refine Ok.loop1 ?_;rintro i21 ⟨⟩ hl18
  have:=cR pa0.gArms i21 hl18
  refine Ok.lt fun y24 h20=>?_
  have:=congrArg wt h20
  have:=aY (pa1.gArms)
  refine oG fun z21=>?_
  have:=cR pa1.gArms i21 z21
  refine Ok.lt fun y27 h22=>?_
  have:=congrArg wt h22
  have:=bM.wt_eq y24
  have:=bM.wt_eq y27
  exact oN (fun _=>oR) fun g23=>oB (vH y24.gVars y27.gVars) fun x31 _=>oW (fun _=>oR) fun g25=>oB (h_sEqualExpr y24.gBody y27.gBody bV bV) fun x34 _=>oW (fun _=>oR) fun g27=>nX
 rintro⟨⟩-
 exact oS
theorem YB(n:Nat):b5 fun fu=>BW n (j9 fu):=by
 induction n with
 |zero=>exact .all fun fu=>fun _ _ h=>absurd h (Nat.not_lt_zero _)
 |succ n ih=>exact b5.succ ((ih.and (((b5.ge 2147483648).and tG).and vH)).imp fun fu ⟨h,⟨⟨hfu,tG⟩,vH⟩⟩=>fun pa0 pa1=>by rw [j9];exact VE hfu tG vH h pa0 pa1)
theorem CG:b5 W7:=(YB 8589934592).imp fun fu h pa0 pa1 hpre=>h pa0 pa1 bV hpre
def ad1(fu:Nat):Prop:= ∀(pa0:aH) (pa1 pa2:List ByteArray),wl pa1+wl pa2+2*wt pa0≤134217728→Ok (mS fu pa0 pa1 pa2) (fun r=>wl r≤wl pa2+wt pa0+1)
def IQ(n:Nat)(m:mT):Prop:= ∀(pa0:aH) (pa1 pa2:List ByteArray),wt pa0<n→wl pa1+wl pa2+2*wt pa0≤134217728→Ok (m pa0 pa1 pa2) (fun r=>wl r≤wl pa2+wt pa0+1)
theorem ab8{n fu:Nat}(hfu:2147483648≤fu)(eA:RJ fu){r_sl11Free:mT}(h_sl11Free:IQ n r_sl11Free):IQ (n+1) (J4 fu r_sl11Free):=by
 intro pa0 pa1 pa2 hm hpre
 have:=aH.wt_eq pa0
 refine Ok.sok (E:=fun v2=>wl v2+wl pa0.gArgs+wl pa0.gArms≤wl pa2+wt pa0+1) ?_ ?_
 ·refine oD (fun g2=>?_) fun g2=>?_
  ·refine oB (eA pa1 pa0.gName) fun x5 _=>?_;refine oW (fun g4=>?_) fun g4=>?_
   ·refine oB (eA pa2 pa0.gName) fun x8 _=>?_;refine oW (fun g6=>?_) fun g6=>?_
    ·have:=aY (pa2)
     have:=cG pa0.gName
     have:=bA pa0.gName
     refine oG fun z7=>?_
     have:=b7 pa2 ([pa0.gName]:List ByteArray)
     exact oI
    exact oI
   exact oI
  exact oI
 intro v2 h1
 refine NH pa0.gArgs 1 (fun i11 v13 hl9 hI10 _ _=>?_) ?_
 ·have:=aY pa0.gArgs
  refine oD (fun g11=>?_) fun g11=>?_
  ·refine oD (fun g12=>?_) fun g12=>?_
   ·have:=(aT:wl ([]:List ByteArray)=0∧_)
    have:=aY (pa1)
    refine oG fun z13=>?_
    have:=b7 ([]:List ByteArray) pa1
    have:=cG pa0.gName
    have:=bA pa0.gName
    refine oG fun z14=>?_
    have:=cR pa0.gArgs i11 hl9
    refine Ok.lt fun y20 h15=>?_
    have:=congrArg wt h15
    have:=b7 (([])++pa1) ([pa0.gName]:List ByteArray)
    exact oB (h_sl11Free y20 ((([])++pa1)++([pa0.gName]:List ByteArray)) v13 bV bV) fun x23 h16=>nX
   have:=cR pa0.gArgs i11 hl9
   refine Ok.lt fun y24 h17=>?_
   have:=congrArg wt h17
   exact oB (h_sl11Free y24 pa1 v13 bV bV) fun x27 h18=>nX
  have:=cR pa0.gArgs i11 hl9
  refine Ok.lt fun y28 h19=>?_
  have:=congrArg wt h19
  exact oB (h_sl11Free y28 pa1 v13 bV bV) fun x31 h20=>nX
 intro v13 h8
 refine NH pa0.gArms 1 (fun i32 v34 hl22 hI23 _ _=>?_) ?_
 ·have:=aY pa0.gArms
  have:=cR pa0.gArms i32 hl22
  refine Ok.lt fun y37 h24=>?_
  have:=congrArg wt h24
  have:=(aT:wl ([]:List ByteArray)=0∧_)
  have:=aY (pa1)
  refine oG fun z25=>?_
  have:=b7 ([]:List ByteArray) pa1
  have:=bM.wt_eq y37
  have:=aY (y37.gVars)
  refine oG fun z26=>?_
  have:=b7 (([])++pa1) y37.gVars
  exact oB (h_sl11Free y37.gBody ((([])++pa1)++y37.gVars) v34 bV bV) fun x42 h27=>nX
 intro v34 h21
 exact oS
theorem ae8(n:Nat):b5 fun fu=>IQ n (mS fu):=by
 induction n with
 |zero=>exact .all fun fu=>fun _ _ _ h=>absurd h (Nat.not_lt_zero _)
 |succ n ih=>exact b5.succ ((ih.and ((b5.ge 2147483648).and eA)).imp fun fu ⟨h,⟨hfu,eA⟩⟩=>fun pa0 pa1 pa2=>by rw [mS];exact ab8 hfu eA h pa0 pa1 pa2)
theorem JB:b5 ad1:=(ae8 8589934592).imp fun fu h pa0 pa1 pa2 hpre=>h pa0 pa1 pa2 bV hpre
def MQ(fu:Nat):Prop:= ∀(pe:aH),wt pe≤67108864→Ok (uJ fu pe) (fun r=>wl r≤wt pe+1)
theorem uB:b5 MQ:=((b5.ge 2147483648).and JB).imp fun fu ⟨hfu,JB⟩ pe hpre=>by
 have:=(aT:wl ([]:List ByteArray)=0∧_)
 exact oB (JB pe ([]:List ByteArray) ([]:List ByteArray) bV) fun x2 h1=>oS
def ad9(fu:Nat):Prop:= ∀(pt:aA) (pvars:List ByteArray),wt pt+wl pvars≤67108864→Ok (n9 fu pt pvars) (fun _=>True)
theorem gH:b5 ad9:=((((b5.ge 2147483648).and uC).and eA).and eT).imp fun fu ⟨⟨⟨hfu,uC⟩,eA⟩,eT⟩ pt pvars hpre=>by
 refine oB (uC pt bV) fun x2 h1=>?_;refine DL ?_ ?_
 ·refine Ok.loop1 ?_;rintro i3 ⟨⟩ hl3
  have:=aY x2
  have:=cR x2 i3 hl3
  have:=bA (bB x2 i3)
  exact oB (eA pvars (bB x2 i3)) fun x7 _=>oW (fun _=>oR) fun g6=>nX
 rintro⟨⟩-
 exact oB (eT pt bV) fun x10 _=>oS
def aiB(fu:Nat):Prop:= ∀(plist:List aA) (pvars:List ByteArray),wl plist+wl pvars≤67108864→Ok (F4 fu plist pvars) (fun _=>True)
theorem xI:b5 aiB:=((b5.ge 2147483648).and gH).imp fun fu ⟨hfu,gH⟩ plist pvars hpre=>by
 refine DL ?_ ?_
 ·refine Ok.loop1 ?_;rintro i1 ⟨⟩ hl2
  have:=aY plist
  have:=cR plist i1 hl2
  exact oB (gH (bB plist i1) pvars bV) fun x5 _=>oW (fun _=>oR) fun g5=>nX
 rintro⟨⟩-
 exact oS
def ad8(fu:Nat):Prop:= ∀(pe:aH),wt pe≤67108864→Ok (KB fu pe) (fun _=>True)
theorem JF:b5 ad8:=((b5.ge 2147483648).and CG).imp fun fu ⟨hfu,CG⟩ pe hpre=>by
 have:s_.size=0:=rfl
 have:=(aT:wl ([]:List aA)=0∧_)
 have:=aA.wt_mk 0 s_ []
 have:=(aT:wl ([]:List aH)=0∧_)
 have:=(aT:wl ([]:List bM)=0∧_)
 have:=aH.wt_mk 0 s_ s_ 0 (aA.mk 0 s_ []) [] []
 exact oB (CG pe (aH.mk 0 s_ s_ 0 (aA.mk 0 s_ []) [] []) bV) fun x2 _=>oS
def aaN(fu:Nat):Prop:= ∀(plist:List ByteArray) (pmost:Int),Ok (gL fu plist pmost) (fun _=>True)
theorem dH:b5 aaN:=(((b5.ge 2147483648).and pY).and eS).imp fun fu ⟨⟨hfu,pY⟩,eS⟩ plist pmost=>by
 refine oD (fun g1=>?_) fun g1=>?_
 ·refine oB (pY plist) fun x3 _=>?_;refine oC (fun g3=>?_) fun g3=>?_
  ·exact oB (eS plist) fun x6 _=>oS
  exact oS
 exact oS
def ad5(fu:Nat):Prop:= ∀(pe:aH) (pvars:List ByteArray),wt pe+wl pvars≤67108864→Ok (yS fu pe pvars) (fun _=>True)
theorem nW:b5 ad5:=((((b5.ge 2147483648).and uB).and eA).and yA).imp fun fu ⟨⟨⟨hfu,uB⟩,eA⟩,yA⟩ pe pvars hpre=>by
 refine oB (uB pe bV) fun x2 h1=>?_;refine DL ?_ ?_
 ·refine Ok.loop1 ?_;rintro i3 ⟨⟩ hl3
  have:=aY x2
  have:=cR x2 i3 hl3
  have:=bA (bB x2 i3)
  exact oB (eA pvars (bB x2 i3)) fun x7 _=>oW (fun _=>oR) fun g6=>nX
 rintro⟨⟩-
 exact oB (yA pe bV) fun x10 _=>oS
def aiC(fu:Nat):Prop:= ∀(ps:aE),wt ps≤33554432→Ok (OD fu ps) (fun _=>True)
theorem M7:b5 aiC:=(((((((b5.ge 2147483648).and bP).and xI).and gH).and JF).and dH).and nW).imp fun fu ⟨⟨⟨⟨⟨⟨hfu,bP⟩,xI⟩,gH⟩,JF⟩,dH⟩,nW⟩ ps hpre=>by
 have:=aE.wt_eq ps
 refine oB (bP ps.gName) fun x2 _=>oW (fun _=>oS) fun g2=>?_
 have:=aY ps.gParams
 refine oD (fun _=>oS) fun g3=>?_
 have:jX.size=4:=rfl
 have:=cG jX
 have:=bA jX
 refine oB (xI ps.gParams ([jX]:List ByteArray) bV) fun x6 _=>oW (fun _=>oS) fun g5=>oB (gH ps.gResult ([jX]:List ByteArray) bV) fun x9 _=>oW (fun _=>oS) fun g7=>?_;refine oW (fun g8=>?_) fun g8=>?_
 ·have:=aY ps.gVars
  refine oD (fun g9=>?_) fun g9=>?_
  ·exact oB (JF ps.gBody bV) fun x14 _=>oS
  exact oS
 refine oB (dH ps.gVars 5) fun x16 _=>?_;refine oC (fun g12=>?_) fun g12=>?_
 ·have:=aY ps.gVars
  have:=eZ ((ps.gParams.length:Int)+1)
  refine oD (fun g13=>?_) fun g13=>?_
  ·exact oB (nW ps.gBody ps.gVars bV) fun x20 _=>oS
  exact oS
 exact oS
def PE(fu:Nat):Prop:= ∀(pt:aU),wt pt≤16777216→Ok (rR fu pt) (fun _=>True)
theorem l0:b5 PE:=((((b5.ge 2147483648).and M7).and bP).and dH).imp fun fu ⟨⟨⟨hfu,M7⟩,bP⟩,dH⟩ pt hpre=>by
 have:=(aT:wl ([]:List ByteArray)=0∧_)
 have:=aU.wt_eq pt
 refine NH pt.gSignatures 1 (fun i1 v3 hl2 hI3 _ _=>?_) ?_
 ·have:=aY pt.gSignatures
  have:=cR pt.gSignatures i1 hl2
  refine Ok.lt fun y6 h4=>?_
  have:=congrArg wt h4
  refine oB (M7 y6 bV) fun x9 _=>oW (fun _=>oR) fun g6=>?_
  have:=aY (v3)
  have:=aE.wt_eq y6
  have:=cG y6.gName
  have:=bA y6.gName
  refine oG fun z7=>?_
  have:=b7 v3 ([y6.gName]:List ByteArray)
  exact nX
 intro v3 h1
 refine oC (fun g8=>?_) fun g8=>?_
 ·refine oC (fun _=>oS) fun g9=>oD (fun _=>oS) fun g10=>oD (fun _=>oS) fun g11=>oB (bP pt.gName) fun x17 _=>?_;refine oC (fun g13=>?_) fun g13=>?_
  ·refine oB (dH pt.gSupertraits 4) fun x20 _=>?_;refine oC (fun g15=>?_) fun g15=>?_
   ·exact oB (dH v3 6) fun x23 _=>oS
   exact oS
  exact oS
 refine oB (bP pt.gName) fun x25 _=>?_;refine oC (fun g18=>?_) fun g18=>?_
 ·refine oB (dH pt.gSupertraits 4) fun x28 _=>?_;refine oC (fun g20=>?_) fun g20=>?_
  ·exact oB (dH v3 6) fun x31 _=>oS
  exact oS
 exact oS
def IV(fu:Nat):Prop:= ∀(pd:aM),wt pd≤16777216→Ok (n3 fu pd) (fun _=>True)
theorem jS:b5 IV:=((((b5.ge 2147483648).and xI).and bP).and dH).imp fun fu ⟨⟨⟨hfu,xI⟩,bP⟩,dH⟩ pd hpre=>by
 have:=(aT:wl ([]:List ByteArray)=0∧_)
 have:=aM.wt_eq pd
 refine NH pd.gConstructors 1 (fun i1 v3 hl2 hI3 _ _=>?_) ?_
 ·have:=aY pd.gConstructors
  have:=cR pd.gConstructors i1 hl2
  have:=aD.wt_eq (bB pd.gConstructors i1)
  have:=aY ((bB pd.gConstructors i1).gFields)
  refine oD (fun _=>oR) fun g4=>oB (xI ((bB pd.gConstructors i1).gFields) pd.gVars bV) fun x8 _=>oW (fun _=>oR) fun g6=>?_
  have:=aY (v3)
  have:=cG ((bB pd.gConstructors i1).gName)
  have:=bA ((bB pd.gConstructors i1).gName)
  refine oG fun z7=>?_
  have:=b7 v3 ([((bB pd.gConstructors i1).gName)]:List ByteArray)
  exact nX
 intro v3 h1
 refine oB (bP pd.gName) fun x12 _=>?_;refine oC (fun g9=>?_) fun g9=>?_
 ·refine oB (dH pd.gVars 3) fun x15 _=>?_;refine oC (fun g11=>?_) fun g11=>?_
  ·refine oD (fun g12=>?_) fun g12=>?_
   ·exact oB (dH v3 5) fun x19 _=>oS
   exact oS
  exact oS
 exact oS
def PC(fu:Nat):Prop:= ∀(pb:aI),wt pb≤33554432→Ok (wC fu pb) (fun _=>True)
theorem vU:b5 PC:=(((b5.ge 2147483648).and bP).and eT).imp fun fu ⟨⟨hfu,bP⟩,eT⟩ pb hpre=>by
 have:=aI.wt_eq pb
 refine oB (bP pb.gTrait) fun x2 _=>?_;refine oC (fun g2=>?_) fun g2=>?_
 ·exact oB (eT pb.gType bV) fun x5 _=>oS
 exact oS
def aaM(fu:Nat):Prop:= ∀(plist:List aI) (pvars:List ByteArray),wl plist+wl pvars≤33554432→Ok (zL fu plist pvars) (fun _=>True)
theorem sQ:b5 aaM:=((((b5.ge 2147483648).and vU).and gH).and lL).imp fun fu ⟨⟨⟨hfu,vU⟩,gH⟩,lL⟩ plist pvars hpre=>by
 refine DL ?_ ?_
 ·refine Ok.loop1 ?_;rintro i1 ⟨⟩ hl2
  have:=aY plist
  have:=cR plist i1 hl2
  refine oB (vU (bB plist i1) bV) fun x5 _=>oW (fun _=>oR) fun g5=>?_
  have:=aI.wt_eq (bB plist i1)
  exact oB (gH ((bB plist i1).gType) pvars bV) fun x8 _=>oW (fun _=>oR) fun g7=>oB (lL ((bB plist i1).gType) bV) fun x11 _=>oC (fun _=>oR) fun g9=>nX
 rintro⟨⟩-
 exact oS
def IX(fu:Nat):Prop:= ∀(pa0:aG),wt pa0≤16777216→Ok (n5 fu pa0) (fun _=>True)
theorem jU:b5 IX:=(((((((((b5.ge 2147483648).and bP).and dH).and gH).and lL).and sQ).and EH).and lS).and nW).imp fun fu ⟨⟨⟨⟨⟨⟨⟨⟨hfu,bP⟩,dH⟩,gH⟩,lL⟩,sQ⟩,EH⟩,lS⟩,nW⟩ pa0 hpre=>by
 have:=aG.wt_eq pa0
 refine oB (bP pa0.gTrait) fun x2 _=>oW (fun _=>oS) fun g2=>oB (dH pa0.gVars 3) fun x5 _=>oW (fun _=>oS) fun g4=>oB (gH pa0.gHead pa0.gVars bV) fun x8 _=>oW (fun _=>oS) fun g6=>oB (lL pa0.gHead bV) fun x11 _=>oC (fun _=>oS) fun g8=>?_
 have:=aA.wt_eq pa0.gHead
 refine oD (fun _=>oS) fun g9=>oB (sQ pa0.gWhere pa0.gVars bV) fun x15 _=>oW (fun _=>oS) fun g11=>?_;refine DL ?_ ?_
 ·refine Ok.loop1 ?_;rintro i17 ⟨⟩ hl13
  have:=aY pa0.gVars
  have:=cR pa0.gVars i17 hl13
  have:=bA (bB pa0.gVars i17)
  exact oB (EH (bB pa0.gVars i17) pa0.gHead bV) fun x21 _=>oW (fun _=>oR) fun g16=>nX
 rintro⟨⟩-
 refine DL ?_ ?_
 ·refine oC (fun g18=>?_) fun g18=>?_
  ·exact oB (gH pa0.gAssoc pa0.gVars bV) fun x25 _=>oW (fun _=>oL) fun g20=>oI
  exact oB (lS pa0.gAssoc) fun x28 _=>oW (fun _=>oL) fun g22=>oI
 rintro⟨⟩-
 have:=(aT:wl ([]:List ByteArray)=0∧_)
 refine NH pa0.gMethods 1 (fun i30 v32 hl24 hI25 _ _=>?_) ?_
 ·have:=aY pa0.gMethods
  have:=cR pa0.gMethods i30 hl24
  refine Ok.lt fun y35 h26=>?_
  have:=congrArg wt h26
  have:=aN.wt_eq y35
  have:=aY y35.gVars
  refine oD (fun _=>oR) fun g27=>oB (dH y35.gVars 5) fun x39 _=>oW (fun _=>oR) fun g29=>oB (nW y35.gBody y35.gVars bV) fun x42 _=>oW (fun _=>oR) fun g31=>?_
  have:=aY (v32)
  have:=cG y35.gName
  have:=bA y35.gName
  refine oG fun z32=>?_
  have:=b7 v32 ([y35.gName]:List ByteArray)
  exact nX
 intro v32 h23
 exact oB (dH v32 6) fun x46 _=>oS
def IW(fu:Nat):Prop:= ∀(pf:aK),wt pf≤16777216→Ok (n4 fu pf) (fun _=>True)
theorem jT:b5 IW:=((((((b5.ge 2147483648).and gH).and bP).and dH).and sQ).and nW).imp fun fu ⟨⟨⟨⟨⟨hfu,gH⟩,bP⟩,dH⟩,sQ⟩,nW⟩ pf hpre=>by
 have:=(aT:wl ([]:List ByteArray)=0∧_)
 have:=aK.wt_eq pf
 refine NH pf.gParams 1 (fun i1 v3 hl2 hI3 _ _=>?_) ?_
 ·have:=aY pf.gParams
  have:=cR pf.gParams i1 hl2
  have:=aR.wt_eq (bB pf.gParams i1)
  refine oB (gH ((bB pf.gParams i1).gType) pf.gVars bV) fun x7 _=>oW (fun _=>oR) fun g5=>?_
  have:=aY (v3)
  have:=cG ((bB pf.gParams i1).gName)
  have:=bA ((bB pf.gParams i1).gName)
  refine oG fun z6=>?_
  have:=b7 v3 ([((bB pf.gParams i1).gName)]:List ByteArray)
  exact nX
 intro v3 h1
 refine oB (bP pf.gName) fun x11 _=>?_;refine oC (fun g8=>?_) fun g8=>?_
 ·refine oB (dH pf.gVars 3) fun x14 _=>?_;refine oC (fun g10=>?_) fun g10=>?_
  ·refine oB (sQ pf.gWhere pf.gVars bV) fun x17 _=>?_;refine oC (fun g12=>?_) fun g12=>?_
   ·refine oB (dH v3 5) fun x20 _=>?_;refine oC (fun g14=>?_) fun g14=>?_
    ·refine oB (gH pf.gResult pf.gVars bV) fun x23 _=>?_;refine oC (fun g16=>?_) fun g16=>?_
     ·exact oB (nW pf.gBody v3 bV) fun x26 _=>oS
     exact oS
    exact oS
   exact oS
  exact oS
 exact oS
end Go.Proofs.YtpioomclpaiomaaGreat.W

namespace Go.Proofs.YtpioomclpaiomaaGreat.W
set_option linter.unusedSimpArgs false
set_option linter.unusedVariables false
set_option maxRecDepth 20000
set_option maxHeartbeats 4000000
open Go.RowKit Go.WalkArith Go.IntWalk
attribute [local irreducible] wt wl
def akI(fu:Nat):Prop:= ∀(px:aB) (pi:Int),0≤pi∧wt px≤1073741824→Ok (dR fu px pi) (fun r=>wt r≤wt px)
theorem cL:b5 akI:=(b5.ge 2147483648).imp fun fu hfu px pi hpre=>by
 have:=aB.wt_eq px
 have:=aY px.gList
 refine oD (fun g1=>?_) fun g1=>?_
 ·have:s_.size=0:=rfl
  have:=(aT:wl ([]:List aB)=0∧_)
  have:=aB.wt_mk s_ []
  exact oS
 have:=aY (px.gList)
 refine oG fun z2=>?_
 have:=cR px.gList ((pi).toNat) z2.2
 exact oS
def aaO(fu:Nat):Prop:= ∀(px:aB),wt px≤1073741824→Ok (mE fu px) (fun r=>wl r≤wt px)
theorem gI:b5 aaO:=((b5.ge 2147483648).and iF).imp fun fu ⟨hfu,iF⟩ px hpre=>by
 have:=aB.wt_eq px
 refine tV (iF px.gList bV) fun x2 x3 h1=>?_
 dsimp only at h1
 exact oS
def aeA(fu:Nat):Prop:= ∀(px:aB) (pi:Int),0≤pi→Ok (uQ fu px pi) (fun r=>wl r≤wl px.gList)
theorem mM:b5 aeA:=((b5.ge 2147483648).and iV).imp fun fu ⟨hfu,iV⟩ px pi hpre=>by
 have:=aB.wt_eq px
 have:=aY px.gList
 refine oB (iV pi (px.gList.length:Int)) fun x2 h1=>oG fun z2=>?_
 have:=RD (x2:Int).toNat (px.gList.length:Int).toNat px.gList
 exact oS
def aiD(fu:Nat):Prop:= ∀(plist:List aB),wl plist≤67108864→Ok (F6 fu plist) (fun r=>wl r≤2*wl plist)
theorem xJ:b5 aiD:=((b5.ge 2147483648).and iB).imp fun fu ⟨hfu,iB⟩ plist hpre=>by
 have:=(aT:wl ([]:List aA)=0∧_)
 refine NH plist 2 (fun i1 v3 hl2 hI3 _ _=>?_) ?_
 ·have:=aY plist
  have:=cR plist i1 hl2
  refine oB (iB (bB plist i1) bV) fun x7 h4=>?_
  have:=aY (v3)
  have:=cG x7
  refine oG fun z5=>?_
  have:=b7 v3 ([x7]:List aA)
  exact nX
 intro v3 h1
 exact oS
def aaR(fu:Nat):Prop:= ∀(plist:List ByteArray),wl plist≤1073741824→Ok (lJ fu plist) (fun r=>wt r≤wl plist)
theorem fY:b5 aaR:=((b5.ge 2147483648).and mN).imp fun fu ⟨hfu,mN⟩ plist hpre=>by
 refine oB (mN plist bV) fun x2 h1=>?_
 have:s_.size=0:=rfl
 have:=aB.wt_mk s_ x2
 exact oS
def aaP(fu:Nat):Prop:= ∀(plist:List aA),wl plist≤33554432→Ok (zN fu plist) (fun r=>wl r≤8*wl plist)
theorem sR:b5 aaP:=((b5.ge 2147483648).and iP).imp fun fu ⟨hfu,iP⟩ plist hpre=>by
 have:=(aT:wl ([]:List aB)=0∧_)
 refine NH plist 8 (fun i1 v3 hl2 hI3 _ _=>?_) ?_
 ·have:=aY plist
  have:=cR plist i1 hl2
  refine oB (iP (bB plist i1) bV) fun x7 h4=>?_
  have:=aY (v3)
  have:=cG x7
  refine oG fun z5=>?_
  have:=b7 v3 ([x7]:List aB)
  exact nX
 intro v3 h1
 exact oS
def akJ(fu:Nat):Prop:= ∀(pok:Bool) (px:aB),wt px≤1073741824→Ok (BO fu pok px) (fun r=>wt r≤wt px)
theorem oQ:b5 akJ:=((b5.ge 2147483648).and cS).imp fun fu ⟨hfu,cS⟩ pok px hpre=>by
 refine oW (fun g1=>?_) fun g1=>?_
 ·have:s_.size=0:=rfl
  have:=(aT:wl ([]:List aB)=0∧_)
  have:=aB.wt_mk s_ []
  exact oS
 refine oB (cS px bV) fun x3 _=>?_;refine oW (fun g3=>?_) fun g3=>?_
 ·have:s_.size=0:=rfl
  have:=(aT:wl ([]:List aB)=0∧_)
  have:=aB.wt_mk s_ []
  exact oS
 exact oS
def PI(fu:Nat):Prop:= ∀(pa0:aU),wt pa0≤1048576→(∀a∈pa0.gSignatures,IM a.gBody)→Ok (wG fu pa0) (fun r=>wt r≤64*wt pa0+64)
theorem vY:b5 PI:=(((((((((b5.ge 2147483648).and l0).and bS).and fY).and eW).and sR).and iP).and tJ).and oQ).imp fun fu ⟨⟨⟨⟨⟨⟨⟨⟨hfu,l0⟩,bS⟩,fY⟩,eW⟩,sR⟩,iP⟩,tJ⟩,oQ⟩ pa0 hpre hB=>by
 refine oB (l0 pa0 bV) fun x2 _=>?_;refine oW (fun g2=>?_) fun g2=>?_
 ·have:s_.size=0:=rfl
  have:=(aT:wl ([]:List aB)=0∧_)
  have:=aB.wt_mk s_ []
  exact oS
 refine Ok.sok (E:=fun v5=>wl v5≤5) ?_ ?_
 ·have:=aU.wt_eq pa0
  refine oC (fun g4=>?_) fun g4=>?_
  ·have:=(aT:wl ([]:List ByteArray)=0∧_)
   have:yQ.size=4:=rfl
   have:=cG yQ
   have:=bA yQ
   refine oG fun z5=>?_
   have:=b7 ([]:List ByteArray) ([yQ]:List ByteArray)
   exact oI
  have:=(aT:wl ([]:List ByteArray)=0∧_)
  exact oI
 intro v5 h3
 refine Ok.sok (E:=fun v9=>wl v9≤11) ?_ ?_
 ·have:=aU.wt_eq pa0
  refine oC (fun g7=>?_) fun g7=>?_
  ·have:=aY (v5)
   have:iY.size=5:=rfl
   have:=cG iY
   have:=bA iY
   refine oG fun z8=>?_
   have:=b7 v5 ([iY]:List ByteArray)
   exact oI
  exact oI
 intro v9 h6
 have:F2.size=5:=rfl
 refine oB (bS F2) fun x13 h9=>?_
 have:=aU.wt_eq pa0
 refine oB (bS pa0.gName) fun x15 h10=>oB (fY pa0.gSupertraits bV) fun x17 h11=>oB (fY v9 bV) fun x19 h12=>?_
 have:=ap7 x13 x15 x17 x19
 refine oB (eW ([x13,x15,x17,x19]:List aB) bV) fun x21 h13=>?_
 have:=aB.wt_eq x21
 refine NH pa0.gSignatures 64 (fun i22 v24 hl15 hI16 _ _=>?_) ?_
 ·have:=aY pa0.gSignatures
  have:=cR pa0.gSignatures i22 hl15
  refine Ok.lt fun y27 h17=>?_
  have:=congrArg wt h17
  have:=aE.wt_eq y27
  refine oB (bS y27.gName) fun x30 h18=>oB (sR y27.gParams bV) fun x32 h19=>oB (iP y27.gResult bV) fun x34 h20=>?_
  have:s_.size=0:=rfl
  have:=aB.wt_mk s_ x32
  have:=DJ x30 (aB.mk s_ x32) x34
  refine oB (eW ([x30,(aB.mk s_ x32),x34]:List aB) bV) fun x36 h21=>?_;refine oC (fun g22=>?_) fun g22=>?_
  ·refine oB (fY y27.gVars bV) fun x39 h23=>oB (tJ y27.gBody bV (by rw [show y27=bB pa0.gSignatures i22 by assumption];exact XE hB (by assumption))) fun x41 h24=>?_
   have:=aB.wt_eq x36
   have:=aY (x36.gList)
   have:=kX x39 x41
   refine oG fun z25=>?_
   have:=aY (v24)
   have:=b7 x36.gList ([x39,x41]:List aB)
   have:=aB.wt_mk x36.gAtom (x36.gList++([x39,x41]:List aB))
   have:=cG (aB.mk x36.gAtom (x36.gList++([x39,x41]:List aB)))
   refine oG fun z26=>?_
   have:=b7 v24 ([(aB.mk x36.gAtom (x36.gList++([x39,x41]:List aB)))]:List aB)
   exact nX
  have:=aY (v24)
  have:=aB.wt_eq x36
  have:=aB.wt_mk x36.gAtom x36.gList
  have:=cG (aB.mk x36.gAtom x36.gList)
  refine oG fun z27=>?_
  have:=b7 v24 ([(aB.mk x36.gAtom x36.gList)]:List aB)
  exact nX
 intro v24 h14
 have:=aB.wt_mk x21.gAtom v24
 exact oB (oQ true (aB.mk x21.gAtom v24) bV) fun x46 h28=>oS
def PH(fu:Nat):Prop:= ∀(pa0:aB),wt pa0≤65536→Ok (wF fu pa0) (fun r=>wt r.1≤16*wt pa0)
theorem vX:b5 PH:=(((((((((((b5.ge 2147483648).and cL).and gI).and eA).and mM).and xJ).and iB).and nV).and cS).and vY).and gM).imp fun fu ⟨⟨⟨⟨⟨⟨⟨⟨⟨⟨hfu,cL⟩,gI⟩,eA⟩,mM⟩,xJ⟩,iB⟩,nV⟩,cS⟩,vY⟩,gM⟩ pa0 hpre=>by
 refine oB (cL pa0 3 bV) fun x2 h1=>oB (gI x2 bV) fun x4 h2=>oB (cL pa0 1 bV) fun x6 h3=>oB (cL pa0 2 bV) fun x8 h4=>oB (gI x8 bV) fun x10 h5=>?_
 have:yQ.size=4:=rfl
 refine oB (eA x4 yQ) fun x12 _=>?_
 have:iY.size=5:=rfl
 refine oB (eA x4 iY) fun x14 _=>?_
 have:=aB.wt_eq pa0
 refine oB (mM pa0 4 bV) fun x16 h8=>?_
 have:=(aT:wl ([]:List aE)=0∧_)
 refine amQ (PA:=fun a=>IM a.gBody) x16 8 (fun i17 v19 hl10 hI11 hI11B _ _=>?_) ?_
 ·have:=aY x16
  have:=cR x16 i17 hl10
  refine oB (cL (bB x16 i17) 0 bV) fun x23 h12=>oB (cL (bB x16 i17) 1 bV) fun x25 h13=>?_
  have:=aB.wt_eq x25
  refine oB (xJ x25.gList bV) fun x27 h14=>oB (cL (bB x16 i17) 2 bV) fun x29 h15=>oB (iB x29 bV) fun x31 h16=>?_
  have:=aB.wt_eq (bB x16 i17)
  have:=aY ((bB x16 i17).gList)
  refine oD (fun g17=>?_) fun g17=>?_
  ·refine oB (cL (bB x16 i17) 3 bV) fun x34 h18=>oB (gI x34 bV) fun x36 h19=>oB (cL (bB x16 i17) 4 bV) fun x38 h20=>O0 (nV x38 bV) fun x40 h21 h21B=>?_
   have:=aY (v19)
   have:=aB.wt_eq x23
   have:=aE.wt_mk x23.gAtom x27 x31 true x36 x40
   have:=cG (aE.mk x23.gAtom x27 x31 true x36 x40)
   refine oG fun z22=>?_
   have:=b7 v19 ([(aE.mk x23.gAtom x27 x31 true x36 x40)]:List aE)
   exact oX hI11B
  have:=aY (v19)
  have:=aB.wt_eq x23
  have:s_.size=0:=rfl
  have:=(aT:wl ([]:List aA)=0∧_)
  have:=aA.wt_mk 0 s_ []
  have:=(aT:wl ([]:List aH)=0∧_)
  have:=(aT:wl ([]:List bM)=0∧_)
  have:=aH.wt_mk 0 s_ s_ 0 (aA.mk 0 s_ []) [] []
  have:=(aT:wl ([]:List ByteArray)=0∧_)
  have:=aE.wt_mk x23.gAtom x27 x31 false [] (aH.mk 0 s_ s_ 0 (aA.mk 0 s_ []) [] [])
  have:=cG (aE.mk x23.gAtom x27 x31 false [] (aH.mk 0 s_ s_ 0 (aA.mk 0 s_ []) [] []))
  refine oG fun z23=>?_
  have:=b7 v19 ([(aE.mk x23.gAtom x27 x31 false [] (aH.mk 0 s_ s_ 0 (aA.mk 0 s_ []) [] []))]:List aE)
  exact oX hI11B
 rintro v19 ⟨h9,h9B⟩
 refine oB (cS pa0 bV) fun x44 _=>?_;refine oW (fun g25=>?_) fun g25=>?_
 ·have:s_.size=0:=rfl
  have:=(aT:wl ([]:List ByteArray)=0∧_)
  have:=aU.wt_mk s_ [] false false []
  exact oS
 have:=aY pa0.gList
 refine oD (fun g26=>?_) fun g26=>?_
 ·have:s_.size=0:=rfl
  have:=(aT:wl ([]:List ByteArray)=0∧_)
  have:=aU.wt_mk s_ [] false false []
  exact oS
 have:=aB.wt_eq x6
 have:=aU.wt_mk x6.gAtom x10 x12 x14 v19
 refine oB (vY (aU.mk x6.gAtom x10 x12 x14 v19) bV (by first|assumption|trivial)) fun x48 h27=>oB (gM x48 pa0 bV) fun x50 _=>?_;refine oW (fun g29=>?_) fun g29=>?_
 ·have:s_.size=0:=rfl
  have:=(aT:wl ([]:List ByteArray)=0∧_)
  have:=aU.wt_mk s_ [] false false []
  exact oS
 exact oS
def IS(fu:Nat):Prop:= ∀(pd:aM),wt pd≤1048576→Ok (sB fu pd) (fun r=>wt r≤64*wt pd+64)
theorem rY:b5 IS:=(((((((b5.ge 2147483648).and bS).and fY).and eW).and sR).and jS).and oQ).imp fun fu ⟨⟨⟨⟨⟨⟨hfu,bS⟩,fY⟩,eW⟩,sR⟩,jS⟩,oQ⟩ pd hpre=>by
 have:N7.size=4:=rfl
 refine oB (bS N7) fun x2 h1=>?_
 have:=aM.wt_eq pd
 refine oB (bS pd.gName) fun x4 h2=>oB (fY pd.gVars bV) fun x6 h3=>?_
 have:=DJ x2 x4 x6
 refine oB (eW ([x2,x4,x6]:List aB) bV) fun x8 h4=>?_
 have:=aB.wt_eq x8
 refine NH pd.gConstructors 64 (fun i9 v11 hl6 hI7 _ _=>?_) ?_
 ·have:=aY pd.gConstructors
  have:=cR pd.gConstructors i9 hl6
  have:=aD.wt_eq (bB pd.gConstructors i9)
  refine oB (bS ((bB pd.gConstructors i9).gName)) fun x15 h8=>oB (sR ((bB pd.gConstructors i9).gFields) bV) fun x17 h9=>?_
  have:=cG x15
  have:=aY (x17)
  refine oG fun z10=>?_
  have:=aY (v11)
  have:s_.size=0:=rfl
  have:=b7 ([x15]:List aB) x17
  have:=aB.wt_mk s_ (([x15]:List aB)++x17)
  have:=cG (aB.mk s_ (([x15]:List aB)++x17))
  refine oG fun z11=>?_
  have:=b7 v11 ([(aB.mk s_ (([x15]:List aB)++x17))]:List aB)
  exact nX
 intro v11 h5
 refine oB (jS pd bV) fun x21 _=>?_
 have:=aB.wt_mk x8.gAtom v11
 exact oB (oQ x21 (aB.mk x8.gAtom v11) bV) fun x23 h13=>oS
def IY(fu:Nat):Prop:= ∀(px:aB),wt px≤65536→Ok (sE fu px) (fun r=>wt r.1≤16*wt px)
theorem r8:b5 IY:=((((((((b5.ge 2147483648).and cL).and gI).and mM).and xJ).and cS).and rY).and gM).imp fun fu ⟨⟨⟨⟨⟨⟨⟨hfu,cL⟩,gI⟩,mM⟩,xJ⟩,cS⟩,rY⟩,gM⟩ px hpre=>by
 refine oB (cL px 1 bV) fun x2 h1=>oB (cL px 2 bV) fun x4 h2=>oB (gI x4 bV) fun x6 h3=>?_
 have:=aB.wt_eq px
 refine oB (mM px 3 bV) fun x8 h4=>?_
 have:=(aT:wl ([]:List aD)=0∧_)
 refine NH x8 4 (fun i9 v11 hl6 hI7 _ _=>?_) ?_
 ·have:=aY x8
  have:=cR x8 i9 hl6
  refine oB (cL (bB x8 i9) 0 bV) fun x15 h8=>?_
  have:=aB.wt_eq (bB x8 i9)
  refine oB (mM (bB x8 i9) 1 bV) fun x17 h9=>oB (xJ x17 bV) fun x19 h10=>?_
  have:=aY (v11)
  have:=aB.wt_eq x15
  have:=aD.wt_mk x15.gAtom x19
  have:=cG (aD.mk x15.gAtom x19)
  refine oG fun z11=>?_
  have:=b7 v11 ([(aD.mk x15.gAtom x19)]:List aD)
  exact nX
 intro v11 h5
 refine oB (cS px bV) fun x22 _=>?_;refine oW (fun g13=>?_) fun g13=>?_
 ·have:s_.size=0:=rfl
  have:=(aT:wl ([]:List ByteArray)=0∧_)
  have:=aM.wt_mk s_ [] []
  exact oS
 have:=aY px.gList
 refine oD (fun g14=>?_) fun g14=>?_
 ·have:s_.size=0:=rfl
  have:=(aT:wl ([]:List ByteArray)=0∧_)
  have:=aM.wt_mk s_ [] []
  exact oS
 have:=aB.wt_eq x2
 have:=aM.wt_mk x2.gAtom x6 v11
 refine oB (rY (aM.mk x2.gAtom x6 v11) bV) fun x26 h15=>oB (gM x26 px bV) fun x28 _=>?_;refine oW (fun g17=>?_) fun g17=>?_
 ·have:s_.size=0:=rfl
  have:=(aT:wl ([]:List ByteArray)=0∧_)
  have:=aM.wt_mk s_ [] []
  exact oS
 exact oS
def XA(fu:Nat):Prop:= ∀(px:aB),wt px≤33554432→Ok (xD fu px) (fun r=>wl r≤4*wt px)
theorem qK:b5 XA:=(((b5.ge 2147483648).and cL).and iB).imp fun fu ⟨⟨hfu,cL⟩,iB⟩ px hpre=>by
 have:=(aT:wl ([]:List aI)=0∧_)
 have:=aB.wt_eq px
 refine NH px.gList 4 (fun i1 v3 hl2 hI3 _ _=>?_) ?_
 ·have:=aY px.gList
  have:=cR px.gList i1 hl2
  refine oB (cL (bB px.gList i1) 0 bV) fun x7 h4=>oB (cL (bB px.gList i1) 1 bV) fun x9 h5=>oB (iB x9 bV) fun x11 h6=>?_
  have:=aY (v3)
  have:=aB.wt_eq x7
  have:=aI.wt_mk x7.gAtom x11
  have:=cG (aI.mk x7.gAtom x11)
  refine oG fun z7=>?_
  have:=b7 v3 ([(aI.mk x7.gAtom x11)]:List aI)
  exact nX
 intro v3 h1
 exact oS
def aaQ(fu:Nat):Prop:= ∀(plist:List aI),wl plist≤16777216→Ok (zO fu plist) (fun r=>wt r≤16*wl plist)
theorem sS:b5 aaQ:=((((b5.ge 2147483648).and bS).and iP).and eW).imp fun fu ⟨⟨⟨hfu,bS⟩,iP⟩,eW⟩ plist hpre=>by
 have:=(aT:wl ([]:List aB)=0∧_)
 refine NH plist 16 (fun i1 v3 hl2 hI3 _ _=>?_) ?_
 ·have:=aY plist
  have:=cR plist i1 hl2
  have:=aI.wt_eq (bB plist i1)
  refine oB (bS ((bB plist i1).gTrait)) fun x7 h4=>oB (iP ((bB plist i1).gType) bV) fun x9 h5=>?_
  have:=kX x7 x9
  refine oB (eW ([x7,x9]:List aB) bV) fun x11 h6=>?_
  have:=aY (v3)
  have:=cG x11
  refine oG fun z7=>?_
  have:=b7 v3 ([x11]:List aB)
  exact nX
 intro v3 h1
 have:s_.size=0:=rfl
 have:=aB.wt_mk s_ v3
 exact oS
def IU(fu:Nat):Prop:= ∀(pa0:aG),wt pa0≤1048576→(∀a∈pa0.gMethods,IM a.gBody)→Ok (sD fu pa0) (fun r=>wt r≤64*wt pa0+128)
theorem r7:b5 IU:=(((((((((b5.ge 2147483648).and jU).and iP).and eW).and bS).and fY).and sS).and tJ).and oQ).imp fun fu ⟨⟨⟨⟨⟨⟨⟨⟨hfu,jU⟩,iP⟩,eW⟩,bS⟩,fY⟩,sS⟩,tJ⟩,oQ⟩ pa0 hpre hB=>by
 refine oB (jU pa0 bV) fun x2 _=>?_;refine oW (fun g2=>?_) fun g2=>?_
 ·have:s_.size=0:=rfl
  have:=(aT:wl ([]:List aB)=0∧_)
  have:=aB.wt_mk s_ []
  exact oS
 refine Ok.sok (E:=fun v5=>wl v5≤8) ?_ ?_
 ·have:=aG.wt_eq pa0
  refine oC (fun g4=>?_) fun g4=>?_
  ·have:=(aT:wl ([]:List ByteArray)=0∧_)
   have:uK.size=7:=rfl
   have:=cG uK
   have:=bA uK
   refine oG fun z5=>?_
   have:=b7 ([]:List ByteArray) ([uK]:List ByteArray)
   exact oI
  have:=(aT:wl ([]:List ByteArray)=0∧_)
  exact oI
 intro v5 h3
 have:=aG.wt_eq pa0
 refine Ok.sok (E:=fun(v8,v9)=>v8.size+wl v9≤8*wt pa0.gAssoc+16) ?_ ?_
 ·refine oC (fun g7=>?_) fun g7=>?_
  ·refine oB (iP pa0.gAssoc bV) fun x12 h8=>?_
   have:=cG x12
   refine oB (eW ([x12]:List aB) bV) fun x14 h9=>?_
   have:=aB.wt_eq x14
   exact oI
  have:s_.size=0:=rfl
  have:=(aT:wl ([]:List aB)=0∧_)
  exact oI
 rintro⟨v8,v9⟩ h6
 dsimp only at h6
 have:N8.size=4:=rfl
 refine oB (bS N8) fun x16 h10=>oB (bS pa0.gTrait) fun x18 h11=>oB (fY pa0.gVars bV) fun x20 h12=>oB (iP pa0.gHead bV) fun x22 h13=>oB (sS pa0.gWhere bV) fun x24 h14=>oB (fY v5 bV) fun x26 h15=>?_
 have:=aB.wt_mk v8 v9
 have:=ai4 x16 x18 x20 x22 x24 x26 (aB.mk v8 v9)
 refine oB (eW ([x16,x18,x20,x22,x24,x26,(aB.mk v8 v9)]:List aB) bV) fun x28 h16=>?_
 have:=aB.wt_eq x28
 refine NH pa0.gMethods 64 (fun i29 v31 hl18 hI19 _ _=>?_) ?_
 ·have:=aY pa0.gMethods
  have:=cR pa0.gMethods i29 hl18
  refine Ok.lt fun y34 h20=>?_
  have:=congrArg wt h20
  have:=aN.wt_eq y34
  refine oB (bS y34.gName) fun x37 h21=>oB (fY y34.gVars bV) fun x39 h22=>oB (tJ y34.gBody bV (by rw [show y34=bB pa0.gMethods i29 by assumption];exact XE hB (by assumption))) fun x41 h23=>?_
  have:=DJ x37 x39 x41
  refine oB (eW ([x37,x39,x41]:List aB) bV) fun x43 h24=>?_
  have:=aY (v31)
  have:=aB.wt_eq x43
  have:=aB.wt_mk x43.gAtom x43.gList
  have:=cG (aB.mk x43.gAtom x43.gList)
  refine oG fun z25=>?_
  have:=b7 v31 ([(aB.mk x43.gAtom x43.gList)]:List aB)
  exact nX
 intro v31 h17
 have:=aB.wt_mk x28.gAtom v31
 exact oB (oQ true (aB.mk x28.gAtom v31) bV) fun x46 h26=>oS
def I0(fu:Nat):Prop:= ∀(pa0:aB),wt pa0≤65536→Ok (sG fu pa0) (fun r=>wt r.1≤16*wt pa0)
theorem sA:b5 I0:=((((((((((b5.ge 2147483648).and cL).and gI).and iB).and qK).and mM).and nV).and cS).and r7).and gM).imp fun fu ⟨⟨⟨⟨⟨⟨⟨⟨⟨hfu,cL⟩,gI⟩,iB⟩,qK⟩,mM⟩,nV⟩,cS⟩,r7⟩,gM⟩ pa0 hpre=>by
 refine oB (cL pa0 1 bV) fun x2 h1=>oB (cL pa0 2 bV) fun x4 h2=>oB (gI x4 bV) fun x6 h3=>oB (cL pa0 3 bV) fun x8 h4=>oB (iB x8 bV) fun x10 h5=>oB (cL pa0 4 bV) fun x12 h6=>oB (qK x12 bV) fun x14 h7=>oB (cL pa0 5 bV) fun x16 h8=>oB (cL pa0 6 bV) fun x18 h9=>?_;refine Ok.sok (E:=fun(v22,v19,v20,v21)=>wl v22+v21.size≤2*wt x18) ?_ ?_
 ·have:=aB.wt_eq x18
  have:=aY x18.gList
  refine oD (fun g11=>?_) fun g11=>?_
  ·have:=aY (x18.gList)
   refine oG fun z12=>?_
   have:=cR x18.gList 0 z12
   have:wl (List.take 1 x18.gList)=wl (List.take 0 x18.gList)+wt (bB x18.gList 0)+1:=IL x18.gList 0 z12
   refine oB (iB (bB x18.gList 0) bV) fun x26 h13=>?_
   have:=aA.wt_eq x26
   exact oI
  have:s_.size=0:=rfl
  have:=(aT:wl ([]:List aA)=0∧_)
  exact oI
 rintro⟨v22,v19,v20,v21⟩ h10
 dsimp only at h10
 have:=aB.wt_eq pa0
 refine oB (mM pa0 7 bV) fun x28 h14=>?_
 have:=(aT:wl ([]:List aN)=0∧_)
 refine amQ (PA:=fun a=>IM a.gBody) x28 4 (fun i29 v31 hl16 hI17 hI17B _ _=>?_) ?_
 ·have:=aY x28
  have:=cR x28 i29 hl16
  refine oB (cL (bB x28 i29) 0 bV) fun x35 h18=>oB (cL (bB x28 i29) 1 bV) fun x37 h19=>oB (gI x37 bV) fun x39 h20=>oB (cL (bB x28 i29) 2 bV) fun x41 h21=>O0 (nV x41 bV) fun x43 h22 h22B=>?_
  have:=aY (v31)
  have:=aB.wt_eq x35
  have:=aN.wt_mk x35.gAtom x39 x43
  have:=cG (aN.mk x35.gAtom x39 x43)
  refine oG fun z23=>?_
  have:=b7 v31 ([(aN.mk x35.gAtom x39 x43)]:List aN)
  exact oX hI17B
 rintro v31 ⟨h15,h15B⟩
 refine oB (cS pa0 bV) fun x46 _=>?_;refine oW (fun g25=>?_) fun g25=>?_
 ·have:s_.size=0:=rfl
  have:=(aT:wl ([]:List aA)=0∧_)
  have:=aA.wt_mk 0 s_ []
  have:=(aT:wl ([]:List ByteArray)=0∧_)
  have:=(aT:wl ([]:List aI)=0∧_)
  have:=aG.wt_mk s_ [] (aA.mk 0 s_ []) [] false false (aA.mk 0 s_ []) []
  exact oS
 have:=aY pa0.gList
 refine oD (fun g26=>?_) fun g26=>?_
 ·have:s_.size=0:=rfl
  have:=(aT:wl ([]:List aA)=0∧_)
  have:=aA.wt_mk 0 s_ []
  have:=(aT:wl ([]:List ByteArray)=0∧_)
  have:=(aT:wl ([]:List aI)=0∧_)
  have:=aG.wt_mk s_ [] (aA.mk 0 s_ []) [] false false (aA.mk 0 s_ []) []
  exact oS
 have:=aB.wt_eq x2
 have:=aB.wt_eq x16
 have:=aY x16.gList
 have:=aA.wt_mk v20 v21 v22
 have:=aG.wt_mk x2.gAtom x6 x10 x14 (decide ((x16.gList.length:Int)>0)) v19 (aA.mk v20 v21 v22) v31
 refine oB (r7 (aG.mk x2.gAtom x6 x10 x14 (decide ((x16.gList.length:Int)>0)) v19 (aA.mk v20 v21 v22) v31) bV (by first|assumption|trivial)) fun x50 h27=>oB (gM x50 pa0 bV) fun x52 _=>?_;refine oW (fun g29=>?_) fun g29=>?_
 ·have:s_.size=0:=rfl
  have:=(aT:wl ([]:List aA)=0∧_)
  have:=aA.wt_mk 0 s_ []
  have:=(aT:wl ([]:List ByteArray)=0∧_)
  have:=(aT:wl ([]:List aI)=0∧_)
  have:=aG.wt_mk s_ [] (aA.mk 0 s_ []) [] false false (aA.mk 0 s_ []) []
  exact oS
 exact oS
def IT(fu:Nat):Prop:= ∀(pf:aK),wt pf≤1048576→(IM pf.gBody)→Ok (sC fu pf) (fun r=>wt r≤64*wt pf+128)
theorem rZ:b5 IT:=(((((((((b5.ge 2147483648).and jT).and bS).and iP).and eW).and fY).and sS).and tJ).and oQ).imp fun fu ⟨⟨⟨⟨⟨⟨⟨⟨hfu,jT⟩,bS⟩,iP⟩,eW⟩,fY⟩,sS⟩,tJ⟩,oQ⟩ pf hpre hB=>by
 refine oB (jT pf bV) fun x2 _=>?_;refine oW (fun g2=>?_) fun g2=>?_
 ·have:s_.size=0:=rfl
  have:=(aT:wl ([]:List aB)=0∧_)
  have:=aB.wt_mk s_ []
  exact oS
 have:=(aT:wl ([]:List aB)=0∧_)
 have:=aK.wt_eq pf
 refine NH pf.gParams 16 (fun i4 v6 hl4 hI5 _ _=>?_) ?_
 ·have:=aY pf.gParams
  have:=cR pf.gParams i4 hl4
  have:=aR.wt_eq (bB pf.gParams i4)
  refine oB (bS ((bB pf.gParams i4).gName)) fun x10 h6=>oB (iP ((bB pf.gParams i4).gType) bV) fun x12 h7=>?_
  have:=kX x10 x12
  refine oB (eW ([x10,x12]:List aB) bV) fun x14 h8=>?_
  have:=aY (v6)
  have:=cG x14
  refine oG fun z9=>?_
  have:=b7 v6 ([x14]:List aB)
  exact nX
 intro v6 h3
 have:ajF.size=2:=rfl
 refine oB (bS ajF) fun x17 h10=>oB (bS pf.gName) fun x19 h11=>oB (fY pf.gVars bV) fun x21 h12=>oB (sS pf.gWhere bV) fun x23 h13=>oB (iP pf.gResult bV) fun x25 h14=>oB (tJ pf.gBody bV (by first|assumption|trivial)) fun x27 h15=>?_
 have:s_.size=0:=rfl
 have:=aB.wt_mk s_ v6
 have:=ai4 x17 x19 x21 x23 (aB.mk s_ v6) x25 x27
 exact oB (eW ([x17,x19,x21,x23,(aB.mk s_ v6),x25,x27]:List aB) bV) fun x29 h16=>oB (oQ true x29 bV) fun x31 h17=>oS
def IZ(fu:Nat):Prop:= ∀(pa0:aB),wt pa0≤65536→Ok (sF fu pa0) (fun r=>wt r.1≤16*wt pa0)
theorem r9:b5 IZ:=(((((((((b5.ge 2147483648).and cL).and gI).and qK).and iB).and nV).and cS).and rZ).and gM).imp fun fu ⟨⟨⟨⟨⟨⟨⟨⟨hfu,cL⟩,gI⟩,qK⟩,iB⟩,nV⟩,cS⟩,rZ⟩,gM⟩ pa0 hpre=>by
 refine oB (cL pa0 1 bV) fun x2 h1=>oB (cL pa0 2 bV) fun x4 h2=>oB (gI x4 bV) fun x6 h3=>oB (cL pa0 3 bV) fun x8 h4=>oB (qK x8 bV) fun x10 h5=>oB (cL pa0 5 bV) fun x12 h6=>oB (iB x12 bV) fun x14 h7=>oB (cL pa0 6 bV) fun x16 h8=>O0 (nV x16 bV) fun x18 h9 h9B=>oB (cL pa0 4 bV) fun x20 h10=>?_
 have:=(aT:wl ([]:List aR)=0∧_)
 have:=aB.wt_eq x20
 refine NH x20.gList 4 (fun i21 v23 hl12 hI13 _ _=>?_) ?_
 ·have:=aY x20.gList
  have:=cR x20.gList i21 hl12
  refine oB (cL (bB x20.gList i21) 0 bV) fun x27 h14=>oB (cL (bB x20.gList i21) 1 bV) fun x29 h15=>oB (iB x29 bV) fun x31 h16=>?_
  have:=aY (v23)
  have:=aB.wt_eq x27
  have:=aR.wt_mk x27.gAtom x31
  have:=cG (aR.mk x27.gAtom x31)
  refine oG fun z17=>?_
  have:=b7 v23 ([(aR.mk x27.gAtom x31)]:List aR)
  exact nX
 intro v23 h11
 refine oB (cS pa0 bV) fun x34 _=>?_;refine oW (fun g19=>?_) fun g19=>?_
 ·have:s_.size=0:=rfl
  have:=(aT:wl ([]:List aA)=0∧_)
  have:=aA.wt_mk 0 s_ []
  have:=(aT:wl ([]:List aH)=0∧_)
  have:=(aT:wl ([]:List bM)=0∧_)
  have:=aH.wt_mk 0 s_ s_ 0 (aA.mk 0 s_ []) [] []
  have:=(aT:wl ([]:List ByteArray)=0∧_)
  have:=(aT:wl ([]:List aI)=0∧_)
  have:=aK.wt_mk s_ [] [] [] (aA.mk 0 s_ []) (aH.mk 0 s_ s_ 0 (aA.mk 0 s_ []) [] [])
  exact oS
 have:=aB.wt_eq pa0
 have:=aY pa0.gList
 refine oD (fun g20=>?_) fun g20=>?_
 ·have:s_.size=0:=rfl
  have:=(aT:wl ([]:List aA)=0∧_)
  have:=aA.wt_mk 0 s_ []
  have:=(aT:wl ([]:List aH)=0∧_)
  have:=(aT:wl ([]:List bM)=0∧_)
  have:=aH.wt_mk 0 s_ s_ 0 (aA.mk 0 s_ []) [] []
  have:=(aT:wl ([]:List ByteArray)=0∧_)
  have:=(aT:wl ([]:List aI)=0∧_)
  have:=aK.wt_mk s_ [] [] [] (aA.mk 0 s_ []) (aH.mk 0 s_ s_ 0 (aA.mk 0 s_ []) [] [])
  exact oS
 have:=aB.wt_eq x2
 have:=aK.wt_mk x2.gAtom x6 x10 v23 x14 x18
 refine oB (rZ (aK.mk x2.gAtom x6 x10 v23 x14 x18) bV (by first|assumption|trivial)) fun x38 h21=>oB (gM x38 pa0 bV) fun x40 _=>?_;refine oW (fun g23=>?_) fun g23=>?_
 ·have:s_.size=0:=rfl
  have:=(aT:wl ([]:List aA)=0∧_)
  have:=aA.wt_mk 0 s_ []
  have:=(aT:wl ([]:List aH)=0∧_)
  have:=(aT:wl ([]:List bM)=0∧_)
  have:=aH.wt_mk 0 s_ s_ 0 (aA.mk 0 s_ []) [] []
  have:=(aT:wl ([]:List ByteArray)=0∧_)
  have:=(aT:wl ([]:List aI)=0∧_)
  have:=aK.wt_mk s_ [] [] [] (aA.mk 0 s_ []) (aH.mk 0 s_ s_ 0 (aA.mk 0 s_ []) [] [])
  exact oS
 exact oS
end Go.Proofs.YtpioomclpaiomaaGreat.W

namespace Go.Proofs.YtpioomclpaiomaaGreat.W
set_option linter.unusedSimpArgs false
set_option linter.unusedVariables false
set_option maxRecDepth 20000
set_option maxHeartbeats 4000000
open Go.RowKit Go.WalkArith Go.IntWalk
def W8(fu:Nat):Prop:= ∀(ps:ByteArray) (pby:UInt8),ps.size≤1073741824→Ok (CQ fu ps pby) (fun r=>wl r≤ps.size+1)
theorem CH:b5 W8:=(b5.ge 2147483648).imp fun fu hfu ps pby hpre=>by
 have:=(aT:wl ([]:List ByteArray)=0∧_)
 refine Ok.sok (E:=fun(v4,v2,v3)=>wl v4≤ps.size+1) ?_ ?_
 ·refine Ok.loopW (fun(v4,v2,v3)=>0≤v2∧v2≤v3∧v3≤(ps.size:Int)+1∧(wl v4:Int)≤v2) (fun(v4,v2,v3)=>((ps.size:Int)+2-v3).toNat) ?_ _ _ bV bV
  rintro⟨v4,v2,v3⟩ hI3
  try dsimp only at hI3
  refine oD (fun g4=>?_) fun g4=>?_
  ·refine oD (fun g5=>?_) fun g5=>?_
   ·refine oG fun z6=>?_
    have:=aY (v4)
    have:=B5 ps (v2:Int).toNat (v3:Int).toNat
    have:=cG (ps.extract (v2:Int).toNat (v3:Int).toNat)
    have:=bA (ps.extract (v2:Int).toNat (v3:Int).toNat)
    refine oG fun z7=>?_
    have:=b7 v4 ([(ps.extract (v2:Int).toNat (v3:Int).toNat)]:List ByteArray)
    have:=eZ (v3+1)
    exact nX
   refine oG fun z8=>?_;refine oD (fun g9=>?_) fun g9=>?_
   ·refine oG fun z10=>?_
    have:=aY (v4)
    have:=B5 ps (v2:Int).toNat (v3:Int).toNat
    have:=cG (ps.extract (v2:Int).toNat (v3:Int).toNat)
    have:=bA (ps.extract (v2:Int).toNat (v3:Int).toNat)
    refine oG fun z11=>?_
    have:=b7 v4 ([(ps.extract (v2:Int).toNat (v3:Int).toNat)]:List ByteArray)
    have:=eZ (v3+1)
    exact nX
   have:=eZ (v3+1)
   exact nX
  exact oK
 rintro⟨v4,v2,v3⟩ h1
 dsimp only at h1
 exact oS
def aaS(fu:Nat):Prop:= ∀(ps:ByteArray),ps.size≤1073741824→Ok (E6 fu ps) (fun _=>True)
theorem EJ:b5 aaS:=(b5.ge 2147483648).imp fun fu hfu ps hpre=>by
 refine DL ?_ ?_
 ·refine Ok.loop1 ?_;rintro i1 ⟨⟩ hl2
  exact oG fun z4=>oN (fun _=>oR) fun g5=>nX
 rintro⟨⟩-
 exact oS
def aeC(fu:Nat):Prop:= ∀(pq0:ByteArray×(List ByteArray)×(List aU)×(List aM)×(List aG)×(List aK)) (pa1:aB),wt pa1≤65536∧wl pq0.2.2.1+wl pq0.2.2.2.1+wl pq0.2.2.2.2.1+wl pq0.2.2.2.2.2≤1073741824→Ok (KD fu pq0 pa1) (fun r=>r.2.1.size+wl r.2.2.1+wl r.2.2.2.1+wl r.2.2.2.2.1+wl r.2.2.2.2.2.1+wl r.2.2.2.2.2.2≤pq0.1.size+wl pq0.2.1+wl pq0.2.2.1+wl pq0.2.2.2.1+wl pq0.2.2.2.2.1+wl pq0.2.2.2.2.2+16*wt pa1+1)
theorem JH:b5 aeC:=((((((b5.ge 2147483648).and cL).and vX).and r8).and sA).and r9).imp fun fu ⟨⟨⟨⟨⟨hfu,cL⟩,vX⟩,r8⟩,sA⟩,r9⟩ pq0 pa1 hpre=>by
 have:=aY pq0.2.2.1
 have:=aY pq0.2.2.2.1
 have:=aY pq0.2.2.2.2.1
 have:=aY pq0.2.2.2.2.2
 refine oB (cL pa1 0 bV) fun x2 h1=>?_
 have:=aB.wt_eq x2
 have:F2.size=5:=rfl
 refine oD (fun g2=>?_) fun g2=>?_
 ·have:=congrArg ByteArray.size g2
  refine tV (vX pa1 bV) fun x5 x6 h3=>?_
  dsimp only at h3
  have:=aY (pq0.2.2.1)
  have:=cG x5
  refine oG fun z4=>?_
  have:=b7 pq0.2.2.1 ([x5]:List aU)
  exact oS
 have:N7.size=4:=rfl
 refine oD (fun g5=>?_) fun g5=>?_
 ·have:=congrArg ByteArray.size g5
  refine tV (r8 pa1 bV) fun x10 x11 h6=>?_
  dsimp only at h6
  have:=aY (pq0.2.2.2.1)
  have:=cG x10
  refine oG fun z7=>?_
  have:=b7 pq0.2.2.2.1 ([x10]:List aM)
  exact oS
 have:N8.size=4:=rfl
 refine oD (fun g8=>?_) fun g8=>?_
 ·have:=congrArg ByteArray.size g8
  refine tV (sA pa1 bV) fun x15 x16 h9=>?_
  dsimp only at h9
  have:=aY (pq0.2.2.2.2.1)
  have:=cG x15
  refine oG fun z10=>?_
  have:=b7 pq0.2.2.2.2.1 ([x15]:List aG)
  exact oS
 have:ajF.size=2:=rfl
 refine oD (fun g11=>?_) fun g11=>?_
 ·have:=congrArg ByteArray.size g11
  refine tV (r9 pa1 bV) fun x20 x21 h12=>?_
  dsimp only at h12
  have:=cG x20
  refine oG fun z13=>?_
  have:=b7 pq0.2.2.2.2.2 ([x20]:List aK)
  exact oS
 exact oS
def aaT(fu:Nat):Prop:= ∀(pa0:aJ),wt pa0≤4194304→Ok (E7 fu pa0) (fun _=>True)
theorem EK:b5 aaT:=(b5.ge 2147483648).imp fun fu hfu pa0 hpre=>by
 have:=(aT:wl ([]:List ByteArray)=0∧_)
 have:=aJ.wt_eq pa0
 refine NH pa0.gTraits 1 (fun i1 v3 hl2 hI3 _ _=>?_) ?_
 ·have:=aY pa0.gTraits
  have:=aY (v3)
  have:=cR pa0.gTraits i1 hl2
  have:=aU.wt_eq (bB pa0.gTraits i1)
  have:=cG ((bB pa0.gTraits i1).gName)
  have:=bA ((bB pa0.gTraits i1).gName)
  refine oG fun z4=>?_
  have:=b7 v3 ([((bB pa0.gTraits i1).gName)]:List ByteArray)
  exact nX
 intro v3 h1
 refine Ok.sok (E:=fun(v10,v11)=>wl v10+1*wl (List.take 0 pa0.gDataTypes)≤wl ([]:List ByteArray)+1*wl pa0.gDataTypes∧wl v11+1*wl (List.take 0 pa0.gDataTypes)≤wl ([]:List ByteArray)+1*wl pa0.gDataTypes) ?_ ?_
 ·refine Ok.loop0 (fun i7 (v10,v11)=>wl v10+1*wl (List.take 0 pa0.gDataTypes)≤wl ([]:List ByteArray)+1*wl (List.take i7 pa0.gDataTypes)∧wl v11+1*wl (List.take 0 pa0.gDataTypes)≤wl ([]:List ByteArray)+1*wl (List.take i7 pa0.gDataTypes)) (by exact bV) (by rintro i7 ⟨v10,v11⟩-hI;have:=jA pa0.gDataTypes i7;(try dsimp only at hI ⊢);omega) ?_;rintro i7 ⟨v10,v11⟩ hl6 hI7
  dsimp only at hI7
  have:=aY pa0.gDataTypes
  have:=jB pa0.gDataTypes i7 hl6
  have:=jA pa0.gDataTypes (i7+1)
  have:=aY (v10)
  have:=cR pa0.gDataTypes i7 hl6
  have:=aM.wt_eq (bB pa0.gDataTypes i7)
  have:=cG ((bB pa0.gDataTypes i7).gName)
  have:=bA ((bB pa0.gDataTypes i7).gName)
  refine oG fun z8=>?_;refine NH ((bB pa0.gDataTypes i7).gConstructors) 1 (fun i15 v17 hl10 hI11 _ _=>?_) ?_
  ·have:=aY ((bB pa0.gDataTypes i7).gConstructors)
   have:=aY (v17)
   have:=cR ((bB pa0.gDataTypes i7).gConstructors) i15 hl10
   have:=aD.wt_eq (bB ((bB pa0.gDataTypes i7).gConstructors) i15)
   have:=cG ((bB ((bB pa0.gDataTypes i7).gConstructors) i15).gName)
   have:=bA ((bB ((bB pa0.gDataTypes i7).gConstructors) i15).gName)
   refine oG fun z12=>?_
   have:=b7 v17 ([((bB ((bB pa0.gDataTypes i7).gConstructors) i15).gName)]:List ByteArray)
   exact nX
  intro v17 h9
  have:=b7 v10 ([((bB pa0.gDataTypes i7).gName)]:List ByteArray)
  exact nX
 rintro⟨v10,v11⟩ h5
 dsimp only at h5
 refine NH pa0.gFunctions 1 (fun i21 v23 hl14 hI15 _ _=>?_) ?_
 ·have:=aY pa0.gFunctions
  have:=cR pa0.gFunctions i21 hl14
  refine Ok.lt fun y26 h16=>?_
  have:=congrArg wt h16
  have:=aY (v23)
  have:=aK.wt_eq y26
  have:=cG y26.gName
  have:=bA y26.gName
  refine oG fun z17=>?_
  have:=b7 v23 ([y26.gName]:List ByteArray)
  exact nX
 intro v23 h13
 exact oS
def aaU(fu:Nat):Prop:= ∀(pp:aJ),wt pp≤4194304→Ok (E8 fu pp) (fun _=>True)
theorem EL:b5 aaU:=(((((b5.ge 2147483648).and l0).and jS).and jU).and jT).imp fun fu ⟨⟨⟨⟨hfu,l0⟩,jS⟩,jU⟩,jT⟩ pp hpre=>by
 refine DL ?_ ?_
 ·refine Ok.loop1 ?_;rintro i1 ⟨⟩ hl2
  have:=aJ.wt_eq pp
  have:=aY pp.gTraits
  have:=cR pp.gTraits i1 hl2
  exact oB (l0 (bB pp.gTraits i1) bV) fun x5 _=>oW (fun _=>oR) fun g5=>nX
 rintro⟨⟩-
 refine DL ?_ ?_
 ·refine Ok.loop1 ?_;rintro i7 ⟨⟩ hl7
  have:=aJ.wt_eq pp
  have:=aY pp.gDataTypes
  have:=cR pp.gDataTypes i7 hl7
  exact oB (jS (bB pp.gDataTypes i7) bV) fun x11 _=>oW (fun _=>oR) fun g10=>nX
 rintro⟨⟩-
 refine DL ?_ ?_
 ·refine Ok.loop1 ?_;rintro i13 ⟨⟩ hl12
  have:=aJ.wt_eq pp
  have:=aY pp.gInstances
  have:=cR pp.gInstances i13 hl12
  refine Ok.lt fun y16 h14=>?_
  have:=congrArg wt h14
  exact oB (jU y16 bV) fun x19 _=>oW (fun _=>oR) fun g16=>nX
 rintro⟨⟩-
 refine DL ?_ ?_
 ·refine Ok.loop1 ?_;rintro i21 ⟨⟩ hl18
  have:=aJ.wt_eq pp
  have:=aY pp.gFunctions
  have:=cR pp.gFunctions i21 hl18
  refine Ok.lt fun y24 h20=>?_
  have:=congrArg wt h20
  exact oB (jT y24 bV) fun x27 _=>oW (fun _=>oR) fun g22=>nX
 rintro⟨⟩-
 exact oS
def KT(fu:Nat):Prop:= ∀(pa0:aJ),wt pa0≤4194304→Ok (tP fu pa0) (fun _=>True)
theorem tH:b5 KT:=(((((((b5.ge 2147483648).and EK).and bP).and dH).and eA).and eS).and EL).imp fun fu ⟨⟨⟨⟨⟨⟨hfu,EK⟩,bP⟩,dH⟩,eA⟩,eS⟩,EL⟩ pa0 hpre=>by
 refine oB4 (EK pa0 bV) fun x2 x3 x4 x5 _=>?_
 have:=aJ.wt_eq pa0
 refine oB (bP pa0.gName) fun x7 _=>oW (fun _=>oS) fun g3=>oB (dH pa0.gDeps 5) fun x10 _=>oW (fun _=>oS) fun g5=>oB (eA pa0.gDeps pa0.gName) fun x13 _=>oC (fun _=>oS) fun g7=>?_
 have:=aY pa0.gTraits
 have:=aY pa0.gDataTypes
 have:=eZ ((pa0.gTraits.length:Int)+(pa0.gDataTypes.length:Int))
 have:=aY pa0.gInstances
 have:=eZ ((aQ ((pa0.gTraits.length:Int)+(pa0.gDataTypes.length:Int)))+(pa0.gInstances.length:Int))
 have:=aY pa0.gFunctions
 have:=eZ ((aQ ((aQ ((pa0.gTraits.length:Int)+(pa0.gDataTypes.length:Int)))+(pa0.gInstances.length:Int)))+(pa0.gFunctions.length:Int))
 refine oD (fun _=>oS) fun g8=>oB (eS x2) fun x17 _=>?_;refine oC (fun g10=>?_) fun g10=>?_
 ·refine oB (eS x3) fun x20 _=>?_;refine oC (fun g12=>?_) fun g12=>?_
  ·refine oB (eS x4) fun x23 _=>?_;refine oC (fun g14=>?_) fun g14=>?_
   ·refine oB (eS x5) fun x26 _=>?_;refine oC (fun g16=>?_) fun g16=>?_
    ·exact oB (EL pa0 bV) fun x29 _=>oS
    exact oS
   exact oS
  exact oS
 exact oS
def KU(fu:Nat):Prop:= ∀(pa0:aB),wt pa0≤65536→Ok (tQ fu pa0) (fun r=>wt r.1≤20*wt pa0)
theorem tI:b5 KU:=((((((b5.ge 2147483648).and cL).and iF).and cS).and JH).and tH).imp fun fu ⟨⟨⟨⟨⟨hfu,cL⟩,iF⟩,cS⟩,JH⟩,tH⟩ pa0 hpre=>by
 refine oB (cL pa0 2 bV) fun x2 h1=>?_
 have:=aB.wt_eq x2
 refine tV (iF x2.gList bV) fun x4 x5 h2=>?_
 dsimp only at h2
 refine oB (cL pa0 1 bV) fun x7 h3=>oB (cS pa0 bV) fun x9 _=>?_;refine oW (fun g5=>?_) fun g5=>?_
 ·have:s_.size=0:=rfl
  have:=(aT:wl ([]:List ByteArray)=0∧_)
  have:=(aT:wl ([]:List aU)=0∧_)
  have:=(aT:wl ([]:List aM)=0∧_)
  have:=(aT:wl ([]:List aG)=0∧_)
  have:=(aT:wl ([]:List aK)=0∧_)
  have:=aJ.wt_mk s_ [] [] [] [] []
  exact oS
 have:=aB.wt_eq pa0
 have:=aY pa0.gList
 refine oD (fun g6=>?_) fun g6=>?_
 ·have:s_.size=0:=rfl
  have:=(aT:wl ([]:List ByteArray)=0∧_)
  have:=(aT:wl ([]:List aU)=0∧_)
  have:=(aT:wl ([]:List aM)=0∧_)
  have:=(aT:wl ([]:List aG)=0∧_)
  have:=(aT:wl ([]:List aK)=0∧_)
  have:=aJ.wt_mk s_ [] [] [] [] []
  exact oS
 have:=aY (pa0.gList)
 refine oG fun z7=>?_
 have:=cR pa0.gList 0 z7
 have:wl (List.take 1 pa0.gList)=wl (List.take 0 pa0.gList)+wt (bB pa0.gList 0)+1:=IL pa0.gList 0 z7
 have:=aB.wt_eq (bB pa0.gList 0)
 have:WO.size=7:=rfl
 refine oN (fun g8=>?_) fun g8=>?_
 ·have:s_.size=0:=rfl
  have:=(aT:wl ([]:List ByteArray)=0∧_)
  have:=(aT:wl ([]:List aU)=0∧_)
  have:=(aT:wl ([]:List aM)=0∧_)
  have:=(aT:wl ([]:List aG)=0∧_)
  have:=(aT:wl ([]:List aK)=0∧_)
  have:=aJ.wt_mk s_ [] [] [] [] []
  exact oS
 have:=congrArg ByteArray.size g8
 refine oG fun z9=>?_
 have:=cR pa0.gList 2 z9
 have:wl (List.take 3 pa0.gList)=wl (List.take 2 pa0.gList)+wt (bB pa0.gList 2)+1:=IL pa0.gList 2 z9
 have:=aB.wt_eq (bB pa0.gList 2)
 have:s_.size=0:=rfl
 refine oN (fun g10=>?_) fun g10=>?_
 ·have:=D3 g10
  have:=(aT:wl ([]:List ByteArray)=0∧_)
  have:=(aT:wl ([]:List aU)=0∧_)
  have:=(aT:wl ([]:List aM)=0∧_)
  have:=(aT:wl ([]:List aG)=0∧_)
  have:=(aT:wl ([]:List aK)=0∧_)
  have:=aJ.wt_mk s_ [] [] [] [] []
  exact oS
 refine oW (fun g11=>?_) fun g11=>?_
 ·have:=(aT:wl ([]:List ByteArray)=0∧_)
  have:=(aT:wl ([]:List aU)=0∧_)
  have:=(aT:wl ([]:List aM)=0∧_)
  have:=(aT:wl ([]:List aG)=0∧_)
  have:=(aT:wl ([]:List aK)=0∧_)
  have:=aJ.wt_mk s_ [] [] [] [] []
  exact oS
 have:=(aT:wl ([]:List aU)=0∧_)
 have:=(aT:wl ([]:List aM)=0∧_)
 have:=(aT:wl ([]:List aG)=0∧_)
 have:=(aT:wl ([]:List aK)=0∧_)
 have:=aB.wt_eq x7
 refine Ok.sok (E:=fun(v18,v19,v24,v25,v26,v27)=>v18.size+wl v19+wl v24+wl v25+wl v26+wl v27≤x7.gAtom.size+wl x4+16*wl pa0.gList) ?_ ?_
 ·refine Ok.loop0 (fun i17 (v18,v19,v24,v25,v26,v27)=>v18.size+wl v19+wl v24+wl v25+wl v26+wl v27≤x7.gAtom.size+wl x4+16*wl (List.take i17 pa0.gList)) (by exact bV) (by rintro i17 ⟨v18,v19,v24,v25,v26,v27⟩-hI;have:=jA pa0.gList i17;(try dsimp only at hI ⊢);omega) ?_;rintro i17 ⟨v18,v19,v24,v25,v26,v27⟩ hl13 hI14
  dsimp only at hI14
  have:=jB pa0.gList i17 hl13
  have:=jA pa0.gList (i17+1)
  have:=cR pa0.gList i17 hl13
  refine tV (JH (v18,v19,v24,v25,v26,v27) (bB pa0.gList i17) bV) fun x31 x32 h15=>?_
  dsimp only at h15
  refine oW (fun g16=>?_) fun g16=>?_
  ·have:=(aT:wl ([]:List ByteArray)=0∧_)
   have:=(aT:wl ([]:List aU)=0∧_)
   have:=(aT:wl ([]:List aM)=0∧_)
   have:=(aT:wl ([]:List aG)=0∧_)
   have:=(aT:wl ([]:List aK)=0∧_)
   have:=aJ.wt_mk s_ [] [] [] [] []
   exact oR
  exact nX
 rintro⟨v18,v19,v24,v25,v26,v27⟩ h12
 dsimp only at h12
 have:=aJ.wt_mk v18 v19 v24 v25 v26 v27
 refine oB (tH (aJ.mk v18 v19 v24 v25 v26 v27) bV) fun x35 _=>?_;refine oW (fun g18=>?_) fun g18=>?_
 ·have:=(aT:wl ([]:List ByteArray)=0∧_)
  have:=(aT:wl ([]:List aU)=0∧_)
  have:=(aT:wl ([]:List aM)=0∧_)
  have:=(aT:wl ([]:List aG)=0∧_)
  have:=(aT:wl ([]:List aK)=0∧_)
  have:=aJ.wt_mk s_ [] [] [] [] []
  exact oS
 exact oS
def PF(fu:Nat):Prop:= ∀(ps:ByteArray),ps.size≤16384→Ok (wD fu ps) (fun r=>wt r.1≤40*ps.size)
theorem vV:b5 PF:=(((b5.ge 2147483648).and AD).and tI).imp fun fu ⟨⟨hfu,AD⟩,tI⟩ ps hpre=>by
 refine tV (AD ps bV) fun x2 x3 h1=>?_
 dsimp only at h1
 refine oW (fun g2=>?_) fun g2=>?_
 ·have:s_.size=0:=rfl
  have:=(aT:wl ([]:List ByteArray)=0∧_)
  have:=(aT:wl ([]:List aU)=0∧_)
  have:=(aT:wl ([]:List aM)=0∧_)
  have:=(aT:wl ([]:List aG)=0∧_)
  have:=(aT:wl ([]:List aK)=0∧_)
  have:=aJ.wt_mk s_ [] [] [] [] []
  exact oS
 refine tV (tI x2 bV) fun x6 x7 h3=>?_
 dsimp only at h3
 exact oS
def PG(fu:Nat):Prop:= ∀(ps:ByteArray),ps.size≤8192→Ok (wE fu ps) (fun r=>wt r.1≤40*(ps.size+1))
theorem vW:b5 PG:=((((b5.ge 2147483648).and CH).and EJ).and vV).imp fun fu ⟨⟨⟨hfu,CH⟩,EJ⟩,vV⟩ ps hpre=>by
 refine oB (CH ps (10:UInt8) bV) fun x2 h1=>?_
 have:=(aT:wl ([]:List aJ)=0∧_)
 refine NH x2 40 (fun i3 v5 hl3 hI4 _ _=>?_) ?_
 ·have:=aY x2
  have:=cR x2 i3 hl3
  have:=bA (bB x2 i3)
  refine oB (EJ (bB x2 i3) bV) fun x9 _=>oC (fun _=>nX) fun g6=>tV (vV (bB x2 i3) bV) fun x12 x13 h7=>?_
  dsimp only at h7
  refine oW (fun g8=>?_) fun g8=>?_
  ·have:=aP.wt_mk []
   have:=aY v5
   exact oR
  have:=aY v5
  refine oD (fun g9=>?_) fun g9=>?_
  ·have:=aP.wt_mk []
   exact oR
  have:=aY (v5)
  have:=cG x12
  refine oG fun z10=>?_
  have:=b7 v5 ([x12]:List aJ)
  exact nX
 intro v5 h2
 have:=aP.wt_mk v5
 exact oS
def aeB(fu:Nat):Prop:= ∀(pc:DS),Ok (KC fu pc) (fun r=>r.1.size≤4000)
theorem JG:b5 aeB:=(b5.ge 2147483648).imp fun fu hfu pc=>by
 have:cU.size=110:=rfl
 have:cV.size=156:=rfl
 refine oG fun z1=>?_
 have:=fG cU cV
 have:c4.size=119:=rfl
 refine oG fun z2=>?_
 have:=fG (cU++cV) c4
 have:dG.size=86:=rfl
 refine oG fun z3=>Ok.lt fun d4 h4=>?_;refine oC (fun g5=>?_) fun g5=>?_
 ·have:=fG ((cU++cV)++c4) dG
  have:jL.size=120:=rfl
  refine oG fun z6=>?_
  have:=fG (((cU++cV)++c4)++dG) jL
  have:eF.size=127:=rfl
  refine oG fun z7=>?_
  have:=fG ((((cU++cV)++c4)++dG)++jL) eF
  have:fB.size=95:=rfl
  refine oG fun z8=>?_
  have:=fG (((((cU++cV)++c4)++dG)++jL)++eF) fB
  have:f9.size=107:=rfl
  refine oG fun z9=>?_
  have:=fG ((((((cU++cV)++c4)++dG)++jL)++eF)++fB) f9
  have:iL.size=51:=rfl
  refine oG fun z10=>?_
  have:=fG (((((((cU++cV)++c4)++dG)++jL)++eF)++fB)++f9) iL
  have:lC.size=140:=rfl
  refine oG fun z11=>?_
  have:=fG ((((((((cU++cV)++c4)++dG)++jL)++eF)++fB)++f9)++iL) lC
  have:oJ.size=90:=rfl
  refine oG fun z12=>?_
  have:=fG (((((((((cU++cV)++c4)++dG)++jL)++eF)++fB)++f9)++iL)++lC) oJ
  have:yY.size=1:=rfl
  refine oG fun z13=>?_
  have:=fG ((((((((((cU++cV)++c4)++dG)++jL)++eF)++fB)++f9)++iL)++lC)++oJ) yY
  exact oS
 have:=fG ((cU++cV)++c4) dG
 have:jM.size=147:=rfl
 refine oG fun z14=>?_
 have:=fG (((cU++cV)++c4)++dG) jM
 have:eF.size=127:=rfl
 refine oG fun z15=>?_
 have:=fG ((((cU++cV)++c4)++dG)++jM) eF
 have:fB.size=95:=rfl
 refine oG fun z16=>?_
 have:=fG (((((cU++cV)++c4)++dG)++jM)++eF) fB
 have:f9.size=107:=rfl
 refine oG fun z17=>?_
 have:=fG ((((((cU++cV)++c4)++dG)++jM)++eF)++fB) f9
 have:iL.size=51:=rfl
 refine oG fun z18=>?_
 have:=fG (((((((cU++cV)++c4)++dG)++jM)++eF)++fB)++f9) iL
 have:lC.size=140:=rfl
 refine oG fun z19=>?_
 have:=fG ((((((((cU++cV)++c4)++dG)++jM)++eF)++fB)++f9)++iL) lC
 have:oJ.size=90:=rfl
 refine oG fun z20=>?_
 have:=fG (((((((((cU++cV)++c4)++dG)++jM)++eF)++fB)++f9)++iL)++lC) oJ
 have:yY.size=1:=rfl
 refine oG fun z21=>?_
 have:=fG ((((((((((cU++cV)++c4)++dG)++jM)++eF)++fB)++f9)++iL)++lC)++oJ) yY
 exact oS
def aiE(fu:Nat):Prop:= ∀(pc:DS),Ok (OE fu pc) (fun r=>r.1.size≤3000)
theorem M8:b5 aiE:=(b5.ge 2147483648).imp fun fu hfu pc=>by
 refine Ok.sok (E:=fun(v1,v2)=>v1.size≤1000) ?_ ?_
 ·refine Ok.lt fun d3 h2=>?_;refine oC (fun g3=>?_) fun g3=>?_
  ·have:fA.size=50:=rfl
   have:LG.size=38:=rfl
   refine oG fun z4=>?_
   have:=fG fA LG
   exact oI
  refine oC (fun g5=>?_) fun g5=>?_
  ·have:fA.size=50:=rfl
   have:LE.size=64:=rfl
   refine oG fun z6=>?_
   have:=fG fA LE
   exact oI
  refine oC (fun g7=>?_) fun g7=>?_
  ·have:fA.size=50:=rfl
   have:K8.size=83:=rfl
   refine oG fun z8=>?_
   have:=fG fA K8
   exact oI
  refine oC (fun g9=>?_) fun g9=>?_
  ·have:fA.size=50:=rfl
   have:LA.size=45:=rfl
   refine oG fun z10=>?_
   have:=fG fA LA
   exact oI
  refine oC (fun g11=>?_) fun g11=>?_
  ·have:fA.size=50:=rfl
   have:K9.size=90:=rfl
   refine oG fun z12=>?_
   have:=fG fA K9
   exact oI
  refine oC (fun g13=>?_) fun g13=>?_
  ·have:fA.size=50:=rfl
   have:LD.size=45:=rfl
   refine oG fun z14=>?_
   have:=fG fA LD
   exact oI
  have:fA.size=50:=rfl
  have:LB.size=64:=rfl
  refine oG fun z15=>?_
  have:=fG fA LB
  exact oI
 rintro⟨v1,v2⟩ h1
 dsimp only at h1
 have:oH.size=23:=rfl
 refine oG fun z16=>?_
 have:A1.size=13:=rfl
 have:A0.size=68:=rfl
 have:AY.size=29:=rfl
 have:A2.size=43:=rfl
 have:AX.size=68:=rfl
 have:A5.size=25:=rfl
 have:A6.size=29:=rfl
 have:A3.size=45:=rfl
 have:A4.size=65:=rfl
 have:AW.size=43:=rfl
 have:wl ([A1,A0,AY,A2,AX,A5,A6,A3,A4,AW]:List ByteArray)=438:=rfl
 refine Ok.lt fun d19 h17=>Ok.lt fun y21 h18=>?_
 have:=congrArg wt h18
 simp only [bA] at this
 have:y21.size≤200:=by rw [h18];exact DS.pick_size _ (by decide) (by decide)
 have:=fG v1 oH
 refine oG fun z19=>?_
 have:=fG (v1++oH) y21
 have:yY.size=1:=rfl
 refine oG fun z20=>?_;refine Ok.sok (E:=fun(v25,v26)=>v25.size≤2000) ?_ ?_
 ·refine Ok.lt fun d27 h22=>?_;refine oC (fun g23=>?_) fun g23=>?_
  ·have:=fG ((v1++oH)++y21) yY
   have:LC.size=83:=rfl
   refine oG fun z24=>?_
   have:=fG (((v1++oH)++y21)++yY) LC
   exact oI
  have:=fG ((v1++oH)++y21) yY
  exact oI
 rintro⟨v25,v26⟩ h21
 dsimp only at h21
 refine Ok.sok (E:=fun(v31,v32)=>v31.size≤2500) ?_ ?_
 ·refine Ok.lt fun d33 h26=>?_;refine oC (fun g27=>?_) fun g27=>?_
  ·have:LF.size=77:=rfl
   refine oG fun z28=>?_
   have:=fG v25 LF
   exact oI
  exact oI
 rintro⟨v31,v32⟩ h25
 dsimp only at h25
 refine Ok.lt fun d37 h29=>?_;refine oC (fun g30=>?_) fun g30=>?_
 ·have:AZ.size=113:=rfl
  refine oG fun z31=>?_
  have:=fG v31 AZ
  refine oG fun z32=>?_
  have:=fG (v31++AZ) yY
  exact oS
 refine oG fun z33=>?_
 have:=fG v31 yY
 exact oS
def PJ(fu:Nat):Prop:= ∀(pc:DS),Ok (wK fu pc) (fun r=>r.1.size≤7001)
theorem vZ:b5 PJ:=(((b5.ge 2147483648).and JG).and M8).imp fun fu ⟨⟨hfu,JG⟩,M8⟩ pc=>by
 refine tV (JG pc) fun x2 x3 h1=>?_
 dsimp only at h1
 refine Ok.lt fun d4 h2=>oC (fun _=>oS) fun g3=>?_
 have:akE.size=1:=rfl
 refine oG fun z4=>tV (M8 d4) fun x9 x10 h5=>?_
 dsimp only at h5
 have:=fG x2 akE
 refine oG fun z6=>?_
 have:=fG (x2++akE) x9
 exact oS
def aeD(fu:Nat):Prop:= ∀(pc:DS),Ok (KE fu pc) (fun r=>wt r.1≤327680)
theorem JI:b5 aeD:=(((b5.ge 2147483648).and vZ).and vW).imp fun fu ⟨⟨hfu,vZ⟩,vW⟩ pc=>by
 refine tV (vZ pc) fun x2 x3 h1=>?_
 dsimp only at h1
 refine tV (vW x2 bV) fun x5 x6 h2=>?_
 dsimp only at h2
 have:=aP.wt_eq x5
 have:=aP.wt_mk x5.gPackages
 exact oS
end Go.Proofs.YtpioomclpaiomaaGreat.W

namespace Go.Proofs.YtpioomclpaiomaaGreat.W
set_option linter.unusedSimpArgs false
set_option linter.unusedVariables false
open Go.RowKit Go.WalkArith Go.IntWalk
def bT:Nat→Nat
 |0=>1000
 |n+1=>2*bT n+20
theorem ahC: ∀n:Nat,1000≤bT n
 |0=>Nat.le_refl _
 |n+1=>by unfold bT;have:=ahC n;omega
theorem amF(x:Int):0<x∧x≤4→bT x.toNat=2*bT (aQ (x-1)).toNat+20:=fun h=>by
 rw [eZ (x-1) (by omega)]
 obtain⟨n,rfl⟩: ∃n:Nat,x=((n+1:Nat):Int):=⟨x.toNat-1,by omega⟩
 have e:(((n+1:Nat):Int)-1).toNat=n:=by omega
 rw [e]
 simp only [Int.toNat_natCast]
 rfl
theorem ahD(x:Int):x≤4→bT x.toNat≤20000:=fun h=>by
 have:x.toNat=0∨x.toNat=1∨x.toNat=2∨x.toNat=3∨x.toNat=4:=by omega
 rcases this with h|h|h|h|h<;>rw [h]<;>decide
def bX:Nat→Nat
 |0=>3000
 |n+1=>4*bX n+22000
theorem akT: ∀n:Nat,3000≤bX n
 |0=>Nat.le_refl _
 |n+1=>by unfold bX;have:=akT n;omega
theorem amG(x:Int):0<x∧x≤4→bX x.toNat=4*bX (aQ (x-1)).toNat+22000:=fun h=>by
 rw [eZ (x-1) (by omega)]
 obtain⟨n,rfl⟩: ∃n:Nat,x=((n+1:Nat):Int):=⟨x.toNat-1,by omega⟩
 have e:(((n+1:Nat):Int)-1).toNat=n:=by omega
 rw [e]
 simp only [Int.toNat_natCast]
 rfl
theorem anE(x:Int):x≤3→bX x.toNat≤1000000:=fun h=>by
 have:x.toNat=0∨x.toNat=1∨x.toNat=2∨x.toNat=3:=by omega
 rcases this with h|h|h|h<;>rw [h]<;>decide
theorem XH:bT (1:Int).toNat=2020:=rfl
theorem an2:bX (2:Int).toNat=158000:=rfl
theorem aeG:bT (2:Int).toNat=4060:=rfl
end Go.Proofs.YtpioomclpaiomaaGreat.W

namespace Go.Proofs.YtpioomclpaiomaaGreat.W
set_option linter.unusedSimpArgs false
set_option linter.unusedVariables false
set_option maxRecDepth 20000
set_option maxHeartbeats 4000000
open Go.RowKit Go.WalkArith Go.IntWalk
attribute [local irreducible] wt wl bT bX lt
def ag9(fu:Nat):Prop:= ∀(pc:DS) (pvars:List ByteArray) (pdeep:Int),wl pvars≤1000∧ -100≤pdeep∧pdeep≤4→Ok (qX fu pc pvars pdeep) (fun r=>wt r.1≤bT pdeep.toNat)
def W3(n:Nat)(m:MD):Prop:= ∀(pc:DS) (pvars:List ByteArray) (pdeep:Int),pdeep.toNat<n→wl pvars≤1000∧ -100≤pdeep∧pdeep≤4→Ok (m pc pvars pdeep) (fun r=>wt r.1≤bT pdeep.toNat)
theorem alR{n fu:Nat}(hfu:2147483648≤fu)(fH:RN fu)(dQ:RM fu){r_sl4Ty:MD}(h_sl4Ty:W3 n r_sl4Ty):W3 (n+1) (Z4 fu r_sl4Ty):=by
 intro pc pvars pdeep hm hpre
 have:=ahC pdeep.toNat
 have:=ahC (aQ (pdeep-1)).toNat
 have:=amF pdeep
 have:=ahD (aQ (pdeep-1))
 refine Ok.lt fun d1 h1=>?_;refine oC (fun g2=>?_) fun g2=>?_
 ·have:=aY pvars
  refine oD (fun g3=>?_) fun g3=>?_
  ·refine Ok.lt fun d5 h4=>?_
   have:=aiP d1 pvars.length
   have:=aY (pvars)
   refine oG fun z5=>?_
   have:=cR pvars (d1.below pvars.length) z5
   have:=bA (bB pvars (d1.below pvars.length))
   exact oB (fH (bB pvars (d1.below pvars.length))) fun x9 h6=>oS
  refine oC (fun g7=>?_) fun g7=>?_
  ·have:fK.size=3:=rfl
   have:fE.size=4:=rfl
   have:jJ.size=4:=rfl
   have:=DJ fK fE jJ
   have:=bA fK
   have:=bA fE
   have:=bA jJ
   refine Ok.lt fun d11 h8=>Ok.lt fun y13 h9=>?_
   have:=congrArg wt h9
   simp only [bA] at this
   have:y13.size≤4:=by rw [h9];exact DS.pick_size _ (by decide) (by decide)
   have:=(aT:wl ([]:List aA)=0∧_)
   exact oB (dQ y13 ([]:List aA) bV) fun x16 h10=>oS
  refine oD (fun g11=>?_) fun g11=>?_
  ·have:fK.size=3:=rfl
   have:fE.size=4:=rfl
   have:jJ.size=4:=rfl
   have:=DJ fK fE jJ
   have:=bA fK
   have:=bA fE
   have:=bA jJ
   refine Ok.lt fun d18 h12=>Ok.lt fun y20 h13=>?_
   have:=congrArg wt h13
   simp only [bA] at this
   have:y20.size≤4:=by rw [h13];exact DS.pick_size _ (by decide) (by decide)
   have:=(aT:wl ([]:List aA)=0∧_)
   exact oB (dQ y20 ([]:List aA) bV) fun x23 h14=>oS
  refine oC (fun g15=>?_) fun g15=>?_
  ·have:=eZ (pdeep-1)
   refine tV (h_sl4Ty d1 pvars (aQ (pdeep-1)) bV bV) fun x26 x27 h16=>?_
   dsimp only at h16
   refine tV (h_sl4Ty x27 pvars (aQ (pdeep-1)) bV bV) fun x29 x30 h17=>?_
   dsimp only at h17
   have:wJ.size=4:=rfl
   have:=kX x26 x29
   exact oB (dQ wJ ([x26,x29]:List aA) bV) fun x32 h18=>oS
  have:cZ.size=4:=rfl
  have:zJ.size=3:=rfl
  have:=DJ cZ cZ zJ
  have:=bA cZ
  have:=bA zJ
  refine Ok.lt fun d33 h19=>Ok.lt fun y35 h20=>?_
  have:=congrArg wt h20
  simp only [bA] at this
  have:y35.size≤4:=by rw [h20];exact DS.pick_size _ (by decide) (by decide)
  have:=eZ (pdeep-1)
  refine tV (h_sl4Ty d33 pvars (aQ (pdeep-1)) bV bV) fun x38 x39 h21=>?_
  dsimp only at h21
  have:=cG x38
  exact oB (dQ y35 ([x38]:List aA) bV) fun x41 h22=>oS
 refine oC (fun g23=>?_) fun g23=>?_
 ·have:fK.size=3:=rfl
  have:fE.size=4:=rfl
  have:jJ.size=4:=rfl
  have:=DJ fK fE jJ
  have:=bA fK
  have:=bA fE
  have:=bA jJ
  refine Ok.lt fun d43 h24=>Ok.lt fun y45 h25=>?_
  have:=congrArg wt h25
  simp only [bA] at this
  have:y45.size≤4:=by rw [h25];exact DS.pick_size _ (by decide) (by decide)
  have:=(aT:wl ([]:List aA)=0∧_)
  exact oB (dQ y45 ([]:List aA) bV) fun x48 h26=>oS
 refine oD (fun g27=>?_) fun g27=>?_
 ·have:fK.size=3:=rfl
  have:fE.size=4:=rfl
  have:jJ.size=4:=rfl
  have:=DJ fK fE jJ
  have:=bA fK
  have:=bA fE
  have:=bA jJ
  refine Ok.lt fun d50 h28=>Ok.lt fun y52 h29=>?_
  have:=congrArg wt h29
  simp only [bA] at this
  have:y52.size≤4:=by rw [h29];exact DS.pick_size _ (by decide) (by decide)
  have:=(aT:wl ([]:List aA)=0∧_)
  exact oB (dQ y52 ([]:List aA) bV) fun x55 h30=>oS
 refine oC (fun g31=>?_) fun g31=>?_
 ·have:=eZ (pdeep-1)
  refine tV (h_sl4Ty d1 pvars (aQ (pdeep-1)) bV bV) fun x58 x59 h32=>?_
  dsimp only at h32
  refine tV (h_sl4Ty x59 pvars (aQ (pdeep-1)) bV bV) fun x61 x62 h33=>?_
  dsimp only at h33
  have:wJ.size=4:=rfl
  have:=kX x58 x61
  exact oB (dQ wJ ([x58,x61]:List aA) bV) fun x64 h34=>oS
 have:cZ.size=4:=rfl
 have:zJ.size=3:=rfl
 have:=DJ cZ cZ zJ
 have:=bA cZ
 have:=bA zJ
 refine Ok.lt fun d65 h35=>Ok.lt fun y67 h36=>?_
 have:=congrArg wt h36
 simp only [bA] at this
 have:y67.size≤4:=by rw [h36];exact DS.pick_size _ (by decide) (by decide)
 have:=eZ (pdeep-1)
 refine tV (h_sl4Ty d65 pvars (aQ (pdeep-1)) bV bV) fun x70 x71 h37=>?_
 dsimp only at h37
 have:=cG x70
 exact oB (dQ y67 ([x70]:List aA) bV) fun x73 h38=>oS
theorem am1(n:Nat):b5 fun fu=>W3 n (qX fu):=by
 induction n with
 |zero=>exact .all fun fu=>fun _ _ _ h=>absurd h (Nat.not_lt_zero _)
 |succ n ih=>exact b5.succ ((ih.and (((b5.ge 2147483648).and fH).and dQ)).imp fun fu ⟨h,⟨⟨hfu,fH⟩,dQ⟩⟩=>fun pc pvars pdeep=>by rw [qX];exact alR hfu fH dQ h pc pvars pdeep)
theorem pF:b5 ag9:=(am1 100).imp fun fu h pc pvars pdeep hpre=>h pc pvars pdeep bV hpre
def aiI(fu:Nat):Prop:= ∀(pt:aA),wt pt≤268435456→Ok (j0 fu pt) (fun r=>wt r≤wt pt)
def FH(n:Nat)(m:o5):Prop:= ∀(pt:aA),2*wt pt+1<n→wt pt≤268435456→Ok (m pt) (fun r=>wt r≤wt pt)
def y4(n:Nat)(m:lK):Prop:= ∀(plist:List aA),2*wl plist<n→wl plist≤268435456→Ok (m plist) (fun r=>wl r≤wl plist)
theorem agK{n fu:Nat}(hfu:2147483648≤fu){r_sl4Copy:o5}(h_sl4Copy:FH n r_sl4Copy){r_sl4Copies:lK}(h_sl4Copies:y4 n r_sl4Copies):FH (n+1) (GD fu r_sl4Copy r_sl4Copies):=by
 intro pt hm hpre
 have:=aA.wt_eq pt
 refine oB (h_sl4Copies pt.gArgs bV bV) fun x2 h1=>?_
 have:=aA.wt_mk pt.gKind pt.gName x2
 exact oS
theorem ZZ{n fu:Nat}(hfu:2147483648≤fu){r_sl4Copy:o5}(h_sl4Copy:FH n r_sl4Copy){r_sl4Copies:lK}(h_sl4Copies:y4 n r_sl4Copies):y4 (n+1) (zP fu r_sl4Copy r_sl4Copies):=by
 intro plist hm hpre
 have:=(aT:wl ([]:List aA)=0∧_)
 refine NH plist 1 (fun i1 v3 hl2 hI3 _ _=>?_) ?_
 ·have:=aY plist
  have:=cR plist i1 hl2
  refine oB (h_sl4Copy (bB plist i1) bV bV) fun x7 h4=>?_
  have:=aY (v3)
  have:=cG x7
  refine oG fun z5=>?_
  have:=b7 v3 ([x7]:List aA)
  exact nX
 intro v3 h1
 exact oS
theorem aj2(n:Nat):b5 fun fu=>FH n (j0 fu)∧y4 n (kO fu):=by
 induction n with
 |zero=>exact .all fun fu=>⟨fun _ h=>absurd h (Nat.not_lt_zero _),fun _ h=>absurd h (Nat.not_lt_zero _)⟩
 |succ n ih=>exact b5.succ ((ih.and (b5.ge 2147483648)).imp fun fu ⟨h,hfu⟩=>⟨fun pt=>by rw [j0];exact agK hfu h.1 h.2 pt,fun plist=>by rw [kO];exact ZZ hfu h.1 h.2 plist⟩)
theorem ND:b5 aiI:=(aj2 8589934592).imp fun fu h pt hpre=>h.1 pt bV hpre
def aiM(fu:Nat):Prop:= ∀(ptrait:ByteArray) (pt:aA),ptrait.size+wt pt≤67108864→Ok (GG fu ptrait pt) (fun r=>wt r≤ptrait.size+wt pt+1)
theorem FU:b5 aiM:=((b5.ge 2147483648).and ND).imp fun fu ⟨hfu,ND⟩ ptrait pt hpre=>by
 refine oB (ND pt bV) fun x2 h1=>?_
 have:=cG x2
 have:=aA.wt_mk 3 ptrait ([x2]:List aA)
 exact oS
def aiK(fu:Nat):Prop:= ∀(pc:DS) (pdeep:Int),-100≤pdeep∧pdeep≤4→Ok (sY fu pc pdeep) (fun r=>wt r.1≤bT pdeep.toNat+60)
theorem kR:b5 aiK:=((((b5.ge 2147483648).and pF).and FU).and dQ).imp fun fu ⟨⟨⟨hfu,pF⟩,FU⟩,dQ⟩ pc pdeep hpre=>by
 have:=ahC pdeep.toNat
 have:=ahD pdeep
 have:gO.size=1:=rfl
 have:AK.size=1:=rfl
 have:=kX gO AK
 have:=bA gO
 have:=bA AK
 refine tV (pF pc ([gO,AK]:List ByteArray) pdeep bV) fun x2 x3 h1=>?_
 dsimp only at h1
 refine Ok.lt fun d4 h2=>?_;refine oC (fun g3=>?_) fun g3=>?_
 ·have:eN.size=3:=rfl
  have:bD.size=4:=rfl
  have:=kX eN bD
  have:=bA eN
  have:=bA bD
  refine Ok.lt fun d7 h4=>Ok.lt fun y9 h5=>?_
  have:=congrArg wt h5
  simp only [bA] at this
  have:y9.size≤4:=by rw [h5];exact DS.pick_size _ (by decide) (by decide)
  exact oB (FU y9 x2 bV) fun x12 h6=>oS
 refine oC (fun g7=>?_) fun g7=>?_
 ·have:eN.size=3:=rfl
  refine oB (FU eN x2 bV) fun x15 h8=>?_
  have:cZ.size=4:=rfl
  have:=cG x15
  exact oB (dQ cZ ([x15]:List aA) bV) fun x17 h9=>oS
 refine oC (fun g10=>?_) fun g10=>?_
 ·have:bD.size=4:=rfl
  have:=(aT:wl ([]:List aA)=0∧_)
  have:=aA.wt_mk 4 bD []
  exact oS
 exact oS
def aaK(fu:Nat):Prop:= ∀(pk:Int) (pname:ByteArray) (pargs:List aH),pname.size+wl pargs≤67108864→Ok (tS fu pk pname pargs) (fun r=>wt r=pname.size+wl pargs)
theorem nD:b5 aaK:=(b5.ge 2147483648).imp fun fu hfu pk pname pargs hpre=>by
 have:=(aT:wl ([]:List aH)=0∧_)
 have:=aY (pargs)
 refine oG fun z1=>?_
 have:s_.size=0:=rfl
 have:=(aT:wl ([]:List aA)=0∧_)
 have:=aA.wt_mk 0 s_ []
 have:=b7 ([]:List aH) pargs
 have:=(aT:wl ([]:List bM)=0∧_)
 have:=aH.wt_mk pk s_ pname 0 (aA.mk 0 s_ []) (([])++pargs) []
 exact oS
def adZ(fu:Nat):Prop:= ∀(pq0:DS) (pa1:List ByteArray) (pString:Int),wl pa1+10*pString.toNat≤900∧ -100≤pString∧pString≤3→Ok (lU fu pq0 pa1 pString) (fun r=>wt r.1≤bX pString.toNat)
def IN(n:Nat)(m:sJ):Prop:= ∀(pq0:DS) (pa1:List ByteArray) (pString:Int),pString.toNat<n→wl pa1+10*pString.toNat≤900∧ -100≤pString∧pString≤3→Ok (m pq0 pa1 pString) (fun r=>wt r.1≤bX pString.toNat)
theorem abS{n fu:Nat}(hfu:2147483648≤fu)(fV:AQ fu)(fL:AP fu)(nD:aaK fu)(pF:ag9 fu){r_sl11Expr:sJ}(h_sl11Expr:IN n r_sl11Expr):IN (n+1) (J2 fu r_sl11Expr):=by
 intro pq0 pa1 pString hm hpre
 have:=akT pString.toNat
 have:=akT (aQ (pString-1)).toNat
 have:=amG pString
 have:=XH
 have:=anE pString
 have:=eZ (pString-1)
 refine Ok.lt fun d1 h1=>?_;refine Ok.sok (E:=fun v3=>pString≤0→v3≤2) ?_ ?_
 ·refine oD (fun g3=>?_) fun g3=>?_
  ·have:=DS.below_lt pq0 (n:=13) (by decide)
   exact oI
  have:=DS.below_lt pq0 (n:=13) (by decide)
  exact oI
 intro v3 h2
 refine oD (fun g4=>?_) fun g4=>?_
 ·refine Ok.lt fun d6 h5=>?_
  have:s_.size=0:=rfl
  have:=DS.below_lt d1 (n:=2) (by decide)
  have:=(aT:wl ([]:List aA)=0∧_)
  have:=aA.wt_mk 0 s_ []
  have:=(aT:wl ([]:List aH)=0∧_)
  have:=(aT:wl ([]:List bM)=0∧_)
  have:=aH.wt_mk 2 s_ s_ (d1.below 2:Int) (aA.mk 0 s_ []) [] []
  exact oS
 refine DL ?_ ?_
 ·exact oD (fun _=>oI) fun g7=>oI
 intro v8 _
 refine oC (fun g8=>?_) fun g8=>?_
 ·have:=aY pa1
  refine oD (fun g9=>?_) fun g9=>?_
  ·have:=aY (pa1)
   refine oG fun z10=>Ok.lt fun d13 h11=>?_
   have:=amS d1 pa1
   refine Ok.lt fun y15 h12=>?_
   have:=congrArg wt h12
   simp only [bA] at this
   exact O0 (fV y15) fun x18 h13 h13B=>oS
  refine Ok.lt fun d19 h14=>?_
  have:=DS.below_lt d1 (n:=20) (by decide)
  have:=eZ ((d1.below 20:Int)-5)
  exact O0 (fL (aQ ((d1.below 20:Int)-5)) bV) fun x22 h15 h15B=>oS
 refine oD (fun g16=>?_) fun g16=>?_
 ·have:s_f.size=1:=rfl
  have:s_g.size=1:=rfl
  have:=kX s_f s_g
  have:=bA s_f
  have:=bA s_g
  refine Ok.lt fun d24 h17=>Ok.lt fun y26 h18=>?_
  have:=congrArg wt h18
  simp only [bA] at this
  have:y26.size≤1:=by rw [h18];exact DS.pick_size _ (by decide) (by decide)
  have:=eZ (pString-1)
  refine tV (h_sl11Expr d24 pa1 (aQ (pString-1)) bV bV) fun x29 x30 h19=>?_
  dsimp only at h19
  have:=cG x29
  exact oB (nD 4 y26 ([x29]:List aH) bV) fun x32 h20=>oS
 refine oD (fun g21=>?_) fun g21=>?_
 ·have:bD.size=4:=rfl
  have:eN.size=3:=rfl
  have:=kX bD eN
  have:=bA bD
  have:=bA eN
  refine Ok.lt fun d34 h22=>Ok.lt fun y36 h23=>?_
  have:=congrArg wt h23
  simp only [bA] at this
  have:y36.size≤4:=by rw [h23];exact DS.pick_size _ (by decide) (by decide)
  have:=eZ (pString-1)
  refine tV (h_sl11Expr d34 pa1 (aQ (pString-1)) bV bV) fun x39 x40 h24=>?_
  dsimp only at h24
  refine tV (h_sl11Expr x40 pa1 (aQ (pString-1)) bV bV) fun x42 x43 h25=>?_
  dsimp only at h25
  have:fC.size=1:=rfl
  have:s_.size=0:=rfl
  have:=(aT:wl ([]:List aA)=0∧_)
  have:=aA.wt_mk 0 s_ []
  have:=kX x39 x42
  have:=(aT:wl ([]:List bM)=0∧_)
  have:=aH.wt_mk 5 y36 fC 0 (aA.mk 0 s_ []) ([x39,x42]:List aH) []
  exact oS
 refine oD (fun g26=>?_) fun g26=>?_
 ·have:=eZ (pString-1)
  refine tV (h_sl11Expr d1 pa1 (aQ (pString-1)) bV bV) fun x46 x47 h27=>?_
  dsimp only at h27
  refine tV (h_sl11Expr x47 pa1 (aQ (pString-1)) bV bV) fun x49 x50 h28=>?_
  dsimp only at h28
  have:cN.size=4:=rfl
  have:=kX x46 x49
  exact oB (nD 6 cN ([x46,x49]:List aH) bV) fun x52 h29=>oS
 refine oD (fun g30=>?_) fun g30=>?_
 ·have:=(aT:wl ([]:List ByteArray)=0∧_)
  have:=aY (pa1)
  refine oG fun z31=>?_
  have:=b7 ([]:List ByteArray) pa1
  have:s_h.size=1:=rfl
  have:s_t.size=1:=rfl
  have:=kX s_h s_t
  have:=bA s_h
  have:=bA s_t
  refine oG fun z32=>?_
  have:=eZ (pString-1)
  refine tV (h_sl11Expr d1 pa1 (aQ (pString-1)) bV bV) fun x57 x58 h33=>?_
  dsimp only at h33
  refine tV (h_sl11Expr x58 pa1 (aQ (pString-1)) bV bV) fun x60 x61 h34=>?_
  dsimp only at h34
  have:=b7 (([])++pa1) ([s_h,s_t]:List ByteArray)
  refine tV (h_sl11Expr x61 ((([])++pa1)++([s_h,s_t]:List ByteArray)) (aQ (pString-1)) bV bV) fun x63 x64 h35=>?_
  dsimp only at h35
  have:s_.size=0:=rfl
  have:=(aT:wl ([]:List aA)=0∧_)
  have:=aA.wt_mk 0 s_ []
  have:=cG x57
  have:gB.size=3:=rfl
  have:=bM.wt_mk gB [] x60
  have:cN.size=4:=rfl
  have:=bM.wt_mk cN ([s_h,s_t]:List ByteArray) x63
  have:=kX (bM.mk gB [] x60) (bM.mk cN ([s_h,s_t]:List ByteArray) x63)
  have:=aH.wt_mk 7 s_ s_ 0 (aA.mk 0 s_ []) ([x57]:List aH) ([(bM.mk gB [] x60),(bM.mk cN ([s_h,s_t]:List ByteArray) x63)]:List bM)
  exact oS
 refine oD (fun g36=>?_) fun g36=>?_
 ·have:=eZ (pString-1)
  refine tV (h_sl11Expr d1 pa1 (aQ (pString-1)) bV bV) fun x67 x68 h37=>?_
  dsimp only at h37
  have:=(aT:wl ([]:List ByteArray)=0∧_)
  have:=aY (pa1)
  refine oG fun z38=>?_
  have:=b7 ([]:List ByteArray) pa1
  have:qT.size=1:=rfl
  have:=cG qT
  have:=bA qT
  refine oG fun z39=>?_
  have:=b7 (([])++pa1) ([qT]:List ByteArray)
  refine tV (h_sl11Expr x68 ((([])++pa1)++([qT]:List ByteArray)) (aQ (pString-1)) bV bV) fun x72 x73 h40=>?_
  dsimp only at h40
  have:=kX x67 x72
  exact oB (nD 8 qT ([x67,x72]:List aH) bV) fun x75 h41=>oS
 refine oD (fun g42=>?_) fun g42=>?_
 ·have:=eZ (pString-1)
  refine tV (h_sl11Expr d1 pa1 (aQ (pString-1)) bV bV) fun x78 x79 h43=>?_
  dsimp only at h43
  refine tV (h_sl11Expr x79 pa1 (aQ (pString-1)) bV bV) fun x81 x82 h44=>?_
  dsimp only at h44
  refine tV (h_sl11Expr x82 pa1 (aQ (pString-1)) bV bV) fun x84 x85 h45=>?_
  dsimp only at h45
  have:s_.size=0:=rfl
  have:=DJ x78 x81 x84
  exact oB (nD 9 s_ ([x78,x81,x84]:List aH) bV) fun x87 h46=>oS
 refine oD (fun g47=>?_) fun g47=>?_
 ·have:yZ.size=1:=rfl
  have:DV.size=1:=rfl
  have:MF.size=1:=rfl
  have:MG.size=1:=rfl
  have:MH.size=1:=rfl
  have:=ao5 yZ DV MF MG MH
  have:=bA yZ
  have:=bA DV
  have:=bA MF
  have:=bA MG
  have:=bA MH
  refine Ok.lt fun d89 h48=>Ok.lt fun y91 h49=>?_
  have:=congrArg wt h49
  simp only [bA] at this
  have:y91.size≤1:=by rw [h49];exact DS.pick_size _ (by decide) (by decide)
  have:=eZ (pString-1)
  refine tV (h_sl11Expr d89 pa1 (aQ (pString-1)) bV bV) fun x94 x95 h50=>?_
  dsimp only at h50
  refine tV (h_sl11Expr x95 pa1 (aQ (pString-1)) bV bV) fun x97 x98 h51=>?_
  dsimp only at h51
  have:=kX x94 x97
  exact oB (nD 10 y91 ([x94,x97]:List aH) bV) fun x100 h52=>oS
 refine oD (fun g53=>?_) fun g53=>?_
 ·have:=eZ (pString-1)
  refine tV (h_sl11Expr d1 pa1 (aQ (pString-1)) bV bV) fun x103 x104 h54=>?_
  dsimp only at h54
  have:bD.size=4:=rfl
  have:s_.size=0:=rfl
  have:=(aT:wl ([]:List aA)=0∧_)
  have:=aA.wt_mk 0 s_ []
  have:=cG x103
  have:=(aT:wl ([]:List bM)=0∧_)
  have:=aH.wt_mk 11 bD s_ 0 (aA.mk 0 s_ []) ([x103]:List aH) []
  exact oS
 refine oD (fun g55=>?_) fun g55=>?_
 ·have:gO.size=1:=rfl
  have:=cG gO
  have:=bA gO
  refine tV (pF d1 ([gO]:List ByteArray) 1 bV) fun x107 x108 h56=>?_
  dsimp only at h56
  have:=eZ (pString-1)
  refine tV (h_sl11Expr x108 pa1 (aQ (pString-1)) bV bV) fun x110 x111 h57=>?_
  dsimp only at h57
  have:s_.size=0:=rfl
  have:=cG x110
  have:=(aT:wl ([]:List bM)=0∧_)
  have:=aH.wt_mk 12 s_ s_ 0 x107 ([x110]:List aH) []
  exact oS
 refine Ok.lt fun d112 h58=>?_
 have:=DS.below_lt d1 (n:=20) (by decide)
 have:=eZ ((d1.below 20:Int)-5)
 exact O0 (fL (aQ ((d1.below 20:Int)-5)) bV) fun x115 h59 h59B=>oS
theorem ae6(n:Nat):b5 fun fu=>IN n (lU fu):=by
 induction n with
 |zero=>exact .all fun fu=>fun _ _ _ h=>absurd h (Nat.not_lt_zero _)
 |succ n ih=>exact b5.succ ((ih.and (((((b5.ge 2147483648).and fV).and fL).and nD).and pF)).imp fun fu ⟨h,⟨⟨⟨⟨hfu,fV⟩,fL⟩,nD⟩,pF⟩⟩=>fun pq0 pa1 pString=>by rw [lU];exact abS hfu fV fL nD pF h pq0 pa1 pString)
theorem uD:b5 adZ:=(ae6 100).imp fun fu h pq0 pa1 pString hpre=>h pq0 pa1 pString bV hpre
def akK(fu:Nat):Prop:=Ok (BQ fu) (fun r=>wt r≤3)
theorem rJ:b5 akK:=((b5.ge 2147483648).and dQ).imp fun fu ⟨hfu,dQ⟩=>by
 have:fK.size=3:=rfl
 have:=(aT:wl ([]:List aA)=0∧_)
 exact oB (dQ fK ([]:List aA) bV) fun x2 h1=>oS
def ad7(fu:Nat):Prop:= ∀(pq0:DS),Ok (KA fu pq0) (fun r=>wt r.1≤1000000)
theorem JE:b5 ad7:=((((((((b5.ge 2147483648).and fL).and rJ).and fH).and dQ).and pF).and kR).and uD).imp fun fu ⟨⟨⟨⟨⟨⟨⟨hfu,fL⟩,rJ⟩,fH⟩,dQ⟩,pF⟩,kR⟩,uD⟩ pq0=>by
 have:=XH
 have:=aeG
 have:=an2
 have:bD.size=4:=rfl
 have:kC.size=2:=rfl
 have:eN.size=3:=rfl
 have:=DJ bD kC eN
 have:=bA bD
 have:=bA kC
 have:=bA eN
 refine Ok.lt fun d1 h1=>Ok.lt fun y3 h2=>?_
 have:=congrArg wt h2
 simp only [bA] at this
 have:y3.size≤4:=by rw [h2];exact DS.pick_size _ (by decide) (by decide)
 refine Ok.lt fun d5 h3=>?_
 have:=DS.below_lt d1 (n:=9) (by decide)
 refine O0 (fL (d1.below 9:Int) bV) fun x8 h4 h4B=>?_;refine Ok.sok (E:=fun(v9,v10,v11,v12,v13,v14)=>wl v9≤10∧v11.size+wl v12≤100∧wl v13≤100) ?_ ?_
 ·refine Ok.lt fun d15 h6=>?_;refine oC (fun g7=>?_) fun g7=>?_
  ·refine oB (rJ) fun x19 h8=>?_
   have:=aA.wt_eq x19
   have:=(aT:wl ([]:List ByteArray)=0∧_)
   have:=(aT:wl ([]:List aI)=0∧_)
   exact oI
  refine oC (fun g9=>?_) fun g9=>?_
  ·have:gO.size=1:=rfl
   refine oB (fH gO) fun x22 h10=>?_
   have:cZ.size=4:=rfl
   have:=cG x22
   refine oB (dQ cZ ([x22]:List aA) bV) fun x24 h11=>?_
   have:=cG gO
   have:=bA gO
   have:=aA.wt_eq x24
   have:=aI.wt_mk y3 x22
   have:=cG (aI.mk y3 x22)
   exact oI
  refine oC (fun g12=>?_) fun g12=>?_
  ·have:gO.size=1:=rfl
   refine oB (fH gO) fun x27 h13=>?_
   have:AK.size=1:=rfl
   refine oB (fH AK) fun x29 h14=>?_
   have:wJ.size=4:=rfl
   have:=kX x27 x29
   refine oB (dQ wJ ([x27,x29]:List aA) bV) fun x31 h15=>?_
   have:=kX gO AK
   have:=bA gO
   have:=bA AK
   have:=aA.wt_eq x31
   have:=(aT:wl ([]:List aI)=0∧_)
   exact oI
  have:gO.size=1:=rfl
  refine oB (fH gO) fun x33 h16=>?_
  have:=cG gO
  have:=bA gO
  have:=aA.wt_eq x33
  have:eU.size=3:=rfl
  have:=aI.wt_mk eU x33
  have:=cG (aI.mk eU x33)
  exact oI
 rintro⟨v9,v10,v11,v12,v13,v14⟩ h5
 dsimp only at h5
 refine Ok.sok (E:=fun(v38,v35,v36,v37,v34)=>wl v38+v37.size≤5000) ?_ ?_
 ·refine Ok.lt fun d39 h18=>?_;refine oC (fun g19=>?_) fun g19=>?_
  ·refine tV (pF d39 v9 1 bV) fun x43 x44 h20=>?_
   dsimp only at h20
   have:=aA.wt_eq x43
   exact oI
  have:s_.size=0:=rfl
  have:=(aT:wl ([]:List aA)=0∧_)
  exact oI
 rintro⟨v38,v35,v36,v37,v34⟩ h17
 dsimp only at h17
 refine Ok.lt fun d45 h21=>Ok.lt fun d47 h22=>?_;refine oC (fun g23=>?_) fun g23=>?_
 ·refine tV (kR d47 2 bV) fun x51 x52 h24=>?_
  dsimp only at h24
  have:=DS.below_lt v34 (n:=4) (by decide)
  have:=aA.wt_mk v36 v37 v38
  have:fC.size=1:=rfl
  have:eY.size=1:=rfl
  have:=cG eY
  have:=bA eY
  have:=aN.wt_mk fC ([eY]:List ByteArray) x8
  have:=cG (aN.mk fC ([eY]:List ByteArray) x8)
  have:=aG.wt_mk y3 v9 x51 v13 (decide (v34.below 4=0)) v35 (aA.mk v36 v37 v38) ([(aN.mk fC ([eY]:List ByteArray) x8)]:List aN)
  exact oS
 refine oC (fun g25=>?_) fun g25=>?_
 ·have:gO.size=1:=rfl
  have:s_c.size=1:=rfl
  have:=kX gO s_c
  have:=bA gO
  have:=bA s_c
  refine Ok.lt fun d54 h26=>Ok.lt fun y56 h27=>?_
  have:=congrArg wt h27
  simp only [bA] at this
  have:y56.size≤1:=by rw [h27];exact DS.pick_size _ (by decide) (by decide)
  have:=aY (v9)
  have:=cG y56
  have:=bA y56
  refine oG fun z28=>?_
  have:=b7 v9 ([y56]:List ByteArray)
  have:=aA.wt_mk v10 v11 v12
  have:=DS.below_lt v34 (n:=4) (by decide)
  have:=aA.wt_mk v36 v37 v38
  have:fC.size=1:=rfl
  have:eY.size=1:=rfl
  have:=cG eY
  have:=bA eY
  have:=aN.wt_mk fC ([eY]:List ByteArray) x8
  have:=cG (aN.mk fC ([eY]:List ByteArray) x8)
  have:=aG.wt_mk y3 (v9++([y56]:List ByteArray)) (aA.mk v10 v11 v12) v13 (decide (v34.below 4=0)) v35 (aA.mk v36 v37 v38) ([(aN.mk fC ([eY]:List ByteArray) x8)]:List aN)
  exact oS
 refine oC (fun g29=>?_) fun g29=>?_
 ·refine tV (kR d47 1 bV) fun x61 x62 h30=>?_
  dsimp only at h30
  have:=aY (v13)
  have:=aI.wt_mk kC x61
  have:=cG (aI.mk kC x61)
  refine oG fun z31=>?_
  have:=aA.wt_mk v10 v11 v12
  have:=b7 v13 ([(aI.mk kC x61)]:List aI)
  have:=DS.below_lt v34 (n:=4) (by decide)
  have:=aA.wt_mk v36 v37 v38
  have:fC.size=1:=rfl
  have:eY.size=1:=rfl
  have:=cG eY
  have:=bA eY
  have:=aN.wt_mk fC ([eY]:List ByteArray) x8
  have:=cG (aN.mk fC ([eY]:List ByteArray) x8)
  have:=aG.wt_mk y3 v9 (aA.mk v10 v11 v12) (v13++([(aI.mk kC x61)]:List aI)) (decide (v34.below 4=0)) v35 (aA.mk v36 v37 v38) ([(aN.mk fC ([eY]:List ByteArray) x8)]:List aN)
  exact oS
 refine oC (fun g32=>?_) fun g32=>?_
 ·have:eY.size=1:=rfl
  have:qT.size=1:=rfl
  have:=kX eY qT
  have:=bA eY
  have:=bA qT
  refine tV (uD d47 ([eY,qT]:List ByteArray) 2 bV) fun x66 x67 h33=>?_
  dsimp only at h33
  have:=aA.wt_mk v10 v11 v12
  have:=DS.below_lt v34 (n:=4) (by decide)
  have:=aA.wt_mk v36 v37 v38
  have:fC.size=1:=rfl
  have:=cG eY
  have:=aN.wt_mk fC ([eY]:List ByteArray) x66
  have:=cG (aN.mk fC ([eY]:List ByteArray) x66)
  have:=aG.wt_mk y3 v9 (aA.mk v10 v11 v12) v13 (decide (v34.below 4=0)) v35 (aA.mk v36 v37 v38) ([(aN.mk fC ([eY]:List ByteArray) x66)]:List aN)
  exact oS
 refine oC (fun g34=>?_) fun g34=>?_
 ·refine oB (rJ) fun x70 h35=>?_
  have:=aA.wt_mk v10 v11 v12
  have:=DS.below_lt v34 (n:=4) (by decide)
  have:fC.size=1:=rfl
  have:eY.size=1:=rfl
  have:=cG eY
  have:=bA eY
  have:=aN.wt_mk fC ([eY]:List ByteArray) x8
  have:=cG (aN.mk fC ([eY]:List ByteArray) x8)
  have:=aG.wt_mk y3 v9 (aA.mk v10 v11 v12) v13 (decide (v34.below 4=0)) v35 x70 ([(aN.mk fC ([eY]:List ByteArray) x8)]:List aN)
  exact oS
 refine oC (fun g36=>?_) fun g36=>?_
 ·have:=aA.wt_mk v10 v11 v12
  have:=DS.below_lt v34 (n:=4) (by decide)
  have:=aA.wt_mk v36 v37 v38
  have:fC.size=1:=rfl
  have:=(aT:wl ([]:List ByteArray)=0∧_)
  have:=aN.wt_mk fC ([]) x8
  have:=cG (aN.mk fC ([]) x8)
  have:=aG.wt_mk y3 v9 (aA.mk v10 v11 v12) v13 (decide (v34.below 4=0)) v35 (aA.mk v36 v37 v38) ([(aN.mk fC ([]) x8)]:List aN)
  exact oS
 have:=aA.wt_mk v10 v11 v12
 have:=DS.below_lt v34 (n:=4) (by decide)
 have:=aA.wt_mk v36 v37 v38
 have:fC.size=1:=rfl
 have:eY.size=1:=rfl
 have:=cG eY
 have:=bA eY
 have:=aN.wt_mk fC ([eY]:List ByteArray) x8
 have:=cG (aN.mk fC ([eY]:List ByteArray) x8)
 have:=aG.wt_mk y3 v9 (aA.mk v10 v11 v12) v13 (decide (v34.below 4=0)) v35 (aA.mk v36 v37 v38) ([(aN.mk fC ([eY]:List ByteArray) x8)]:List aN)
 exact oS
def akH(fu:Nat):Prop:= ∀(pc:DS),Ok (TL fu pc) (fun r=>wt r.1≤2000000)
theorem SG:b5 akH:=((((((b5.ge 2147483648).and fH).and rJ).and fV).and kR).and uD).imp fun fu ⟨⟨⟨⟨⟨hfu,fH⟩,rJ⟩,fV⟩,kR⟩,uD⟩ pc=>by
 have:=XH
 have:=aeG
 have:=anE 3 (by decide)
 have:s_f.size=1:=rfl
 have:s_g.size=1:=rfl
 have:=kX s_f s_g
 have:=bA s_f
 have:=bA s_g
 refine Ok.lt fun d1 h1=>Ok.lt fun y3 h2=>?_
 have:=congrArg wt h2
 simp only [bA] at this
 have:y3.size≤1:=by rw [h2];exact DS.pick_size _ (by decide) (by decide)
 have:gO.size=1:=rfl
 refine oB (fH gO) fun x6 h3=>oB (rJ) fun x8 h4=>?_
 have:eY.size=1:=rfl
 refine O0 (fV eY) fun x10 h5 h5B=>Ok.lt fun d11 h6=>?_;refine oC (fun g7=>?_) fun g7=>?_
 ·refine tV (kR d11 2 bV) fun x15 x16 h8=>?_
  dsimp only at h8
  have:=cG gO
  have:=bA gO
  have:bD.size=4:=rfl
  have:=aI.wt_mk bD x6
  have:=cG (aI.mk bD x6)
  have:=aR.wt_mk eY x6
  have:=cG (aR.mk eY x6)
  have:fC.size=1:=rfl
  have:s_.size=0:=rfl
  have:=(aT:wl ([]:List aA)=0∧_)
  have:=aA.wt_mk 0 s_ []
  have:=cG x10
  have:=(aT:wl ([]:List bM)=0∧_)
  have:=aH.wt_mk 5 bD fC 0 (aA.mk 0 s_ []) ([x10]:List aH) []
  have:=aK.wt_mk y3 ([gO]:List ByteArray) ([(aI.mk bD x6)]:List aI) ([(aR.mk eY x6)]:List aR) x15 (aH.mk 5 bD fC 0 (aA.mk 0 s_ []) ([x10]:List aH) [])
  exact oS
 refine oC (fun g9=>?_) fun g9=>?_
 ·have:qT.size=1:=rfl
  have:=kX eY qT
  have:=bA eY
  have:=bA qT
  refine Ok.lt fun d18 h10=>Ok.lt fun y20 h11=>?_
  have:=congrArg wt h11
  simp only [bA] at this
  have:y20.size≤1:=by rw [h11];exact DS.pick_size _ (by decide) (by decide)
  have:=aR.wt_mk eY x6
  have:=cG (aR.mk eY x6)
  have:=aR.wt_mk y20 x8
  have:=cG (aR.mk y20 x8)
  refine oG fun z12=>?_
  have:=cG gO
  have:=bA gO
  have:bD.size=4:=rfl
  have:=aI.wt_mk bD x6
  have:=cG (aI.mk bD x6)
  have:=b7 ([(aR.mk eY x6)]:List aR) ([(aR.mk y20 x8)]:List aR)
  have:fC.size=1:=rfl
  have:s_.size=0:=rfl
  have:=(aT:wl ([]:List aA)=0∧_)
  have:=aA.wt_mk 0 s_ []
  have:=cG x10
  have:=(aT:wl ([]:List bM)=0∧_)
  have:=aH.wt_mk 5 bD fC 0 (aA.mk 0 s_ []) ([x10]:List aH) []
  have:=aK.wt_mk y3 ([gO]:List ByteArray) ([(aI.mk bD x6)]:List aI) (([(aR.mk eY x6)]:List aR)++([(aR.mk y20 x8)]:List aR)) x8 (aH.mk 5 bD fC 0 (aA.mk 0 s_ []) ([x10]:List aH) [])
  exact oS
 refine oC (fun g13=>?_) fun g13=>?_
 ·have:qT.size=1:=rfl
  have:=kX eY qT
  have:=bA eY
  have:=bA qT
  refine tV (uD d11 ([eY,qT]:List ByteArray) 3 bV) fun x25 x26 h14=>?_
  dsimp only at h14
  have:=cG gO
  have:=bA gO
  have:bD.size=4:=rfl
  have:=aI.wt_mk bD x6
  have:=cG (aI.mk bD x6)
  have:=aR.wt_mk eY x6
  have:=cG (aR.mk eY x6)
  have:=aK.wt_mk y3 ([gO]:List ByteArray) ([(aI.mk bD x6)]:List aI) ([(aR.mk eY x6)]:List aR) x8 x25
  exact oS
 refine oC (fun g15=>?_) fun g15=>?_
 ·refine tV (kR d11 1 bV) fun x29 x30 h16=>?_
  dsimp only at h16
  have:=cG gO
  have:=bA gO
  have:bD.size=4:=rfl
  have:=aI.wt_mk bD x29
  have:=cG (aI.mk bD x29)
  have:=aR.wt_mk eY x6
  have:=cG (aR.mk eY x6)
  have:fC.size=1:=rfl
  have:s_.size=0:=rfl
  have:=(aT:wl ([]:List aA)=0∧_)
  have:=aA.wt_mk 0 s_ []
  have:=cG x10
  have:=(aT:wl ([]:List bM)=0∧_)
  have:=aH.wt_mk 5 bD fC 0 (aA.mk 0 s_ []) ([x10]:List aH) []
  have:=aK.wt_mk y3 ([gO]:List ByteArray) ([(aI.mk bD x29)]:List aI) ([(aR.mk eY x6)]:List aR) x8 (aH.mk 5 bD fC 0 (aA.mk 0 s_ []) ([x10]:List aH) [])
  exact oS
 refine oC (fun g17=>?_) fun g17=>?_
 ·have:s_.size=0:=rfl
  have:CS.size=2:=rfl
  have:=kX s_ CS
  have:=bA s_
  have:=bA CS
  refine Ok.lt fun d32 h18=>Ok.lt fun y34 h19=>?_
  have:=congrArg wt h19
  simp only [bA] at this
  have:y34.size≤2:=by rw [h19];exact DS.pick_size _ (by decide) (by decide)
  have:=cG gO
  have:=bA gO
  have:bD.size=4:=rfl
  have:=aI.wt_mk bD x6
  have:=cG (aI.mk bD x6)
  have:=aR.wt_mk eY x6
  have:=cG (aR.mk eY x6)
  have:fC.size=1:=rfl
  have:=(aT:wl ([]:List aA)=0∧_)
  have:=aA.wt_mk 0 s_ []
  have:=cG x10
  have:=(aT:wl ([]:List bM)=0∧_)
  have:=aH.wt_mk 5 bD fC 0 (aA.mk 0 s_ []) ([x10]:List aH) []
  have:=aK.wt_mk y34 ([gO]:List ByteArray) ([(aI.mk bD x6)]:List aI) ([(aR.mk eY x6)]:List aR) x8 (aH.mk 5 bD fC 0 (aA.mk 0 s_ []) ([x10]:List aH) [])
  exact oS
 have:=cG gO
 have:=bA gO
 have:bD.size=4:=rfl
 have:=aI.wt_mk bD x6
 have:=cG (aI.mk bD x6)
 have:=aR.wt_mk eY x6
 have:=cG (aR.mk eY x6)
 have:fC.size=1:=rfl
 have:s_.size=0:=rfl
 have:=(aT:wl ([]:List aA)=0∧_)
 have:=aA.wt_mk 0 s_ []
 have:=cG x10
 have:=(aT:wl ([]:List bM)=0∧_)
 have:=aH.wt_mk 5 bD fC 0 (aA.mk 0 s_ []) ([x10]:List aH) []
 have:=aK.wt_mk y3 ([gO]:List ByteArray) ([(aI.mk bD x6)]:List aI) ([(aR.mk eY x6)]:List aR) x8 (aH.mk 5 bD fC 0 (aA.mk 0 s_ []) ([x10]:List aH) [])
 exact oS
def aaL(fu:Nat):Prop:= ∀(pq0:DS),Ok (E5 fu pq0) (fun r=>wt r.1≤10000)
theorem EI:b5 aaL:=((((((b5.ge 2147483648).and fH).and rJ).and fV).and fL).and nD).imp fun fu ⟨⟨⟨⟨⟨hfu,fH⟩,rJ⟩,fV⟩,fL⟩,nD⟩ pq0=>by
 have:jX.size=4:=rfl
 refine oB (fH jX) fun x2 h1=>?_
 have:bD.size=4:=rfl
 have:kC.size=2:=rfl
 have:eN.size=3:=rfl
 have:=DJ bD kC eN
 have:=bA bD
 have:=bA kC
 have:=bA eN
 refine Ok.lt fun d3 h2=>Ok.lt fun y5 h3=>?_
 have:=congrArg wt h3
 simp only [bA] at this
 have:y5.size≤4:=by rw [h3];exact DS.pick_size _ (by decide) (by decide)
 refine Ok.lt fun d7 h4=>oB (rJ) fun x10 h5=>?_;refine oC (fun g6=>?_) fun g6=>?_
 ·refine oC (fun g7=>?_) fun g7=>?_
  ·refine Ok.lt fun d13 h8=>?_
   have:eY.size=1:=rfl
   refine O0 (fV eY) fun x17 h9 h9B=>O0 (fL 1 bV) fun x19 h10 h10B=>?_
   have:yZ.size=1:=rfl
   have:fC.size=1:=rfl
   have:s_.size=0:=rfl
   have:=(aT:wl ([]:List aA)=0∧_)
   have:=aA.wt_mk 0 s_ []
   have:=cG x17
   have:=(aT:wl ([]:List bM)=0∧_)
   have:=aH.wt_mk 5 y5 fC 0 (aA.mk 0 s_ []) ([x17]:List aH) []
   have:=kX (aH.mk 5 y5 fC 0 (aA.mk 0 s_ []) ([x17]:List aH) []) x19
   refine oB (nD 10 yZ ([(aH.mk 5 y5 fC 0 (aA.mk 0 s_ []) ([x17]:List aH) []),x19]:List aH) bV) fun x21 h11=>?_
   have:=(aT:wl ([]:List aH)=0∧_)
   have:=aH.wt_mk 0 s_ s_ 0 (aA.mk 0 s_ []) [] []
   have:=(aT:wl ([]:List ByteArray)=0∧_)
   have:=aE.wt_mk fC [] x10 false [] (aH.mk 0 s_ s_ 0 (aA.mk 0 s_ []) [] [])
   have:=cG (aE.mk fC [] x10 false [] (aH.mk 0 s_ s_ 0 (aA.mk 0 s_ []) [] []))
   have:fU.size=5:=rfl
   have:=cG x2
   have:qT.size=1:=rfl
   have:=kX eY qT
   have:=bA eY
   have:=bA qT
   have:=aE.wt_mk fU ([x2]:List aA) x10 true ([eY,qT]:List ByteArray) x21
   have:=cG (aE.mk fU ([x2]:List aA) x10 true ([eY,qT]:List ByteArray) x21)
   refine oG fun z12=>?_;refine Ok.sok (E:=fun v23=>wl v23≤10) ?_ ?_
   ·refine Ok.lt fun d24 h14=>?_;refine oC (fun g15=>?_) fun g15=>?_
    ·have:eU.size=3:=rfl
     have:=cG eU
     have:=bA eU
     exact oI
    exact oI
   intro v23 h13
   refine Ok.lt fun d28 h16=>?_;refine oC (fun g17=>?_) fun g17=>?_
   ·have:AK.size=1:=rfl
    have:=kX jX AK
    have:=bA jX
    have:=bA AK
    refine Ok.lt fun d31 h18=>Ok.lt fun y33 h19=>?_
    have:=congrArg wt h19
    simp only [bA] at this
    have:y33.size≤4:=by rw [h19];exact DS.pick_size _ (by decide) (by decide)
    refine oB (fH y33) fun x36 h20=>?_
    have:=DS.below_lt d3 (n:=3) (by decide)
    have:=aA.wt_mk 0 s_ ([])
    have:=aH.wt_mk 0 s_ s_ 0 (aA.mk 0 s_ ([])) ([]) ([])
    have:=aE.wt_mk fC ([]) x36 false ([]) (aH.mk 0 s_ s_ 0 (aA.mk 0 s_ ([])) ([]) ([]))
    have:=kX (aE.mk fC ([]) x36 false ([]) (aH.mk 0 s_ s_ 0 (aA.mk 0 s_ ([])) ([]) ([]))) (aE.mk fU ([x2]:List aA) x10 true ([eY,qT]:List ByteArray) x21)
    have:=aU.wt_mk y5 v23 false (decide (d3.below 3=0)) ([(aE.mk fC ([]) x36 false ([]) (aH.mk 0 s_ s_ 0 (aA.mk 0 s_ ([])) ([]) ([]))),(aE.mk fU ([x2]:List aA) x10 true ([eY,qT]:List ByteArray) x21)]:List aE)
    exact oS
   have:=DS.below_lt d3 (n:=3) (by decide)
   have:=aA.wt_mk 0 s_ ([])
   have:=aH.wt_mk 0 s_ s_ 0 (aA.mk 0 s_ ([])) ([]) ([])
   have:=aE.wt_mk fC ([]) x10 true ([]) (aH.mk 0 s_ s_ 0 (aA.mk 0 s_ ([])) ([]) ([]))
   have:=kX (aE.mk fC ([]) x10 true ([]) (aH.mk 0 s_ s_ 0 (aA.mk 0 s_ ([])) ([]) ([]))) (aE.mk fU ([x2]:List aA) x10 true ([eY,qT]:List ByteArray) x21)
   have:=aU.wt_mk y5 v23 false (decide (d3.below 3=0)) ([(aE.mk fC ([]) x10 true ([]) (aH.mk 0 s_ s_ 0 (aA.mk 0 s_ ([])) ([]) ([]))),(aE.mk fU ([x2]:List aA) x10 true ([eY,qT]:List ByteArray) x21)]:List aE)
   exact oS
  refine Ok.lt fun d37 h21=>?_;refine Ok.sok (E:=fun v40=>wl v40≤10) ?_ ?_
  ·refine Ok.lt fun d41 h23=>?_;refine oC (fun g24=>?_) fun g24=>?_
   ·have:eU.size=3:=rfl
    have:=cG eU
    have:=bA eU
    exact oI
   have:=(aT:wl ([]:List ByteArray)=0∧_)
   exact oI
  intro v40 h22
  refine Ok.lt fun d45 h25=>?_;refine oC (fun g26=>?_) fun g26=>?_
  ·have:AK.size=1:=rfl
   have:=kX jX AK
   have:=bA jX
   have:=bA AK
   refine Ok.lt fun d48 h27=>Ok.lt fun y50 h28=>?_
   have:=congrArg wt h28
   simp only [bA] at this
   have:y50.size≤4:=by rw [h28];exact DS.pick_size _ (by decide) (by decide)
   refine oB (fH y50) fun x53 h29=>?_
   have:=DS.below_lt d3 (n:=3) (by decide)
   have:fC.size=1:=rfl
   have:s_.size=0:=rfl
   have:=(aT:wl ([]:List aA)=0∧_)
   have:=aA.wt_mk 0 s_ []
   have:=(aT:wl ([]:List aH)=0∧_)
   have:=(aT:wl ([]:List bM)=0∧_)
   have:=aH.wt_mk 0 s_ s_ 0 (aA.mk 0 s_ []) [] []
   have:=(aT:wl ([]:List ByteArray)=0∧_)
   have:=aE.wt_mk fC [] x53 false [] (aH.mk 0 s_ s_ 0 (aA.mk 0 s_ []) [] [])
   have:=cG (aE.mk fC [] x53 false [] (aH.mk 0 s_ s_ 0 (aA.mk 0 s_ []) [] []))
   have:=aU.wt_mk y5 v40 false (decide (d3.below 3=0)) ([(aE.mk fC [] x53 false [] (aH.mk 0 s_ s_ 0 (aA.mk 0 s_ []) [] []))]:List aE)
   exact oS
  have:=DS.below_lt d3 (n:=3) (by decide)
  have:fC.size=1:=rfl
  have:s_.size=0:=rfl
  have:=(aT:wl ([]:List aA)=0∧_)
  have:=aA.wt_mk 0 s_ []
  have:=(aT:wl ([]:List aH)=0∧_)
  have:=(aT:wl ([]:List bM)=0∧_)
  have:=aH.wt_mk 0 s_ s_ 0 (aA.mk 0 s_ []) [] []
  have:=(aT:wl ([]:List ByteArray)=0∧_)
  have:=aE.wt_mk fC [] x10 true [] (aH.mk 0 s_ s_ 0 (aA.mk 0 s_ []) [] [])
  have:=cG (aE.mk fC [] x10 true [] (aH.mk 0 s_ s_ 0 (aA.mk 0 s_ []) [] []))
  have:=aU.wt_mk y5 v40 false (decide (d3.below 3=0)) ([(aE.mk fC [] x10 true [] (aH.mk 0 s_ s_ 0 (aA.mk 0 s_ []) [] []))]:List aE)
  exact oS
 refine Ok.sok (E:=fun v55=>wl v55≤1000∧0<v55.length) ?_ ?_
 ·refine Ok.lt fun d56 h31=>?_;refine oC (fun g32=>?_) fun g32=>?_
  ·have:eY.size=1:=rfl
   refine O0 (fV eY) fun x61 h33 h33B=>O0 (fL 1 bV) fun x63 h34 h34B=>?_
   have:yZ.size=1:=rfl
   have:fC.size=1:=rfl
   have:s_.size=0:=rfl
   have:=(aT:wl ([]:List aA)=0∧_)
   have:=aA.wt_mk 0 s_ []
   have:=cG x61
   have:=(aT:wl ([]:List bM)=0∧_)
   have:=aH.wt_mk 5 y5 fC 0 (aA.mk 0 s_ []) ([x61]:List aH) []
   have:=kX (aH.mk 5 y5 fC 0 (aA.mk 0 s_ []) ([x61]:List aH) []) x63
   refine oB (nD 10 yZ ([(aH.mk 5 y5 fC 0 (aA.mk 0 s_ []) ([x61]:List aH) []),x63]:List aH) bV) fun x65 h35=>?_
   have:=(aT:wl ([]:List aH)=0∧_)
   have:=aH.wt_mk 0 s_ s_ 0 (aA.mk 0 s_ []) [] []
   have:=(aT:wl ([]:List ByteArray)=0∧_)
   have:=aE.wt_mk fC [] x10 false [] (aH.mk 0 s_ s_ 0 (aA.mk 0 s_ []) [] [])
   have:=cG (aE.mk fC [] x10 false [] (aH.mk 0 s_ s_ 0 (aA.mk 0 s_ []) [] []))
   have:fU.size=5:=rfl
   have:=cG x2
   have:qT.size=1:=rfl
   have:=kX eY qT
   have:=bA eY
   have:=bA qT
   have:=aE.wt_mk fU ([x2]:List aA) x10 true ([eY,qT]:List ByteArray) x65
   have:=cG (aE.mk fU ([x2]:List aA) x10 true ([eY,qT]:List ByteArray) x65)
   refine oG fun z36=>?_
   have:=b7 ([(aE.mk fC [] x10 false [] (aH.mk 0 s_ s_ 0 (aA.mk 0 s_ []) [] []))]:List aE) ([(aE.mk fU ([x2]:List aA) x10 true ([eY,qT]:List ByteArray) x65)]:List aE)
   exact oI
  have:fC.size=1:=rfl
  have:s_.size=0:=rfl
  have:=(aT:wl ([]:List aA)=0∧_)
  have:=aA.wt_mk 0 s_ []
  have:=(aT:wl ([]:List aH)=0∧_)
  have:=(aT:wl ([]:List bM)=0∧_)
  have:=aH.wt_mk 0 s_ s_ 0 (aA.mk 0 s_ []) [] []
  have:=(aT:wl ([]:List ByteArray)=0∧_)
  have:=aE.wt_mk fC [] x10 false [] (aH.mk 0 s_ s_ 0 (aA.mk 0 s_ []) [] [])
  have:=cG (aE.mk fC [] x10 false [] (aH.mk 0 s_ s_ 0 (aA.mk 0 s_ []) [] []))
  exact oI
 intro v55 h30
 refine Ok.sok (E:=fun v67=>wl v67≤10) ?_ ?_
 ·refine Ok.lt fun d68 h38=>?_;refine oC (fun g39=>?_) fun g39=>?_
  ·have:eU.size=3:=rfl
   have:=cG eU
   have:=bA eU
   exact oI
  have:=(aT:wl ([]:List ByteArray)=0∧_)
  exact oI
 intro v67 h37
 refine Ok.lt fun d72 h40=>?_;refine oC (fun g41=>?_) fun g41=>?_
 ·have:=DS.below_lt d3 (n:=3) (by decide)
  have:=aU.wt_mk y5 v67 true (decide (d3.below 3=0)) v55
  exact oS
 refine oC (fun g42=>?_) fun g42=>?_
 ·have:s_.size=0:=rfl
  have:fK.size=3:=rfl
  have:s_A.size=1:=rfl
  have:=DJ s_ fK s_A
  have:=bA s_
  have:=bA fK
  have:=bA s_A
  refine Ok.lt fun d76 h43=>Ok.lt fun y78 h44=>?_
  have:=congrArg wt h44
  simp only [bA] at this
  have:y78.size≤3:=by rw [h44];exact DS.pick_size _ (by decide) (by decide)
  have:=DS.below_lt d3 (n:=3) (by decide)
  have:=aU.wt_mk y78 v67 false (decide (d3.below 3=0)) v55
  exact oS
 refine oC (fun g45=>?_) fun g45=>?_
 ·have:=aY (v67)
  have:eU.size=3:=rfl
  have:=cG eU
  have:=bA eU
  refine oG fun z46=>?_
  have:=b7 v67 ([eU]:List ByteArray)
  have:=DS.below_lt d3 (n:=3) (by decide)
  have:=aU.wt_mk y5 (v67++([eU]:List ByteArray)) false (decide (d3.below 3=0)) v55
  exact oS
 refine oC (fun g47=>?_) fun g47=>?_
 ·have:=aY (v55)
  refine oG fun z48=>?_
  have:=cR v55 0 z48
  have:wl (List.take 1 v55)=wl (List.take 0 v55)+wt (bB v55 0)+1:=IL v55 0 z48
  refine Ok.lt fun y84 h49=>?_
  have:=congrArg wt h49
  have:=cG y84
  refine oG fun z50=>?_
  have:=DS.below_lt d3 (n:=3) (by decide)
  have:=b7 v55 ([y84]:List aE)
  have:=aU.wt_mk y5 v67 false (decide (d3.below 3=0)) (v55++([y84]:List aE))
  exact oS
 have:=DS.below_lt d3 (n:=3) (by decide)
 have:=aU.wt_mk y5 v67 false (decide (d3.below 3=0)) v55
 exact oS
def ad6(fu:Nat):Prop:= ∀(pc:DS),Ok (J9 fu pc) (fun r=>wt r.1≤10000)
theorem JD:b5 ad6:=((((b5.ge 2147483648).and fH).and dQ).and kR).imp fun fu ⟨⟨⟨hfu,fH⟩,dQ⟩,kR⟩ pc=>by
 have:=XH
 have:=aeG
 have:gO.size=1:=rfl
 refine oB (fH gO) fun x2 h1=>?_
 have:cZ.size=4:=rfl
 have:=cG x2
 refine oB (dQ cZ ([x2]:List aA) bV) fun x4 h2=>Ok.lt fun d5 h3=>?_;refine oC (fun g4=>?_) fun g4=>?_
 ·have:AK.size=1:=rfl
  have:=kX gO AK
  have:=bA gO
  have:=bA AK
  refine Ok.lt fun d8 h5=>Ok.lt fun y10 h6=>?_
  have:=congrArg wt h6
  simp only [bA] at this
  have:y10.size≤1:=by rw [h6];exact DS.pick_size _ (by decide) (by decide)
  have:=cG gO
  have:=cG y10
  have:=bA y10
  refine oG fun z7=>?_
  have:=b7 ([gO]:List ByteArray) ([y10]:List ByteArray)
  have:gB.size=3:=rfl
  have:=(aT:wl ([]:List aA)=0∧_)
  have:=aD.wt_mk gB []
  have:cN.size=4:=rfl
  have:=kX x2 x4
  have:=aD.wt_mk cN ([x2,x4]:List aA)
  have:=kX (aD.mk gB []) (aD.mk cN ([x2,x4]:List aA))
  have:=aM.wt_mk cZ (([gO]:List ByteArray)++([y10]:List ByteArray)) ([(aD.mk gB []),(aD.mk cN ([x2,x4]:List aA))]:List aD)
  exact oS
 refine oC (fun g8=>?_) fun g8=>?_
 ·refine Ok.lt fun d14 h9=>?_
  have:=DS.below_lt d5 (n:=2) (by decide)
  have:gB.size=3:=rfl
  have:=(aT:wl ([]:List aA)=0∧_)
  have:=aD.wt_mk gB []
  have:cN.size=4:=rfl
  have:=kX x2 x4
  have:=aD.wt_mk cN ([x2,x4]:List aA)
  have:=kX (aD.mk gB []) (aD.mk cN ([x2,x4]:List aA))
  refine oG fun z10=>?_
  have:=cG gO
  have:=bA gO
  have:=RD (0:Int).toNat (d5.below 2:Int).toNat ([(aD.mk gB []),(aD.mk cN ([x2,x4]:List aA))]:List aD)
  have:=aM.wt_mk cZ ([gO]:List ByteArray) (List.drop (0:Int).toNat (List.take (d5.below 2:Int).toNat ([(aD.mk gB []),(aD.mk cN ([x2,x4]:List aA))]:List aD)))
  exact oS
 refine oC (fun g11=>?_) fun g11=>?_
 ·refine tV (kR d5 2 bV) fun x19 x20 h12=>?_
  dsimp only at h12
  have:=cG gO
  have:=bA gO
  have:gB.size=3:=rfl
  have:=cG x19
  have:=aD.wt_mk gB ([x19]:List aA)
  have:cN.size=4:=rfl
  have:=kX x2 x4
  have:=aD.wt_mk cN ([x2,x4]:List aA)
  have:=kX (aD.mk gB ([x19]:List aA)) (aD.mk cN ([x2,x4]:List aA))
  have:=aM.wt_mk cZ ([gO]:List ByteArray) ([(aD.mk gB ([x19]:List aA)),(aD.mk cN ([x2,x4]:List aA))]:List aD)
  exact oS
 refine oC (fun g13=>?_) fun g13=>?_
 ·have:cN.size=4:=rfl
  have:s_.size=0:=rfl
  have:TF.size=3:=rfl
  have:=DJ cN s_ TF
  have:=bA cN
  have:=bA s_
  have:=bA TF
  refine Ok.lt fun d22 h14=>Ok.lt fun y24 h15=>?_
  have:=congrArg wt h15
  simp only [bA] at this
  have:y24.size≤4:=by rw [h15];exact DS.pick_size _ (by decide) (by decide)
  have:=cG gO
  have:=bA gO
  have:=(aT:wl ([]:List aA)=0∧_)
  have:=aD.wt_mk y24 []
  have:=kX x2 x4
  have:=aD.wt_mk cN ([x2,x4]:List aA)
  have:=kX (aD.mk y24 []) (aD.mk cN ([x2,x4]:List aA))
  have:=aM.wt_mk cZ ([gO]:List ByteArray) ([(aD.mk y24 []),(aD.mk cN ([x2,x4]:List aA))]:List aD)
  exact oS
 have:=cG gO
 have:=bA gO
 have:gB.size=3:=rfl
 have:=(aT:wl ([]:List aA)=0∧_)
 have:=aD.wt_mk gB []
 have:cN.size=4:=rfl
 have:=kX x2 x4
 have:=aD.wt_mk cN ([x2,x4]:List aA)
 have:=kX (aD.mk gB []) (aD.mk cN ([x2,x4]:List aA))
 have:=aM.wt_mk cZ ([gO]:List ByteArray) ([(aD.mk gB []),(aD.mk cN ([x2,x4]:List aA))]:List aD)
 exact oS
def aiF(fu:Nat):Prop:= ∀(pq0:DS),Ok (OF fu pq0) (fun r=>wt r.1≤12000000)
theorem M9:b5 aiF:=(((((b5.ge 2147483648).and EI).and JD).and JE).and SG).imp fun fu ⟨⟨⟨⟨hfu,EI⟩,JD⟩,JE⟩,SG⟩ pq0=>by
 refine Ok.lt fun d1 h1=>?_
 have:=DS.below_lt pq0 (n:=5) (by decide)
 have:=(aT:wl ([]:List aU)=0∧_)
 have:=(aT:wl ([]:List aM)=0∧_)
 have:=(aT:wl ([]:List aG)=0∧_)
 have:=(aT:wl ([]:List aK)=0∧_)
 refine Ok.sok (E:=fun(v9,v10,v11,v12,v4)=>wl v9+wl v10+wl v11+wl v12≤10000005) ?_ ?_
 ·refine Ok.loop0 (fun i3 (v9,v10,v11,v12,v4)=>wl v9+wl v10+wl v11+wl v12≤2000001*i3∧i3≤5) (by exact bV) (by rintro i3 ⟨v9,v10,v11,v12,v4⟩-hI;(try dsimp only at hI ⊢);omega) ?_;rintro i3 ⟨v9,v10,v11,v12,v4⟩ hl3 hI4
  dsimp only at hI4
  refine Ok.lt fun d15 h5=>?_;refine oC (fun g6=>?_) fun g6=>?_
  ·refine tV (EI d15) fun x19 x20 h7=>?_
   dsimp only at h7
   have:=aY (v9)
   have:=cG x19
   refine oG fun z8=>?_
   have:=b7 v9 ([x19]:List aU)
   exact nX
  refine oC (fun g9=>?_) fun g9=>?_
  ·refine tV (JD d15) fun x24 x25 h10=>?_
   dsimp only at h10
   have:=aY (v10)
   have:=cG x24
   refine oG fun z11=>?_
   have:=b7 v10 ([x24]:List aM)
   exact nX
  refine oC (fun g12=>?_) fun g12=>?_
  ·refine tV (JE d15) fun x29 x30 h13=>?_
   dsimp only at h13
   have:=aY (v11)
   have:=cG x29
   refine oG fun z14=>?_
   have:=b7 v11 ([x29]:List aG)
   exact nX
  refine tV (SG d15) fun x33 x34 h15=>?_
  dsimp only at h15
  have:=aY (v12)
  have:=cG x33
  refine oG fun z16=>?_
  have:=b7 v12 ([x33]:List aK)
  exact nX
 rintro⟨v9,v10,v11,v12,v4⟩ h2
 dsimp only at h2
 refine Ok.lt fun d36 h17=>?_;refine oC (fun g18=>?_) fun g18=>?_
 ·have:s_.size=0:=rfl
  have:gJ.size=4:=rfl
  have:=kX s_ gJ
  have:=bA s_
  have:=bA gJ
  refine Ok.lt fun d39 h19=>Ok.lt fun y41 h20=>?_
  have:=congrArg wt h20
  simp only [bA] at this
  have:y41.size≤4:=by rw [h20];exact DS.pick_size _ (by decide) (by decide)
  have:=cG gJ
  have:=aJ.wt_mk y41 ([gJ]:List ByteArray) v9 v10 v11 v12
  exact oS
 refine oC (fun g21=>?_) fun g21=>?_
 ·have:gJ.size=4:=rfl
  have:s_q.size=1:=rfl
  have:s_p.size=1:=rfl
  have:=DJ gJ s_q s_p
  have:=bA gJ
  have:=bA s_q
  have:=bA s_p
  refine Ok.lt fun d44 h22=>Ok.lt fun y46 h23=>?_
  have:=congrArg wt h23
  simp only [bA] at this
  have:y46.size≤4:=by rw [h23];exact DS.pick_size _ (by decide) (by decide)
  have:=cG gJ
  have:=cG y46
  have:=bA y46
  refine oG fun z24=>?_
  have:=b7 ([gJ]:List ByteArray) ([y46]:List ByteArray)
  have:=aJ.wt_mk s_p (([gJ]:List ByteArray)++([y46]:List ByteArray)) v9 v10 v11 v12
  exact oS
 have:s_p.size=1:=rfl
 have:gJ.size=4:=rfl
 have:=cG gJ
 have:=bA gJ
 have:=aJ.wt_mk s_p ([gJ]:List ByteArray) v9 v10 v11 v12
 exact oS
def aaV(fu:Nat):Prop:= ∀(pc:DS),Ok (E9 fu pc) (fun r=>wt r.1≤13000000)
theorem aa8:b5 aaV:=(((b5.ge 2147483648).and JI).and M9).imp fun fu ⟨⟨hfu,JI⟩,M9⟩ pc=>by
 refine tV (JI pc) fun x2 x3 h1=>?_
 dsimp only at h1
 refine Ok.lt fun d4 h2=>?_;refine oC (fun g3=>?_) fun g3=>?_
 ·refine tV (M9 d4) fun x8 x9 h4=>?_
  dsimp only at h4
  have:=aP.wt_eq x2
  have:=aY (x2.gPackages)
  have:=cG x8
  refine oG fun z5=>?_
  have:=b7 x2.gPackages ([x8]:List aJ)
  have:=aP.wt_mk (x2.gPackages++([x8]:List aJ))
  exact oS
 have:=aP.wt_eq x2
 have:=aP.wt_mk x2.gPackages
 exact oS
end Go.Proofs.YtpioomclpaiomaaGreat.W

namespace Go.Proofs.YtpioomclpaiomaaGreat.W
set_option linter.unusedSimpArgs false
set_option linter.unusedVariables false
open Go.RowKit Go.WalkArith Go.Proofs
attribute [local irreducible] lt
theorem am9{x:Int}(h0: -1≤x)(h1:x<9223372036854775807):aQ x=x:=by
 unfold aQ IntKind.wrap
 simp [IntKind.bits,IntKind.signed]
 omega
section
variable {β γ σ:Type}
end
def aP.small(w:aP)(N:Nat):Prop:= ∀i,i<w.gPackages.length→(bB w.gPackages i).gTraits.length<N∧(bB w.gPackages i).gDataTypes.length<N∧(bB w.gPackages i).gInstances.length<N
def BD(w:aP)(o:aC):Prop:= ∃i k:Nat,o=aC.mk (i:Int) (k:Int)∧i<w.gPackages.length∧k<(bB w.gPackages i).gInstances.length
def dJ(w:aP)(o:aC):aG:=bB (bB w.gPackages o.gPackage.toNat).gInstances o.gAt.toNat
theorem EF(fu:Nat)(w:aP)(o:aC)(ho:BD w o):sP fu w o=some (dJ w o,true):=by
 obtain⟨i,k,rfl,hi,hk⟩:=ho
 unfold sP
 refine pK (decide_eq_false (by show ¬((i:Int)<0);omega)) (pK (decide_eq_false (by show ¬((i:Int)≥_);omega)) (pK (decide_eq_false (by show ¬((k:Int)<0);omega)) (s5 (by show 0≤(i:Int)∧(i:Int).toNat<_;omega) (ltE rfl (pK (decide_eq_false (by show ¬((k:Int)≥((bB w.gPackages i).gInstances.length:Int));omega)) (s5 (by show 0≤(k:Int)∧(k:Int).toNat<(bB w.gPackages i).gInstances.length;omega) (ltE rfl rfl)))))))
def NI(w:aP)(i:Nat):List aC:=(List.range' 0 (bB w.gPackages i).gInstances.length).map fun(k:Nat)=>aC.mk (i:Int) (k:Int)
def dY(w:aP):List aC:=(List.range' 0 w.gPackages.length).flatMap (NI w)
theorem Q7{w:aP}{o:aC}(h:o∈dY w):BD w o:=by
 obtain⟨i,hi,ho⟩:=List.mem_flatMap.1 h
 obtain⟨k,hk,rfl⟩:=List.mem_map.1 ho
 rw [List.mem_range'_1] at hi hk
 exact⟨i,k,rfl,by omega,by omega⟩
section
variable {α β:Type}
theorem WI{F:Nat→List α→Option (LR (List α) β)}{n M:Nat}{g:Nat→α}(hs: ∀j v,j<n→v.length+1≤M→F j v=some (.next (v++ [g j]))):
 ∀k j (v:List α),n-j=k→v.length+k≤M→loopN F k j v=some (.inr (v++(List.range' j k).map g))
 |0,j,v,hk,_=>by rw [loopN];simp
 |k+1,j,v,hk,hl=>by
  rw [loopN,hs j v (by omega) (by omega)]
  have h:=WI hs k (j+1) (v++ [g j]) (by omega) (by rw [List.length_append];simp only [List.length_singleton];omega)
  rw [List.append_assoc] at h
  rw [List.range'_succ,List.map_cons]
  exact h
theorem WK{F:List α×Int→Option (LR (List α×Int) β)}{n M:Nat}{g:Nat→α}(hs: ∀(j:Nat) v,j<n→v.length+1≤M→F (v,(j:Int))=some (.next (v++ [g j],((j+1:Nat):Int))))(he: ∀v,F (v,(n:Int))=some (.brk (v,(n:Int)))):
 ∀k j fu (v:List α),n-j=k→j≤n→k<fu→v.length+k≤M→loopW F fu (v,(j:Int))=some (.inr (v++(List.range' j k).map g,(n:Int)))
 |0,j,fu,v,hk,hj,hf,_=>by
  obtain⟨f,rfl⟩: ∃f,fu=f+1:=⟨fu-1,by omega⟩
  obtain rfl:j=n:=by omega
  rw [loopW,he]
  simp
 |k+1,j,fu,v,hk,hj,hf,hl=>by
  obtain⟨f,rfl⟩: ∃f,fu=f+1:=⟨fu-1,by omega⟩
  rw [loopW,hs j v (by omega) (by omega)]
  have h:=WK hs he k (j+1) f (v++ [g j]) (by omega) (by omega) (by omega) (by rw [List.length_append];simp only [List.length_singleton];omega)
  rw [List.append_assoc] at h
  rw [List.range'_succ,List.map_cons]
  exact h
theorem CJ{F:Nat→List α→Option (LR (List α) β)}{n M:Nat}{g:Nat→List α}(hs: ∀j v,j<n→v.length+(g j).length≤M→F j v=some (.next (v++g j))):
 ∀k j (v:List α),n-j=k→v.length+((List.range' j k).flatMap g).length≤M→loopN F k j v=some (.inr (v++(List.range' j k).flatMap g))
 |0,j,v,hk,_=>by rw [loopN];simp
 |k+1,j,v,hk,hl=>by
  rw [List.range'_succ,List.flatMap_cons,List.length_append] at hl
  rw [loopN,hs j v (by omega) (by omega)]
  have h:=CJ hs k (j+1) (v++g j) (by omega) (by rw [List.length_append];omega)
  rw [List.range'_succ,List.flatMap_cons,← List.append_assoc]
  exact h
end
theorem JM(w:aP)(i:Nat):(NI w i).length=(bB w.gPackages i).gInstances.length:=by
 unfold NI
 rw [List.length_map,List.length_range']
theorem amL(fu:Nat)(w:aP)(hw:(dY w).length≤68719476736):rP fu w=some (dY w):=by
 have h:=CJ (F:=t7 fu w) (g:=NI w) (n:=w.gPackages.length) (M:=68719476736) (fun i v hi hv=>by
  rw [JM] at hv
  have h2:=WI (F:=A7 fu w i v (bB w.gPackages i)) (g:=fun(k:Nat)=>aC.mk (i:Int) (k:Int)) (n:=(bB w.gPackages i).gInstances.length) (M:=68719476736) (fun k u hk hu=>s5 hu rfl) _ 0 v rfl hv
  unfold t7 A9
  refine ltE rfl ?_
  rw [h2]
  rfl) _ 0 [] rfl (by rw [List.length_nil,Nat.zero_add];exact hw)
 unfold rP A8
 rw [h]
 rfl
theorem amX(fu:Nat)(w:aP)(hw:(dY w).length≤68719476736)(hf:aP.small w fu)(h2: ∀i,i<w.gPackages.length→(bB w.gPackages i).gInstances.length≤13000000):rQ fu w=some (dY w):=by
 have h:=CJ (F:=uI fu w) (g:=NI w) (n:=w.gPackages.length) (M:=68719476736) (fun i v hi hv=>by
  rw [JM] at hv
  have h3:=h2 i hi
  have h2:=WK (F:=qO fu w i v) (g:=fun(k:Nat)=>aC.mk (i:Int) (k:Int)) (n:=(bB w.gPackages i).gInstances.length) (M:=68719476736) (fun k u hk hu=>by
   unfold qO
   refine ltE rfl (t1 (decide_eq_true (by omega)) (s5 hu ?_))
   rw [am9 (by omega) (by omega)]
   rfl) (fun u=>by
   unfold qO
   exact ltE rfl (pK (decide_eq_false (by omega)) rfl)) _ 0 fu v rfl (Nat.zero_le _) (hf i hi).2.2 hv
  unfold uI BJ
  refine(congrArg (fun o=>so o _) h2).trans ?_
  rfl) _ 0 [] rfl (by rw [List.length_nil,Nat.zero_add];exact hw)
 unfold rQ BI
 rw [h]
 rfl
theorem aP.len_at{w:aP}(hw:wt w≤13000000)(i:Nat)(hi:i<w.gPackages.length):(bB w.gPackages i).gTraits.length≤13000000∧(bB w.gPackages i).gDataTypes.length≤13000000∧(bB w.gPackages i).gInstances.length≤13000000:=by
 have:=aP.wt_eq w
 have:=cR w.gPackages i hi
 have:=aJ.wt_eq (bB w.gPackages i)
 have:=aY (bB w.gPackages i).gTraits
 have:=aY (bB w.gPackages i).gDataTypes
 have:=aY (bB w.gPackages i).gInstances
 omega
theorem aP.small_wt{w:aP}{fu:Nat}(hw:wt w≤13000000)(hf:13000000<fu):aP.small w fu:=fun i hi=>by
 have:=aP.len_at hw i hi
 omega
theorem ahH(w:aP): ∀k j,w.gPackages.length-j=k→((List.range' j k).flatMap (NI w)).length≤wl (w.gPackages.drop j)
 |0,j,hk=>by simp
 |k+1,j,hk=>by
  have h:=ahH w k (j+1) (by omega)
  have h1:=aJ.wt_eq (bB w.gPackages j)
  have h2:=aY (bB w.gPackages j).gInstances
  rw [List.range'_succ,List.flatMap_cons,List.length_append,JM,rF (by omega),am7]
  omega
theorem RO{w:aP}(hw:wt w≤13000000):(dY w).length≤13000000:=by
 have h:=ahH w _ 0 rfl
 have:=aP.wt_eq w
 rw [List.drop_zero] at h
 unfold dY
 simp only [Nat.sub_zero] at h
 omega
end Go.Proofs.YtpioomclpaiomaaGreat.W

namespace Go.Proofs.YtpioomclpaiomaaGreat.W
set_option linter.unusedSimpArgs false
set_option linter.unusedVariables false
open Go.RowKit Go.Proofs
theorem ahF(x:aA):Tr.bulkL (aA.tr x)=wt x:=rfl
attribute [local irreducible] lt wt wl
theorem LZ{α:Type}[Inhabited α](q:α→Bool): ∀(l:List α) (k j:Nat),l.length-j=k→(List.range' j k).flatMap (fun i=>bif q (bB l i) then [] else [bB l i])=(l.drop j).filter (fun x=> !q x)
 |l,0,j,hk=>by rw [List.drop_of_length_le (by omega)];simp
 |l,k+1,j,hk=>by
  have hj:j<l.length:=by omega
  rw [List.range'_succ,List.flatMap_cons,LZ q l k (j+1) (by omega),rF hj,List.filter_cons]
  cases q (bB l j)<;>rfl
theorem yC{σ β:Type}{f:Nat→σ→Option (LR σ β)}{s:σ}{n:Nat}(hs: ∀i,i<n→f i s=some (.next s)): ∀k j,n-j=k→loopN f k j s=some (.inr s)
 |0,j,hk=>by rw [loopN]
 |k+1,j,hk=>by
  rw [loopN,hs j (by omega)]
  exact yC hs k (j+1) (by omega)
theorem amU(fu:Nat)(l:List aC):w7 fu l l=some true:=by
 unfold w7 IC
 refine pK (by simp) ?_
 rw [yC (f:=AF fu l l) (n:=l.length) (s:=()) (fun i hi=>by
  unfold AF
  exact s5 hi (pK (by simp) rfl)) _ 0 rfl]
 rfl
theorem X2{w:aP}{o:aC}(hw:wt w≤13000000)(hR:BD w o):wt (dJ w o)≤13000000:=by
 obtain⟨i,k,rfl,hi,hk⟩:=hR
 have:=aP.wt_eq w
 have:=cR w.gPackages i hi
 have:=aJ.wt_eq (bB w.gPackages i)
 have:=cR (bB w.gPackages i).gInstances k hk
 show wt (bB (bB w.gPackages i).gInstances k)≤13000000
 omega
theorem ahN{w:aP}{o:aC}(hw:wt w≤13000000)(hR:BD w o):wt (dJ w o).gHead≤13000000:=by
 have:=X2 hw hR
 have:=aG.wt_eq (dJ w o)
 omega
theorem t4{w:aP}(hw:wt w≤13000000){o:aC}(ho:BD w o):Tr.bulkL (aA.tr (dJ w o).gHead)≤68719476735:=by rw [ahF];exact Nat.le_trans (ahN hw ho) (by decide)
theorem oGb{α:Type}{x:aA}{a:Option α}{P:α→Prop}(k:Tr.bulkL (aA.tr x)≤68719476735→Ok a P)(h:wt x≤68719476735:=by omega):Ok (gd (Tr.bulkL (aA.tr x)≤68719476735) a) P:=Ok.gdk (by rw [ahF];exact h) k
end Go.Proofs.YtpioomclpaiomaaGreat.W

namespace Go.Proofs.YtpioomclpaiomaaGreat
set_option linter.unusedSimpArgs false
set_option linter.unusedVariables false
open Go.RowKit
theorem xP.repM{ok:Nat→Nat→Prop}{w:World}{t:Tr}{v:Value}{S:Nat→Prop}(h:xP w t v S)(hk: ∀b o,S b→b<w.heap.size→ok b o):cJ ok w t v:=by
 induction h with
 |leaf h=>exact .leaf h
 |row c T h1 h2 h3 _ h5 h6 ih=>
  refine .row c h1 h2 (fun hne=>?_) (fun i e he j d hd=>ih i e he j d hd fun b o hb hl=>hk b o (h5 i e he j d hd b hb) hl)
  obtain⟨b,off,E,arr,ha,hb,hs,hc⟩:=h3 hne
  exact⟨b,off,ha,hb.lt,fun i e he j d hd=>⟨hk _ _ hs hb.lt,by rw [hb.cell];exact(hc i e he j d hd).1⟩⟩
theorem cA.ofFresh{P:Program}{f:FuncId}{args:List PV}{t:Tr}(hfr:kF args=true)(h: ∀w vals,D2 w args vals→Calls P f ⟨vals⟩ w fun e w'=> ∃v,e= .returned v∧s6 w w'∧xP w' t v (KP w w')):cA P f args (.t t):=fun av m w vals hst hv=>by
 refine(h w vals (kF.rv (fun b o _ _=>ok0 b o) args vals hfr hv)).mono fun e w'=>?_;rintro⟨v,rfl,hx,ho⟩
 refine⟨.t t,⟨[],[]⟩,m,v,rfl,⟨rfl,rfl⟩,fP.nil fun b o hb=>Nat.lt_of_lt_of_le (hst.avlt b o hb) hx.size,?_,?_⟩
 ·exact⟨hx.os,hx.tape,hx.output,hx.size,fun b hb _ _=>hx.block b hb,fun b o hb _=>jD (hx.block b hb),fun _ _ _ h=>h,fun _ _ h=>by simp at h,fun _ _ h=>by simp at h,fun _ _ h=>by simp at h,fun _ _ _ _ h=>by simp at h⟩
 ·exact ho.repM fun b o hb _=>⟨fun ha=>by have:=hst.avlt b o ha;have:=hb.1;omega,fun _ _ h=>by simp at h,fun _ _ _ _ h=>by simp at h⟩
end Go.Proofs.YtpioomclpaiomaaGreat

namespace Go.Proofs.YtpioomclpaiomaaGreat.W
set_option maxRecDepth 100000
set_option maxHeartbeats 40000000
noncomputable section
open Go.RowKit Go.Proofs
set_option linter.unusedSimpArgs false
set_option linter.unusedVariables false
attribute [local irreducible] lt
abbrev nS:=aA→aA→Option Bool
abbrev dP:=(List aA)→(List aA)→Option Bool
def tC(m:nS):Prop:= ∀(pa:aA) (pb:aA) (r:Bool),m pa pb=some r→cA Tryz.prog 124 [(aA.pv pa),(aA.pv pb)] (pB r:PV)
def hY(m:dP):Prop:= ∀(ps1:List aA) (ps2:List aA) (r:Bool),m ps1 ps2=some r→cA Tryz.prog 172 [aW ps1,aW ps2,.fn 124 []] (pB r:PV)
def CC(fu:Nat)(r_iEqualType:nS)(r_gEqualFunc_Type__iEqualType:dP)(pa pb:aA):Option Bool:=
 sw (decide (pa.gKind=pb.gKind))
 (sw (decide (pa.gName=pb.gName))
 (bd (r_gEqualFunc_Type__iEqualType pa.gArgs pb.gArgs) (fun x4=>
 some x4))
 (some false))
 (some false)
theorem PO(fu:Nat)(r_iEqualType:nS)(r_gEqualFunc_Type__iEqualType:dP)(h_iEqualType:tC r_iEqualType)(h_gEqualFunc_Type__iEqualType:hY r_gEqualFunc_Type__iEqualType):tC (CC fu r_iEqualType r_gEqualFunc_Type__iEqualType):=by
 intro pa pb r H
 have H:=fF H
 refine qI Tryz.func124 (fun C hC=>?_)
 refine qS (qR (q1 (kQ (c5 pa)) (q1 (kQ (c5 pb)) (q1 aF (qN (qS (qR (q1 (bC lR) (q1 (bL kZ) (q1 (bC lR) (q1 (bL kZ) (q1 eP (q1 aF ?_)))))))))))))
 refine eK 10 H (fun g1 H=>?_) fun g1 H=>?_
 ·refine qg g1 (bC kE) (qg g1 (bL fO) (qg g1 (bC kE) (qg g1 (bL fO) (qg g1 JL (q1 (b0 g1) (q1 aF ?_))))))
  refine eK 17 H (fun g2 H=>?_) fun g2 H=>?_
  ·refine qg g2 (bC gC) (qg g2 (bL mQ) (qg g2 (bC gC) (qg g2 (bL mQ) (bU H fun x4 z3 H=>(qg g2 (bQ Tryz.func172 (h_gEqualFunc_Type__iEqualType pa.gArgs pb.gArgs _ z3)) (q1 (b0 g2) (q1 aF (qN (aO.ret ?_)))))))))
   cases aZ H
   exact bR
  iterate 5 refine qk g2 ?_
  refine q1 (cC g2) (q1 aF (qN (aO.ret ?_)))
  cases aZ H
  exact bR
 iterate 5 refine qk g1 ?_
 refine q1 (cC g1) (q1 aF ?_)
 iterate 5 refine qk rfl ?_
 refine q1 (cC rfl) (q1 aF (qN (aO.ret ?_)))
 cases aZ H
 exact bR
def jQ(fu:Nat)(r_iEqualType:nS)(r_gEqualFunc_Type__iEqualType:dP)(ps1 ps2:List aA):Nat→Unit→Option (LR Unit Bool):=
 fun i2 _=>gd (i2<(ps2).length)
 (bd (r_iEqualType (bB ps1 i2) (bB ps2 i2)) (fun x7=>
 sw (!(x7))
 (some (.ret false))
 (some (.next ()))))
def jR(fu:Nat)(r_iEqualType:nS)(r_gEqualFunc_Type__iEqualType:dP)(ps1 ps2:List aA):Option (Bool⊕Unit):=
 loopN (jQ fu r_iEqualType r_gEqualFunc_Type__iEqualType ps1 ps2) (ps1.length-0) 0 ()
def hU(fu:Nat)(r_iEqualType:nS)(r_gEqualFunc_Type__iEqualType:dP)(ps1 ps2:List aA):Option Bool:=
 sw (!decide ((ps1.length:Int)=(ps2.length:Int)))
 (some false)
 (so (jR fu r_iEqualType r_gEqualFunc_Type__iEqualType ps1 ps2) (fun _=>
 some true))
theorem tB(fu:Nat)(r_iEqualType:nS)(r_gEqualFunc_Type__iEqualType:dP)(h_iEqualType:tC r_iEqualType)(h_gEqualFunc_Type__iEqualType:hY r_gEqualFunc_Type__iEqualType):hY (hU fu r_iEqualType r_gEqualFunc_Type__iEqualType):=by
 intro ps1 ps2 r H
 have H:=fF H
 refine qI Tryz.func172 (fun C hC=>?_)
 refine qS (qR (q1 aF (qN ?_)))
 iterate 2 refine qS ?_
 refine qR (q1 aF (q1 (eR dX (aA.trs_len _)) (q1 aF (q1 (eR dX (aA.trs_len _)) (q1 MJ (qN ?_))))))
 refine bH H (fun h1 H=>?_) (fun h1 H=>?_)
 ·refine qS (qR (q1 aF (qN (aO.ret ?_))))
  cases aZ H
  exact bR
 refine aO.skip ?_
 iterate 2 refine qS ?_
 refine qR (q1 aF (q1 (eR dX (aA.trs_len _)) (q1 aF (qN ?_))))
 refine kV 0 (aA.trs_len _) (fun hl3=>?_)
 refine cM (σ:=Unit) (fun i2 _=>⟨[(1,aW ps2),(2,.fn 124 []),(6,pB false),(15,aW ps1),(16,pN ps1.length),(17,pN i2)],⟨[],[]⟩⟩) (fun _=>⟨[(6,pB false)],⟨[],[]⟩⟩) (gW H) ?_ ?_
 ·rintro i2 ⟨⟩ H
  refine qS (qR (q1 iQ (qN (qS ?_))))
  refine eO H (fun h4 h4l H=>?_) (fun h4 H=>?_)
  ·have h4n:=bF h4
   refine aO.skip (qS (aO.block (qS (qR (q1 aF (q1 (jH h4n dX) (q1 (lB (aA.cs (bB ps1 i2)) b8) (q1 (iG hP) (q1 aF (q1 (b3 hH) (qN (qS (qR ?_)))))))))))))
   iterate 2 refine q1 aF ?_
   refine c9 H fun z5 H=>(q1 (jH z5 dX) (q1 (lB (aA.cs (bB ps2 i2)) b8) (q1 (iG hP) (q1 (b3 hH) (qN (qS (qR (q1 aF (q1 (cY [pI ((bB ps1 i2).gKind),pS ((bB ps1 i2).gName),aW ((bB ps1 i2).gArgs)] b8) (q1 (cY [pI ((bB ps2 i2).gKind),pS ((bB ps2 i2).gName),aW ((bB ps2 i2).gArgs)] b8) (bU H fun x7 z6 H=>(q1 (rCv Tryz.func124 (h_iEqualType (bB ps1 i2) (bB ps2 i2) _ z6)) (q1 iS ?_)))))))))))))
   refine qN ?_;refine bH H (fun h8 H=>?_) (fun h8 H=>?_)
   ·refine qS (qR (q1 aF (qN (aO.ret ?_))))
    obtain rfl:_=r:=(rK (aZ H):)
    exact bR
   refine aO.skip (qR (q1 (aV.addI rfl rfl rfl rfl (c:=((i2+1:Nat):Int)) (by omega) (by omega)) (q1 aF (qN ?_))))
   exact j8 h4l ⟨_,(aZ H:),b9⟩
  refine aO.exit ?_;exact lP ⟨_,H,b9⟩
 rintro⟨⟩ H
 refine qS (qR (q1 aF (qN (aO.ret ?_))))
 cases aZ H
 exact bR
mutual
def gR:Nat→aA→aA→Option Bool
 |0,_,_=>none
 |fu+1,pa,pb=>CC fu (gR fu) (b4 fu) pa pb
def b4:Nat→(List aA)→(List aA)→Option Bool
 |0,_,_=>none
 |fu+1,ps1,ps2=>hU fu (gR fu) (b4 fu) ps1 ps2
end
theorem R0(fu:Nat):tC (gR fu)∧hY (b4 fu):=by
 induction fu with
 |zero=>exact⟨(fun pa pb r H=>by simp only [gR] at H;cases H),(fun ps1 ps2 r H=>by simp only [b4] at H;cases H)⟩
 |succ fu ih=>exact⟨(fun pa pb r H=>by simp only [gR] at H;exact PO fu (gR fu) (b4 fu) ih.1 ih.2 pa pb r H),(fun ps1 ps2 r H=>by simp only [b4] at H;exact tB fu (gR fu) (b4 fu) ih.1 ih.2 ps1 ps2 r H)⟩
theorem UT(fu:Nat):tC (gR fu):=(R0 fu).1
abbrev pT:=aA→Option aA
abbrev nU:=(List aA)→Option ((List aA))
def vD(m:pT):Prop:= ∀(pt:aA) (r:aA),m pt=some r→cA Tryz.prog 57 [(aA.pv pt)] ((aA.pv r):PV)
def wZ(m:nU):Prop:= ∀(pl:List aA) (r:(List aA)),m pl=some r→cA Tryz.prog 119 [aW pl] (aW r:PV)
def EE(fu:Nat)(r_icopyType:pT)(r_icopyTypes:nU)(pt:aA):Option aA:=
 bd (r_icopyTypes pt.gArgs) (fun x2=>
 some (aA.mk pt.gKind pt.gName x2))
theorem SA(fu:Nat)(r_icopyType:pT)(r_icopyTypes:nU)(h_icopyType:vD r_icopyType)(h_icopyTypes:wZ r_icopyTypes):vD (EE fu r_icopyType r_icopyTypes):=by
 intro pt r H
 have H:=fF H
 refine qI Tryz.func57 (fun C hC=>?_)
 refine qS (qR (q1 (kQ (c5 pt)) (q1 (iG hP) (qN (qS (qR (q1 (bC gC) (q1 (bL mQ) (bU H fun x2 z1 H=>(q1 (bQ Tryz.func119 (h_icopyTypes pt.gArgs _ z1)) (q1 (bC gC) (q1 (b3 apN) (qN ?_)))))))))))))
 refine qS (qR (q1 (cY [pI pt.gKind,pS pt.gName,aW x2] b8) (q1 (b3 hH) (qN (aO.ret ?_)))))
 cases aZ H
 exact bR (hr:=⟨⟨_,_,_,rfl,rfl,b8,rfl,rfl⟩,trivial⟩)
def IB(fu:Nat)(r_icopyType:pT)(r_icopyTypes:nU)(pl:List aA):Nat→((List aA))→Option (LR ((List aA)) ((List aA))):=
 fun i2 v3=>bd (r_icopyType (bB pl i2)) (fun x7=>
 gd (i2=(v3).length)
 (some (.next (v3++([x7]:List aA)))))
def AA(fu:Nat)(r_icopyType:pT)(r_icopyTypes:nU)(pl:List aA):Option (((List aA))⊕((List aA))):=
 loopN (IB fu r_icopyType r_icopyTypes pl) (pl.length-0) 0 ([])
def CE(fu:Nat)(r_icopyType:pT)(r_icopyTypes:nU)(pl:List aA):Option ((List aA)):=
 gd (pl.length≤68719476736)
 (so (AA fu r_icopyType r_icopyTypes pl) (fun v3=>
 gd ((v3).length=pl.length)
 (some v3)))
theorem PT(fu:Nat)(r_icopyType:pT)(r_icopyTypes:nU)(h_icopyType:vD r_icopyType)(h_icopyTypes:wZ r_icopyTypes):wZ (CE fu r_icopyType r_icopyTypes):=by
 intro pl r H
 have H:=fF H
 refine qI Tryz.func119 (fun C hC=>?_)
 refine qS (qR (q1 aF (qN (qS (qR (q1 aF (q1 (eR dX (aA.trs_len _)) (c9 H fun z1 H=>(q1 (aV.makeSlice (N:=pl.length) rfl rfl rfl rfl dX al7 (by decide) (Nat.le_trans (Nat.mul_le_mul_left _ z1) (by decide)) (Nat.le_trans z1 (by decide))) (q1 aF (qN ?_)))))))))))
 iterate 2 refine qS ?_
 refine qR (q1 aF (q1 (eR dX (aA.trs_len _)) (q1 aF (qN ?_))))
 refine kV 0 (aA.trs_len _) (fun hl4=>?_)
 refine cM (σ:=(List aA)) (fun i2 v3=>⟨[(2,.nil),(3,.full 3 (pl.length) 0),(9,aW pl),(10,pN pl.length),(11,pN i2)],⟨[],[⟨35,3,aA.trs (v3),true⟩]⟩⟩) (fun v3=>⟨[(2,.nil),(3,.full 3 (pl.length) 0)],⟨[],[⟨35,3,aA.trs (v3),true⟩]⟩⟩) (gW H) ?_ ?_
 ·rintro i2 v3 H
  refine qS (qR (q1 iQ (qN (qS ?_))))
  refine eO H (fun h5 h5l H=>?_) (fun h5 H=>?_)
  ·have h5n:=bF h5
   refine aO.skip (qS (aO.block (qS (qR (q1 aF (q1 (jH h5n dX) (q1 (lB (aA.cs (bB pl i2)) b8) (q1 (iG hP) (q1 aF (q1 (b3 hH) (qN (qR ?_))))))))))))
   iterate 2 refine q1 aF ?_
   refine q1 (cY [pI ((bB pl i2).gKind),pS ((bB pl i2).gName),aW ((bB pl i2).gArgs)] b8) (bU H fun x7 z6 H=>(q1 (bQ Tryz.func57 (h_icopyType (bB pl i2) _ z6)) (q1 (aV.indexFull (k:=i2) rfl rfl rfl rfl h5n dX) (c9 H fun z8 H=>?_))))
   refine q1 (aV.storeRptr (e:=aA.cs x7) (es2:=aA.trs (v3++([x7]:List aA))) 16 rfl rfl rfl rfl rfl rfl lG rfl rfl hH (by rw [aA.trs_len];exact z8) h5n (by rw [aA.trs_map,aA.trs_map,List.map_append];simp [aA.tr_cs])) ?_;refine qN (qR (q1 (aV.addI rfl rfl rfl rfl (c:=((i2+1:Nat):Int)) (by omega) (by omega)) (q1 aF (qN ?_))))
   exact j8 h5l ⟨_,(aZ H:),b9⟩
  refine aO.exit ?_;exact lP ⟨_,H,b9⟩
 rintro v3 H
 refine qS (qR (q1 aF (c9 H fun z9 H=>?_)))
 refine AL.weak (Wk.full (i:=22) rfl rfl (by rw [aA.trs_len];exact z9)) ?_;refine q1 aF (qN (aO.ret ?_))
 cases aZ H
 exact bR
mutual
def jG:Nat→aA→Option aA
 |0,_=>none
 |fu+1,pt=>EE fu (jG fu) (j7 fu) pt
def j7:Nat→(List aA)→Option ((List aA))
 |0,_=>none
 |fu+1,pl=>CE fu (jG fu) (j7 fu) pl
end
theorem U0(fu:Nat):vD (jG fu)∧wZ (j7 fu):=by
 induction fu with
 |zero=>exact⟨(fun pt r H=>by simp only [jG] at H;cases H),(fun pl r H=>by simp only [j7] at H;cases H)⟩
 |succ fu ih=>exact⟨(fun pt r H=>by simp only [jG] at H;exact SA fu (jG fu) (j7 fu) ih.1 ih.2 pt r H),(fun pl r H=>by simp only [j7] at H;exact PT fu (jG fu) (j7 fu) ih.1 ih.2 pl r H)⟩
theorem X0(fu:Nat):vD (jG fu):=(U0 fu).1
end
end Go.Proofs.YtpioomclpaiomaaGreat.W

namespace Go.Proofs.YtpioomclpaiomaaGreat
open Go.RowKit Go.Proofs
theorem xS(a:ByteArray):(a==a)=true:=by
 obtain⟨x⟩:=a
 show(x==x)=true
 simp
theorem aiR{a b:ByteArray}(h:a.toList=b.toList):a=b:=by
 rw [ByteArray.toList_eq,ByteArray.toList_eq] at h
 obtain⟨⟨x⟩⟩:=a
 obtain⟨⟨y⟩⟩:=b
 have h:x=y:=h
 rw [h]
theorem B6{a b:ByteArray}(h: ¬a=b):(a==b)=false:=by
 obtain⟨x⟩:=a
 obtain⟨y⟩:=b
 show(x==y)=false
 simp only [beq_eq_false_iff_ne,ne_eq]
 rintro rfl
 exact h rfl
mutual
def aA.eq:aA→aA→Bool
 | .mk k n xs,.mk l m ys=>k==l&&(n==m&&aA.eqs xs ys)
def aA.eqs:List aA→List aA→Bool
 | [],[]=>true
 |a::l,b::r=>aA.eq a b&&aA.eqs l r
 |_,_=>false
end
end Go.Proofs.YtpioomclpaiomaaGreat

namespace Go.Proofs.YtpioomclpaiomaaGreat.W
set_option linter.unusedSimpArgs false
set_option linter.unusedVariables false
open Go.RowKit Go.Proofs
theorem WC{n i:Nat}(h:i<n):bB (List.range n) i=i:=by rw [kU (by simpa using h)];simp
theorem XI: ∀ {l r:List aA},aA.eqs l r=true→l.length=r.length
 | [],[],_=>rfl
 | [],_::_,h=>by simp [aA.eqs] at h
 |_::_,[],h=>by simp [aA.eqs] at h
 |a::l,b::r,h=>by
  simp only [aA.eqs,Bool.and_eq_true] at h
  simp [XI h.2]
theorem MU: ∀ {l r:List aA},l.length=r.length→aA.eqs l r=(List.range l.length).all fun i=>aA.eq (bB l i) (bB r i)
 | [],[],_=>rfl
 | [],_::_,h=>by simp at h
 |_::_,[],h=>by simp at h
 |a::l,b::r,h=>by
  rw [aA.eqs,List.length_cons,List.range_succ_eq_map,List.all_cons,List.all_map,MU (l:=l) (r:=r) (by simpa using h)]
  rfl
theorem agV{xs ys:List aA}(h: ∀i,i<xs.length→i<ys.length→b5 fun fu=>fN fu (bB xs i) (bB ys i)=some (aA.eq (bB xs i) (bB ys i))):b5 fun fu=>kS fu xs ys=some (aA.eqs xs ys):=by
 refine b5.succ ?_
 by_cases hl:xs.length=ys.length
 ·refine(b5.below (k:=xs.length) fun i hi=>h i hi (by omega)).imp fun fu hf=>?_
  simp only [kS,BR]
  have hd:(!decide ((((xs.length:Nat):Int):Int)=((ys.length:Nat):Int)))=false:=by simp [hl]
  rw [hd]
  have hr: ∀fu',∀(r1:aA→aA→Option Bool),(∀i,i<xs.length→r1 (bB xs i) (bB ys i)=some (aA.eq (bB xs i) (bB ys i)))→KI fu' r1 (kS fu) xs ys=some (if(List.range xs.length).all (fun i=>aA.eq (bB xs i) (bB ys i)) then .inr () else .inl false):=by
   intro fu' r1 h1
   unfold KI
   have:=OW (l:=List.range xs.length) (f:=KH fu' r1 (kS fu) xs ys) (p:=fun i=>aA.eq (bB xs i) (bB ys i)) (r:=false) (s:=()) fun i hi=>by
    have hi':i<xs.length:=by simpa using hi
    rw [WC hi',KH]
    rw [s5 (by omega) rfl,rD (h1 i hi') rfl]
    cases aA.eq (bB xs i) (bB ys i)<;>rfl
   rwa [List.length_range] at this
  rw [hr fu _ hf,MU hl]
  cases(List.range xs.length).all fun i=>aA.eq (bB xs i) (bB ys i)<;>rfl
 ·refine .all fun fu=>?_
  simp only [kS,BR]
  have hd:(!decide ((((xs.length:Nat):Int):Int)=((ys.length:Nat):Int)))=true:=by simp;omega
  rw [hd]
  cases hq:aA.eqs xs ys
  ·rfl
  ·exact absurd (XI hq) hl
theorem VH: ∀a b:aA,b5 fun fu=>fN fu a b=some (aA.eq a b):=by
 refine aA.ind fun k n xs ih=>?_;rintro⟨l,m,ys⟩
 refine b5.succ ((agV (xs:=xs) (ys:=ys) fun i hi hj=>ih _ (iU hi) _).imp fun fu hf=>?_)
 simp only [fN,xA,aA.gKind_mk,aA.gName_mk,aA.gArgs_mk,hf,aA.eq]
 by_cases h1:k=l
 ·subst h1
  by_cases h2:n=m
  ·subst h2
   simp [sw,bd,xS]
  ·simp [sw,h2,B6]
 ·have:(k==l)=false:=by simpa using h1
  simp [sw,h1,this]
theorem VI(a b:aA):cA Tryz.prog 16 [(aA.pv a),(aA.pv b)] (.t (.leaf (.bool (aA.eq a b)))):=by
 obtain⟨fu,h⟩:=(VH a b).get
 exact IG fu a b _ h
theorem UQ{xs ys:List aA}(h: ∀i,i<xs.length→i<ys.length→b5 fun fu=>gR fu (bB xs i) (bB ys i)=some (aA.eq (bB xs i) (bB ys i))):b5 fun fu=>b4 fu xs ys=some (aA.eqs xs ys):=by
 refine b5.succ ?_
 by_cases hl:xs.length=ys.length
 ·refine(b5.below (k:=xs.length) fun i hi=>h i hi (by omega)).imp fun fu hf=>?_
  simp only [b4,hU]
  have hd:(!decide ((((xs.length:Nat):Int):Int)=((ys.length:Nat):Int)))=false:=by simp [hl]
  rw [hd]
  have hr:jR fu (gR fu) (b4 fu) xs ys=some (if(List.range xs.length).all (fun i=>aA.eq (bB xs i) (bB ys i)) then .inr () else .inl false):=by
   unfold jR
   have:=OW (l:=List.range xs.length) (f:=jQ fu (gR fu) (b4 fu) xs ys) (p:=fun i=>aA.eq (bB xs i) (bB ys i)) (r:=false) (s:=()) fun i hi=>by
    have hi':i<xs.length:=by simpa using hi
    rw [WC hi',jQ]
    rw [s5 (by omega) rfl,rD (hf i hi') rfl]
    cases aA.eq (bB xs i) (bB ys i)<;>rfl
   rwa [List.length_range] at this
  rw [hr,MU hl]
  cases(List.range xs.length).all fun i=>aA.eq (bB xs i) (bB ys i)<;>rfl
 ·refine .all fun fu=>?_
  simp only [b4,hU]
  have hd:(!decide ((((xs.length:Nat):Int):Int)=((ys.length:Nat):Int)))=true:=by simp;omega
  rw [hd]
  cases hq:aA.eqs xs ys
  ·rfl
  ·exact absurd (XI hq) hl
theorem UR: ∀a b:aA,b5 fun fu=>gR fu a b=some (aA.eq a b):=by
 refine aA.ind fun k n xs ih=>?_;rintro⟨l,m,ys⟩
 refine b5.succ ((UQ (xs:=xs) (ys:=ys) fun i hi hj=>ih _ (iU hi) _).imp fun fu hf=>?_)
 simp only [gR,CC,aA.gKind_mk,aA.gName_mk,aA.gArgs_mk,hf,aA.eq]
 by_cases h1:k=l
 ·subst h1
  by_cases h2:n=m
  ·subst h2
   simp [sw,bd,xS]
  ·simp [sw,h2,B6]
 ·have:(k==l)=false:=by simpa using h1
  simp [sw,h1,this]
theorem US(a b:aA):cA Tryz.prog 124 [(aA.pv a),(aA.pv b)] (.t (.leaf (.bool (aA.eq a b)))):=by
 obtain⟨fu,h⟩:=(UR a b).get
 exact UT fu a b _ h
theorem RY{α:Type}: ∀(l a:List α),l.foldl (fun s x=>s++ [x]) a=a++l
 | [],a=>by simp
 |x::l,a=>by rw [List.foldl_cons,RY l];simp
theorem RR{xs:List aA}: ∀ {x:aA},x∈xs→Tr.bulkL x.tr≤Tr.bulkAll (aA.trs xs):=by
 induction xs with
 |nil=>intro x hx;simp at hx
 |cons a l ih=>
  intro x hx
  simp only [aA.trs,Tr.bulkAll]
  rcases List.mem_cons.1 hx with rfl|hx
  ·omega
  ·have:=ih hx;omega
theorem FK(k:Int)(n:ByteArray)(xs:List aA):xs.length+Tr.bulkAll (aA.trs xs)≤Tr.bulkL (aA.mk k n xs).tr:=by
 simp only [aA.tr,Tr.bulkL_append,Tr.bulkL,Tr.bulk,aA.trs_len]
 omega
theorem ZY{xs:List aA}(hb:xs.length≤68719476735)(h: ∀x∈xs,b5 fun fu=>j0 fu x=some x):b5 fun fu=>kO fu xs=some xs:=by
 refine b5.succ ((b5.list h).imp fun fu hf=>?_)
 simp only [kO,zP,MC]
 rw [p6 (l:=xs) (g:=fun s x=>s++ [x]) (fun i s=>s.length=i) (fun i s hi hp=>⟨?_,by simp [hp]⟩) rfl,RY]
 ·rfl
 ·rw [MB,rD (hf _ (iU hi)) rfl,s5 (by simp;omega) rfl]
theorem agJ: ∀t:aA,Tr.bulkL t.tr≤68719476735→b5 fun fu=>j0 fu t=some t:=by
 refine aA.ind fun k n xs ih hb=>?_
 have h1:=FK k n xs
 refine b5.succ ((ZY (xs:=xs) (by omega) fun x hx=>ih x hx (by have:=RR hx;omega)).imp fun fu hf=>?_)
 simp only [j0,GD,aA.gKind_mk,aA.gName_mk,aA.gArgs_mk,hf,bd]
theorem T5(t:aA)(hb:Tr.bulkL t.tr≤68719476735):cA Tryz.prog 60 [(aA.pv t)] (aA.pv t):=by
 obtain⟨fu,h⟩:=(agJ t hb).get
 exact T6 fu t _ h
theorem aeS{α β:Type}[Inhabited α]{f:Nat→List α→Option (LR (List α) β)}{l:List α}{g:α→α}(hs: ∀i s,i<l.length→s.length=i→f i s=some (.next (s++ [g (bB l i)]))):loopN f (l.length-0) 0 []=some (.inr (l.map g)):=by
 rw [p6 (l:=l) (g:=fun s x=>s++ [g x]) (fun i s=>s.length=i) (fun i s hi hp=>⟨hs i s hi hp,by simp [hp]⟩) rfl]
 have key: ∀(l a:List α),l.foldl (fun s x=>s++ [g x]) a=a++l.map g:=by
  intro l
  induction l with
  |nil=>intro a;simp
  |cons x l ih=>intro a;rw [List.foldl_cons,ih];simp
 rw [key,List.nil_append]
theorem U1{xs:List aA}(hb:xs.length≤68719476735)(h: ∀x∈xs,b5 fun fu=>jG fu x=some x):b5 fun fu=>j7 fu xs=some xs:=by
 refine b5.succ ((b5.list h).imp fun fu hf=>?_)
 simp only [j7,CE]
 rw [s5 (by omega) rfl]
 have hR:AA fu (jG fu) (j7 fu) xs=some (.inr xs):=by
  unfold AA
  rw [aeS (l:=xs) (g:=id) fun i s hi hp=>?_,List.map_id]
  rw [IB,rD (hf _ (iU hi)) rfl,s5 (by omega) rfl]
  rfl
 rw [soR hR rfl,s5 rfl rfl]
theorem XZ: ∀t:aA,Tr.bulkL t.tr≤68719476735→b5 fun fu=>jG fu t=some t:=by
 refine aA.ind fun k n xs ih hb=>?_
 have h1:=FK k n xs
 refine b5.succ ((U1 (xs:=xs) (by omega) fun x hx=>ih x hx (by have:=RR hx;omega)).imp fun fu hf=>?_)
 simp only [jG,EE,aA.gKind_mk,aA.gName_mk,aA.gArgs_mk,hf,bd]
theorem qH(t:aA)(hb:Tr.bulkL t.tr≤68719476735):cA Tryz.prog 57 [(aA.pv t)] (aA.pv t):=by
 obtain⟨fu,h⟩:=(XZ t hb).get
 exact X0 fu t _ h
end Go.Proofs.YtpioomclpaiomaaGreat.W

namespace Go.Proofs.YtpioomclpaiomaaGreat.W
set_option maxRecDepth 100000
set_option maxHeartbeats 40000000
noncomputable section
open Go.RowKit Go.Proofs
set_option linter.unusedSimpArgs false
set_option linter.unusedVariables false
attribute [local irreducible] lt
def ajC(m:(List aL)→ByteArray→Option (aA×Bool)):Prop:= ∀(plist:List aL) (pv:ByteArray) (r:aA×Bool),m plist pv=some r→cA Tryz.prog 133 [p8 plist,pS pv] (.tup [(aA.pv r.1),pB r.2]:PV)
def S4(fu:Nat)(plist:List aL)(pv:ByteArray):Nat→Unit→Option (LR Unit (aA×Bool)):=
 fun i1 _=>sw (decide ((bB plist i1).gVar=pv))
 (gd (Tr.bulkL (aA.tr ((bB plist i1).gType))≤68719476735)
 (some (.ret (((bB plist i1).gType),true))))
 (some (.next ()))
def S5(fu:Nat)(plist:List aL)(pv:ByteArray):Option ((aA×Bool)⊕Unit):=
 loopN (S4 fu plist pv) (plist.length-0) 0 ()
def F1(fu:Nat)(plist:List aL)(pv:ByteArray):Option (aA×Bool):=
 so (S5 fu plist pv) (fun _=>
 some ((aA.mk 0 s_ []),false))
theorem ae0(fu:Nat):ajC (F1 fu):=by
 intro plist pv r H
 have H:=fF H
 refine qI Tryz.func133 (fun C hC=>?_)
 refine qS (qR (q1 (iG hP) (q1 aF (qN ?_))))
 iterate 2 refine qS ?_
 refine qR (q1 aF (qN ?_))
 refine kV 0 (aL.trs_len _) (fun hl2=>?_)
 refine cM (σ:=Unit) (fun i1 _=>⟨[(0,p8 plist),(1,pS pv),(4,.ptr 0 0),(5,pB false),(6,pN i1)],⟨[some ⟨35,[pI 0,pS s_,.nil]⟩],[]⟩⟩) (fun _=>⟨[(4,.ptr 0 0),(5,pB false)],⟨[some ⟨35,[pI 0,pS s_,.nil]⟩],[]⟩⟩) (gW H) ?_ ?_
 ·rintro i1 ⟨⟩ H
  iterate 2 refine qS ?_
  refine qR ?_
  iterate 2 refine q1 aF ?_
  refine q1 (eR PK (aL.trs_len _)) (q1 iQ (qN ?_))
  refine eO H (fun h3 h3l H=>?_) (fun h3 H=>?_)
  ·have h3n:=bF h3
   refine aO.skip (qS (aO.block (qS (qR ?_))))
   iterate 2 refine q1 aF ?_
   refine q1 (jH h3n PK) (q1 (rC ahJ) (q1 (p9 fO) (q1 aF (q1 JL (qN ?_)))))
   refine bH H (fun h4 H=>?_) (fun h4 H=>?_)
   ·refine qS (qR ?_)
    iterate 2 refine q1 aF ?_
    refine q1 (jH h3n PK) (q1 (rC ahK) (q1 (lB (aA.cs ((bB plist i1).gType)) b8) (c9 H fun z5 H=>(q1 (bQ Tryz.func60 (T5 ((bB plist i1).gType) z5)) (q1 (b3 hH) (q1 aF (qN (aO.ret ?_))))))))
    obtain rfl:_=r:=(rK (aZ H):)
    exact lW (hr:=⟨⟨_,_,_,rfl,rfl,b8,rfl,rfl⟩,rfl,trivial⟩)
   refine aO.skip (qR (q1 aF (q1 (aV.addI rfl rfl rfl rfl (c:=((i1+1:Nat):Int)) (by omega) (by omega)) (q1 aF (qN ?_)))))
   exact j8 h3l ⟨_,(aZ H:),b9⟩
  refine aO.exit ?_;exact lP ⟨_,H,b9⟩
 rintro⟨⟩ H
 refine qS (qR (q1 (gD hP CL) (q1 (b3 hH) (q1 aF (qN (aO.ret ?_))))))
 cases aZ H
 exact lW (hr:=⟨⟨_,_,_,rfl,rfl,b8,rfl,rfl⟩,rfl,trivial⟩)
abbrev yV:=(List aA)→(List aA)→(List aL)→Option ((List aL)×Bool×(List aL))
abbrev sL:=aA→aA→(List aL)→Option ((List aL)×Bool×(List aL))
def FC(m:yV):Prop:= ∀(pp:List aA) (pall:List aA) (plist:List aL) (r:(List aL)×Bool×(List aL)),m pp pall plist=some r→cP Tryz.prog 135 [aW pp,aW pall,vB plist 0] ⟨[],[⟨171,4,aL.trs (plist),false⟩]⟩ (fun q t=>q=(.tup [(bif r.2.1 then .acc 4 (aL.trs (r.1)) 0 else .t (.row 4 (aL.trs (r.1)))),pB r.2.1]:PV)∧t=⟨[],[⟨171,4,aL.trs (r.2.2),false⟩]⟩)
def C3(m:sL):Prop:= ∀(pp:aA) (pt:aA) (plist:List aL) (r:(List aL)×Bool×(List aL)),m pp pt plist=some r→cP Tryz.prog 175 [(aA.pv pp),(aA.pv pt),vB plist 0] ⟨[],[⟨171,4,aL.trs (plist),false⟩]⟩ (fun q t=>q=(.tup [(bif r.2.1 then .acc 4 (aL.trs (r.1)) 0 else .t (.row 4 (aL.trs (r.1)))),pB r.2.1]:PV)∧t=⟨[],[⟨171,4,aL.trs (r.2.2),false⟩]⟩)
def OM(fu:Nat)(r_sl7All:yV)(r_sl7Match:sL)(pp pall:List aA)(plist:List aL):Nat→((List aL))→Option (LR ((List aL)) ((List aL)×Bool×(List aL))):=
 fun i1 v3=>gd (i1<(pall).length)
 (bd (r_sl7Match (bB pp i1) (bB pall i1) v3) (fun(x8,x9,x10)=>
 sw (x9)
 (gd (x8=x10)
 (some (.next x8)))
 (some (.ret (v3,false,x10)))))
def WV(fu:Nat)(r_sl7All:yV)(r_sl7Match:sL)(pp pall:List aA)(plist:List aL):Option (((List aL)×Bool×(List aL))⊕((List aL))):=
 loopN (OM fu r_sl7All r_sl7Match pp pall plist) (pp.length-0) 0 plist
def UA(fu:Nat)(r_sl7All:yV)(r_sl7Match:sL)(pp pall:List aA)(plist:List aL):Option ((List aL)×Bool×(List aL)):=
 so (WV fu r_sl7All r_sl7Match pp pall plist) (fun v3=>
 some (v3,true,v3))
theorem adQ(fu:Nat)(r_sl7All:yV)(r_sl7Match:sL)(h_sl7All:FC r_sl7All)(h_sl7Match:C3 r_sl7Match):FC (UA fu r_sl7All r_sl7Match):=by
 intro pp pall plist r H
 have H:=fF H
 refine qI Tryz.func135 (fun C hC=>?_)
 refine qS (qR ?_)
 iterate 2 refine q1 aF ?_
 refine qN ?_
 iterate 2 refine qS ?_
 refine qR (q1 aF (qN ?_))
 refine kV 0 (aA.trs_len _) (fun hl4=>?_)
 refine cM (σ:=(List aL)) (fun i1 v3=>⟨[(0,aW pp),(1,aW pall),(2,vB v3 0),(6,.nil),(7,pB false),(8,pN i1)],⟨[],[⟨171,4,aL.trs (v3),false⟩]⟩⟩) (fun v3=>⟨[(2,vB v3 0),(6,.nil),(7,pB false)],⟨[],[⟨171,4,aL.trs (v3),false⟩]⟩⟩) (gW H) ?_ ?_
 ·rintro i1 v3 H
  iterate 2 refine qS ?_
  refine qR ?_
  iterate 2 refine q1 aF ?_
  refine q1 (eR dX (aA.trs_len _)) (q1 iQ (qN ?_))
  refine eO H (fun h5 h5l H=>?_) (fun h5 H=>?_)
  ·have h5n:=bF h5
   refine aO.skip (qS (aO.block (qS (c9 H fun z6 H=>(aiO H fun x8 x9 x10 z7 H=>?_)))))
   cases x9
   ·have H:=qY H rfl
    refine dW (dI [0] aF (dI [8] aF (dI [18,19] (jH h5n dX) (dI [20] (lB (aA.cs (bB pp i1)) b8) (dI [1] aF (dI [8] aF (dI [22,23] (jH z6 dX) (dI [24] (lB (aA.cs (bB pall i1)) b8) (dI [2] aF (dE [21,25,26] (f6 [] [0] Tryz.func175 (h_sl7Match (bB pp i1) (bB pall i1) v3 _ z7)) (dI [27] aF ?_)))))))))))
    iterate 2 refine dI [17] BH ?_
    refine dI [28] aF (dI [29] aF (dN ?_))
    iterate 2 refine qS ?_
    refine qR (q1 aF (q1 iS (qN (eM (congrArg (fun b=> !b) (rfl:false=false)) (qS (qR ?_))))))
    iterate 3 refine q1 aF ?_
    refine qN (aO.ret ?_)
    obtain rfl:_=r:=(rK (aZ H):)
    exact lW
   have H:=qZ H rfl
   obtain⟨z11,H1⟩:=gdI H
   subst z11
   have H:=H1
   refine dW (dI [0] aF (dI [8] aF (dI [18,19] (jH h5n dX) (dI [20] (lB (aA.cs (bB pp i1)) b8) (dI [1] aF (dI [8] aF (dI [22,23] (jH z6 dX) (dI [24] (lB (aA.cs (bB pall i1)) b8) (dI [2] aF (dE [21,25,26] (f6 [] [0] Tryz.func175 (h_sl7Match (bB pp i1) (bB pall i1) v3 _ z7)) (dI [27] aF ?_)))))))))))
   iterate 2 refine dI [17] BH ?_
   refine dI [28] aF (dI [29] aF (dN ?_))
   iterate 2 refine qS ?_
   refine qR (q1 aF (q1 iS (qN (kP (congrArg (fun b=> !b) (rfl:true=true)) (aO.skip (qR ?_))))))
   iterate 2 refine q1 aF ?_
   refine qN (qR (q1 aF (q1 (aV.addI rfl rfl rfl rfl (c:=((i1+1:Nat):Int)) (by omega) (by omega)) (q1 aF (qN ?_)))))
   exact j8 h5l ⟨_,(aZ H:),b9⟩
  refine aO.exit ?_;exact lP ⟨_,H,b9⟩
 rintro v3 H
 refine qS (qR ?_)
 iterate 3 refine q1 aF ?_
 refine qN (aO.ret ?_)
 cases aZ H
 exact lW
def KK(fu:Nat)(r_sl7All:yV)(r_sl7Match:sL)(pp pt:aA)(plist:List aL):Option ((List aL)×Bool×(List aL)):=
 sw (decide (pp.gKind=1))
 (bd (F1 fu plist pp.gName) (fun(x3,x4)=>
 sw (x4)
 (sw (aA.eq x3 pt)
 (some (plist,(aA.eq x3 pt),plist))
 (some (plist,(aA.eq x3 pt),plist)))
 (gd (Tr.bulkL (aA.tr pt)≤68719476735)
 (gd ((plist).length+(([(aL.mk pp.gName pt)]:List aL)).length≤68719476736)
 (some ((plist++([(aL.mk pp.gName pt)]:List aL)),true,(plist++([(aL.mk pp.gName pt)]:List aL))))))))
 (sw (!decide (pp.gKind=pt.gKind))
 (some (plist,false,plist))
 (sw (!decide (pp.gName=pt.gName))
 (some (plist,false,plist))
 (sw (!decide ((pp.gArgs.length:Int)=(pt.gArgs.length:Int)))
 (some (plist,false,plist))
 (bd (r_sl7All pp.gArgs pt.gArgs plist) (fun(x13,x14,x15)=>
 sw (x14)
 (gd (x13=x15)
 (some (x13,true,x13)))
 (some (x13,false,x15)))))))
theorem V2(fu:Nat)(r_sl7All:yV)(r_sl7Match:sL)(h_sl7All:FC r_sl7All)(h_sl7Match:C3 r_sl7Match):C3 (KK fu r_sl7All r_sl7Match):=by
 intro pp pt plist r H
 have H:=fF H
 refine qI Tryz.func175 (fun C hC=>?_)
 refine qS (qR (q1 (kQ (c5 pp)) (q1 (kQ (c5 pt)) ?_)))
 iterate 2 refine q1 aF ?_
 refine qN ?_
 iterate 2 refine qS ?_
 refine qR (q1 (bC lR) (q1 (bL kZ) (q1 eP (qN ?_))))
 refine bH H (fun h1 H=>?_) (fun h1 H=>?_)
 ·refine qS (qR (q1 aF (q1 (bC kE) (q1 (bL fO) (fQ H fun x3 x4 z2 H=>(q1 (bQ Tryz.func133 (ae0 fu plist pp.gName _ z2)) (q1 aF ?_)))))))
  iterate 2 refine q1 BH ?_
  refine q1 (iG hP) (q1 (b3 hH) (q1 aF (qN ?_)))
  iterate 2 refine qS ?_
  refine qR (q1 aF (qN ?_))
  refine bH H (fun h5 H=>?_) (fun h5 H=>?_)
  ·refine qS (qR (q1 aF (q1 (cY [pI x3.gKind,pS x3.gName,aW x3.gArgs] b8) (q1 (cY [pI pt.gKind,pS pt.gName,aW pt.gArgs] b8) (q1 (bQ Tryz.func16 (VI x3 pt)) ?_)))))
   iterate 2 refine q1 aF ?_
   refine qN (aO.ret ?_)
   rcases nN (aA.eq x3 pt) with g6|g6
   ·have H:=qZ H g6
    cases aZ H
    exact lW (hle:=by rw [g6];exact lG) (hk:=by rw [g6];rfl)
   have H:=qY H g6
   cases aZ H
   exact lW (hle:=by rw [g6];exact lG) (hk:=by rw [g6];rfl)
  refine aO.skip (qS (c9 H fun z7 H=>(c9 H fun z8 H=>(dW (dI [2] aF (dI [3] (bC kE) (dD [26] (bL fO) (dD [4] (cY [pI pt.gKind,pS pt.gName,aW pt.gArgs] b8) (dI [28] (bQ Tryz.func60 (T5 pt z7)) (dI [27,29] (gD O9 anL) (dI [30] (iW ([(aL.mk pp.gName pt)]:List aL) PK O9) (dE [25,31] (oE z8 PK apW) (dI [32] aF ?_)))))))))))))
  refine dI [] aF (dN (aO.ret ?_))
  cases aZ H
  exact lW
 refine aO.skip ?_
 iterate 2 refine qS ?_
 refine qR (q1 (bC lR) (q1 (bL kZ) (q1 (bC lR) (q1 (bL kZ) (q1 MJ (q1 aF ?_))))))
 refine eK 38 H (fun g9 H=>?_) fun g9 H=>?_
 ·refine qk g9 ?_
  iterate 4 refine qk g9 ?_
  refine q1 (b0 g9) (q1 aF ?_)
  iterate 7 refine qk rfl ?_
  refine q1 (b0 rfl) (qN (eM rfl (qS (qR ?_))))
  iterate 3 refine q1 aF ?_
  refine qN (aO.ret ?_)
  cases aZ H
  exact lW
 refine qg g9 (bC kE) (qg g9 (bL fO) (qg g9 (bC kE) (qg g9 (bL fO) (qg g9 SP (q1 (cC g9) (q1 aF ?_))))))
 refine eK 45 H (fun g10 H=>?_) fun g10 H=>?_
 ·refine qk g10 ?_
  iterate 6 refine qk g10 ?_
  refine q1 (b0 g10) (qN (eM rfl (qS (qR ?_))))
  iterate 3 refine q1 aF ?_
  refine qN (aO.ret ?_)
  cases aZ H
  exact lW
 refine qg g10 (bC gC) (qg g10 (bL mQ) (qg g10 (eR dX (aA.trs_len _)) (qg g10 (bC gC) (qg g10 (bL mQ) (qg g10 (eR dX (aA.trs_len _)) (qg g10 MJ (q1 (cC g10) (qN ?_))))))))
 refine bH H (fun h11 H=>?_) (fun h11 H=>?_)
 ·refine qS (qR ?_)
  iterate 3 refine q1 aF ?_
  refine qN (aO.ret ?_)
  cases aZ H
  exact lW
 refine aO.skip (qS (qR (q1 (bC gC) (q1 (bL mQ) (q1 (bC gC) (q1 (bL mQ) (q1 aF (aiO H fun x13 x14 x15 z12 H=>?_))))))))
 cases x14
 ·have H:=qY H rfl
  refine q1 (f6 [] [0] Tryz.func135 (h_sl7All pp.gArgs pt.gArgs plist _ z12)) ?_
  iterate 2 refine q1 BH ?_
  iterate 2 refine q1 aF ?_
  refine qN (aO.ret ?_)
  cases aZ H
  exact lW
 have H:=qZ H rfl
 obtain⟨z16,H1⟩:=gdI H
 subst z16
 have H:=H1
 refine q1 (f6 [] [0] Tryz.func135 (h_sl7All pp.gArgs pt.gArgs plist _ z12)) ?_
 iterate 2 refine q1 BH ?_
 iterate 2 refine q1 aF ?_
 refine qN (aO.ret ?_)
 cases aZ H
 exact lW
mutual
def oV:Nat→(List aA)→(List aA)→(List aL)→Option ((List aL)×Bool×(List aL))
 |0,_,_,_=>none
 |fu+1,pp,pall,plist=>UA fu (oV fu) (mW fu) pp pall plist
def mW:Nat→aA→aA→(List aL)→Option ((List aL)×Bool×(List aL))
 |0,_,_,_=>none
 |fu+1,pp,pt,plist=>KK fu (oV fu) (mW fu) pp pt plist
end
theorem ag3(fu:Nat):FC (oV fu)∧C3 (mW fu):=by
 induction fu with
 |zero=>exact⟨(fun pp pall plist r H=>by simp only [oV] at H;cases H),(fun pp pt plist r H=>by simp only [mW] at H;cases H)⟩
 |succ fu ih=>exact⟨(fun pp pall plist r H=>by simp only [oV] at H;exact adQ fu (oV fu) (mW fu) ih.1 ih.2 pp pall plist r H),(fun pp pt plist r H=>by simp only [mW] at H;exact V2 fu (oV fu) (mW fu) ih.1 ih.2 pp pt plist r H)⟩
theorem WW(fu:Nat):FC (oV fu):=(ag3 fu).1
def abL(m:(List aA)→(List aA)→Option ((List aL)×Bool)):Prop:= ∀(pp:List aA) (pall:List aA) (r:(List aL)×Bool),m pp pall=some r→cA Tryz.prog 90 [aW pp,aW pall] (.tup [p8 r.1,pB r.2]:PV)
def ES(fu:Nat)(pp pall:List aA):Option ((List aL)×Bool):=
 sw (!decide ((pp.length:Int)=(pall.length:Int)))
 (some (([]),false))
 (bd (oV fu pp pall ([])) (fun(x3,x4,x5)=>
 sw (x4)
 (gd (x3=x5)
 (some (x3,true)))
 (some (([]),false))))
theorem YG(fu:Nat):abL (ES fu):=by
 intro pp pall r H
 have H:=fF H
 refine qI Tryz.func90 (fun C hC=>?_)
 refine qS (qR ?_)
 iterate 2 refine q1 aF ?_
 refine qN ?_
 iterate 2 refine qS ?_
 refine qR (q1 aF (q1 (eR dX (aA.trs_len _)) (q1 aF (q1 (eR dX (aA.trs_len _)) (q1 MJ (qN ?_))))))
 refine bH H (fun h1 H=>?_) (fun h1 H=>?_)
 ·refine qS (qR (q1 (wA ([]:List aL) PK O9) ?_))
  iterate 2 refine q1 aF ?_
  refine qN (aO.ret ?_)
  cases aZ H
  exact lW
 refine aO.skip (qS (qR ?_))
 iterate 2 refine q1 aF ?_
 refine q1 (wA ([]:List aL) PK O9) (aiO H fun x3 x4 x5 z2 H=>?_)
 cases x4
 ·have H:=qY H rfl
  refine q1 (f6 [] [0] Tryz.func135 (WW fu pp pall ([]) _ z2)) (q1 aF ?_)
  iterate 2 refine q1 BH ?_
  iterate 2 refine q1 aF ?_
  refine qN ?_
  iterate 2 refine qS ?_
  refine qR (q1 aF (q1 iS (qN (eM (congrArg (fun b=> !b) (rfl:false=false)) (qS (qR (q1 (wA ([]:List aL) PK O9) ?_)))))))
  iterate 2 refine q1 aF ?_
  refine qN (aO.ret ?_)
  cases aZ H
  exact lW
 have H:=qZ H rfl
 obtain⟨z6,H1⟩:=gdI H
 subst z6
 have H:=H1
 refine q1 (f6 [] [0] Tryz.func135 (WW fu pp pall ([]) _ z2)) (q1 aF ?_)
 iterate 2 refine q1 BH ?_
 iterate 2 refine q1 aF ?_
 refine qN ?_
 iterate 2 refine qS ?_
 refine qR (q1 aF (q1 iS (qN (kP (congrArg (fun b=> !b) (rfl:true=true)) (aO.skip (qS (qR ?_)))))))
 iterate 3 refine q1 aF ?_
 refine qN (aO.ret ?_)
 cases aZ H
 exact lW
def alE(m:aA→aA→Option ((List aL)×Bool)):Prop:= ∀(pp:aA) (pt:aA) (r:(List aL)×Bool),m pp pt=some r→cA Tryz.prog 33 [(aA.pv pp),(aA.pv pt)] (.tup [p8 r.1,pB r.2]:PV)
def S6(fu:Nat)(pp pt:aA):Option ((List aL)×Bool):=
 bd (ES fu ([pp]:List aA) ([pt]:List aA)) (fun(x2,x3)=>
 some (x2,x3))
theorem ajE(fu:Nat):alE (S6 fu):=by
 intro pp pt r H
 have H:=fF H
 refine qI Tryz.func33 (fun C hC=>?_)
 refine qS (qR (q1 (kQ (c5 pp)) (q1 (kQ (c5 pt)) ?_)))
 iterate 2 refine q1 aF ?_
 refine qN (qS (qR (q1 (cY [pI pp.gKind,pS pp.gName,aW pp.gArgs] b8) (q1 (iW ([pp]:List aA) dX hP) (q1 (cY [pI pt.gKind,pS pt.gName,aW pt.gArgs] b8) (q1 (iW ([pt]:List aA) dX hP) (fQ H fun x2 x3 z1 H=>(q1 (bQ Tryz.func90 (YG fu ([pp]:List aA) ([pt]:List aA) _ z1)) ?_))))))))
 iterate 2 refine q1 BH ?_
 iterate 2 refine q1 aF ?_
 refine qN (aO.ret ?_)
 cases aZ H
 exact lW
def ae1(m:aA→aA→Option Bool):Prop:= ∀(pp:aA) (pt:aA) (r:Bool),m pp pt=some r→cA Tryz.prog 99 [(aA.pv pp),(aA.pv pt)] (pB r:PV)
def S7(fu:Nat)(pp pt:aA):Option Bool:=
 bd (S6 fu pp pt) (fun(x2,x3)=>
 some x3)
theorem abM(fu:Nat):ae1 (S7 fu):=by
 intro pp pt r H
 have H:=fF H
 refine qI Tryz.func99 (fun C hC=>?_)
 refine qS (qR (q1 (kQ (c5 pp)) (q1 (kQ (c5 pt)) (q1 aF (qN (qS (qR (q1 (cY [pI pp.gKind,pS pp.gName,aW pp.gArgs] b8) (q1 (cY [pI pt.gKind,pS pt.gName,aW pt.gArgs] b8) (fQ H fun x2 x3 z1 H=>(q1 (bQ Tryz.func33 (ajE fu pp pt _ z1)) (q1 aF ?_))))))))))))
 iterate 2 refine q1 BH ?_
 iterate 2 refine q1 aF ?_
 refine qN (qS (qR ?_))
 iterate 2 refine q1 aF ?_
 refine qN (aO.ret ?_)
 cases aZ H
 exact bR
def aiX(m:(List aL)→ByteArray→Option (aA×Bool)):Prop:= ∀(plist:List aL) (pv:ByteArray) (r:aA×Bool),m plist pv=some r→cA Tryz.prog 91 [p8 plist,pS pv] (.tup [(aA.pv r.1),pB r.2]:PV)
def R1(fu:Nat)(plist:List aL)(pv:ByteArray):Nat→Unit→Option (LR Unit (aA×Bool)):=
 fun i1 _=>sw (decide ((bB plist i1).gVar=pv))
 (gd (Tr.bulkL (aA.tr ((bB plist i1).gType))≤68719476735)
 (some (.ret (((bB plist i1).gType),true))))
 (some (.next ()))
def R2(fu:Nat)(plist:List aL)(pv:ByteArray):Option ((aA×Bool)⊕Unit):=
 loopN (R1 fu plist pv) (plist.length-0) 0 ()
def FS(fu:Nat)(plist:List aL)(pv:ByteArray):Option (aA×Bool):=
 so (R2 fu plist pv) (fun _=>
 some ((aA.mk 0 s_ []),false))
theorem aeO(fu:Nat):aiX (FS fu):=by
 intro plist pv r H
 have H:=fF H
 refine qI Tryz.func91 (fun C hC=>?_)
 refine qS (qR (q1 (iG hP) (q1 aF (qN ?_))))
 iterate 2 refine qS ?_
 refine qR (q1 aF (q1 (eR PK (aL.trs_len _)) (q1 aF (qN ?_))))
 refine kV 0 (aL.trs_len _) (fun hl2=>?_)
 refine cM (σ:=Unit) (fun i1 _=>⟨[(1,pS pv),(4,.ptr 0 0),(5,pB false),(8,p8 plist),(9,pN plist.length),(10,pN i1)],⟨[some ⟨35,[pI 0,pS s_,.nil]⟩],[]⟩⟩) (fun _=>⟨[(4,.ptr 0 0),(5,pB false)],⟨[some ⟨35,[pI 0,pS s_,.nil]⟩],[]⟩⟩) (gW H) ?_ ?_
 ·rintro i1 ⟨⟩ H
  refine qS (qR (q1 iQ (qN (qS ?_))))
  refine eO H (fun h3 h3l H=>?_) (fun h3 H=>?_)
  ·have h3n:=bF h3
   refine aO.skip (qS (aO.block (qS (qR (q1 (jH h3n PK) (q1 (lB (aL.cs (bB plist i1)) apI) (q1 (iG O9) (q1 (b3 apL) (qN (qS (qR (q1 (bC ahJ) (q1 (bL fO) ?_)))))))))))))
   refine q1 aF (q1 JL (qN ?_))
   refine bH H (fun h4 H=>?_) (fun h4 H=>?_)
   ·refine qS (qR (q1 (bC ahK) (q1 (cY [pI (((bB plist i1).gType).gKind),pS (((bB plist i1).gType).gName),aW (((bB plist i1).gType).gArgs)] b8) (c9 H fun z5 H=>(q1 (bQ Tryz.func57 (qH ((bB plist i1).gType) z5)) (q1 (b3 hH) (q1 aF (qN (aO.ret ?_)))))))))
    obtain rfl:_=r:=(rK (aZ H):)
    exact lW (hr:=⟨⟨_,_,_,rfl,rfl,b8,rfl,rfl⟩,rfl,trivial⟩)
   refine aO.skip (qR (q1 (aV.addI rfl rfl rfl rfl (c:=((i1+1:Nat):Int)) (by omega) (by omega)) (q1 aF (qN ?_))))
   exact j8 h3l ⟨_,(aZ H:),b9⟩
  refine aO.exit ?_;exact lP ⟨_,H,b9⟩
 rintro⟨⟩ H
 refine qS (qR (q1 (gD hP CL) (q1 (b3 hH) (q1 aF (qN (aO.ret ?_))))))
 cases aZ H
 exact lW (hr:=⟨⟨_,_,_,rfl,rfl,b8,rfl,rfl⟩,rfl,trivial⟩)
abbrev pV:=(List aL)→(List aA)→(List aA)→Option ((List aL)×Bool×(List aL))
abbrev xY:=(List aL)→aA→aA→Option ((List aL)×Bool×(List aL))
def vF(m:pV):Prop:= ∀(ps:List aL) (pp:List aA) (pall:List aA) (r:(List aL)×Bool×(List aL)),m ps pp pall=some r→cP Tryz.prog 132 [vB ps 0,aW pp,aW pall] ⟨[],[⟨171,4,aL.trs (ps),false⟩]⟩ (fun q t=>q=(.tup [(bif r.2.1 then .acc 4 (aL.trs (r.1)) 0 else .t (.row 4 (aL.trs (r.1)))),pB r.2.1]:PV)∧t=⟨[],[⟨171,4,aL.trs (r.2.2),false⟩]⟩)
def LP(m:xY):Prop:= ∀(ps:List aL) (pp:aA) (pt:aA) (r:(List aL)×Bool×(List aL)),m ps pp pt=some r→cP Tryz.prog 174 [vB ps 0,(aA.pv pp),(aA.pv pt)] ⟨[],[⟨171,4,aL.trs (ps),false⟩]⟩ (fun q t=>q=(.tup [(bif r.2.1 then .acc 4 (aL.trs (r.1)) 0 else .t (.row 4 (aL.trs (r.1)))),pB r.2.1]:PV)∧t=⟨[],[⟨171,4,aL.trs (r.2.2),false⟩]⟩)
def CF(fu:Nat)(r_imatchAll:pV)(r_imatch:xY)(ps:List aL)(pp pall:List aA):Nat→((List aL))→Option (LR ((List aL)) ((List aL)×Bool×(List aL))):=
 fun i2 v4=>gd (i2<(pall).length)
 (bd (r_imatch v4 (bB pp i2) (bB pall i2)) (fun(x9,x10,x11)=>
 sw (x10)
 (gd (x9=x11)
 (some (.next x9)))
 (some (.ret ([],false,x11)))))
def LN(fu:Nat)(r_imatchAll:pV)(r_imatch:xY)(ps:List aL)(pp pall:List aA):Option (((List aL)×Bool×(List aL))⊕((List aL))):=
 loopN (CF fu r_imatchAll r_imatch ps pp pall) (pp.length-0) 0 ps
def zC(fu:Nat)(r_imatchAll:pV)(r_imatch:xY)(ps:List aL)(pp pall:List aA):Option ((List aL)×Bool×(List aL)):=
 sw (!decide ((pp.length:Int)=(pall.length:Int)))
 (some ([],false,ps))
 (so (LN fu r_imatchAll r_imatch ps pp pall) (fun v4=>
 some (v4,true,v4)))
theorem SC(fu:Nat)(r_imatchAll:pV)(r_imatch:xY)(h_imatchAll:vF r_imatchAll)(h_imatch:LP r_imatch):vF (zC fu r_imatchAll r_imatch):=by
 intro ps pp pall r H
 have H:=fF H
 refine qI Tryz.func132 (fun C hC=>?_)
 refine qS (qR ?_)
 iterate 2 refine q1 aF ?_
 refine qN ?_
 iterate 2 refine qS ?_
 refine qR (q1 aF (q1 (eR dX (aA.trs_len _)) (q1 aF (q1 (eR dX (aA.trs_len _)) (q1 MJ (qN ?_))))))
 refine bH H (fun h1 H=>?_) (fun h1 H=>?_)
 ·refine qS (qR ?_)
  iterate 2 refine q1 aF ?_
  refine qN (aO.ret ?_)
  cases aZ H
  exact lW
 refine aO.skip ?_
 iterate 2 refine qS ?_
 refine qR (q1 aF (q1 (eR dX (aA.trs_len _)) (q1 aF (qN ?_))))
 refine kV 1 (aA.trs_len _) (fun hl5=>?_)
 refine cM (σ:=(List aL)) (fun i2 v4=>⟨[(0,vB v4 0),(1,aW pp),(2,aW pall),(6,.nil),(7,pB false),(17,pN pp.length),(18,pN i2)],⟨[],[⟨171,4,aL.trs (v4),false⟩]⟩⟩) (fun v4=>⟨[(0,vB v4 0),(6,.nil),(7,pB false)],⟨[],[⟨171,4,aL.trs (v4),false⟩]⟩⟩) (gW H) ?_ ?_
 ·rintro i2 v4 H
  refine qS (qR (q1 iQ (qN (qS ?_))))
  refine eO H (fun h6 h6l H=>?_) (fun h6 H=>?_)
  ·have h6n:=bF h6
   refine aO.skip (qS (aO.block (qS (qR ?_))))
   iterate 2 refine q1 aF ?_
   refine qN (qS (c9 H fun z7 H=>(aiO H fun x9 x10 x11 z8 H=>?_)))
   cases x10
   ·have H:=qY H rfl
    refine dW (dI [0] aF (dI [1] aF (dI [8] aF (dI [23,24] (jH h6n dX) (dI [25] (lB (aA.cs (bB pp i2)) b8) (dI [2] aF (dI [8] aF (dI [27,28] (jH z7 dX) (dI [29] (lB (aA.cs (bB pall i2)) b8) (dE [22,26,30] (f6 [] [0] Tryz.func174 (h_imatch v4 (bB pp i2) (bB pall i2) _ z8)) (dI [31] aF ?_)))))))))))
    iterate 2 refine dI [21] BH ?_
    refine dI [32] aF (dI [33] aF (dN ?_))
    iterate 2 refine qS ?_
    refine qR (q1 aF (q1 iS (qN (eM (congrArg (fun b=> !b) (rfl:false=false)) (qS (qR ?_))))))
    iterate 2 refine q1 aF ?_
    refine qN (aO.ret ?_)
    obtain rfl:_=r:=(rK (aZ H):)
    exact lW
   have H:=qZ H rfl
   obtain⟨z12,H1⟩:=gdI H
   subst z12
   have H:=H1
   refine dW (dI [0] aF (dI [1] aF (dI [8] aF (dI [23,24] (jH h6n dX) (dI [25] (lB (aA.cs (bB pp i2)) b8) (dI [2] aF (dI [8] aF (dI [27,28] (jH z7 dX) (dI [29] (lB (aA.cs (bB pall i2)) b8) (dE [22,26,30] (f6 [] [0] Tryz.func174 (h_imatch v4 (bB pp i2) (bB pall i2) _ z8)) (dI [31] aF ?_)))))))))))
   iterate 2 refine dI [21] BH ?_
   refine dI [32] aF (dI [33] aF (dN ?_))
   iterate 2 refine qS ?_
   refine qR (q1 aF (q1 iS (qN (kP (congrArg (fun b=> !b) (rfl:true=true)) (aO.skip (qR ?_))))))
   iterate 2 refine q1 aF ?_
   refine qN (qR (q1 (aV.addI rfl rfl rfl rfl (c:=((i2+1:Nat):Int)) (by omega) (by omega)) (q1 aF (qN ?_))))
   exact j8 h6l ⟨_,(aZ H:),b9⟩
  refine aO.exit ?_;exact lP ⟨_,H,b9⟩
 rintro v4 H
 refine qS (qR ?_)
 iterate 3 refine q1 aF ?_
 refine qN (aO.ret ?_)
 cases aZ H
 exact lW
def SD(fu:Nat)(r_imatchAll:pV)(r_imatch:xY)(ps:List aL)(pp pt:aA):Option ((List aL)×Bool×(List aL)):=
 sw (decide (pp.gKind=1))
 (bd (FS fu ps pp.gName) (fun(x3,x4)=>
 sw (x4)
 (sw (aA.eq x3 pt)
 (some (ps,(aA.eq x3 pt),ps))
 (some (ps,(aA.eq x3 pt),ps)))
 (gd (Tr.bulkL (aA.tr pt)≤68719476735)
 (gd ((ps).length+(([(aL.mk pp.gName pt)]:List aL)).length≤68719476736)
 (some ((ps++([(aL.mk pp.gName pt)]:List aL)),true,(ps++([(aL.mk pp.gName pt)]:List aL))))))))
 (sw (!decide (pp.gKind=pt.gKind))
 (some ([],false,ps))
 (sw (!decide (pp.gName=pt.gName))
 (some ([],false,ps))
 (bd (r_imatchAll ps pp.gArgs pt.gArgs) (fun(x12,x13,x14)=>
 sw (x13)
 (gd (x12=x14)
 (some (x12,true,x12)))
 (some (x12,false,x14))))))
theorem aa7(fu:Nat)(r_imatchAll:pV)(r_imatch:xY)(h_imatchAll:vF r_imatchAll)(h_imatch:LP r_imatch):LP (SD fu r_imatchAll r_imatch):=by
 intro ps pp pt r H
 have H:=fF H
 refine qI Tryz.func174 (fun C hC=>?_)
 refine qS (qR (q1 (kQ (c5 pp)) (q1 (kQ (c5 pt)) ?_)))
 iterate 2 refine q1 aF ?_
 refine qN ?_
 iterate 2 refine qS ?_
 refine qR (q1 (bC lR) (q1 (bL kZ) (q1 eP (qN ?_))))
 refine bH H (fun h1 H=>?_) (fun h1 H=>?_)
 ·refine qS (qS (qR (q1 aF (q1 (bC kE) (q1 (bL fO) (fQ H fun x3 x4 z2 H=>(q1 (bQ Tryz.func91 (aeO fu ps pp.gName _ z2)) (q1 aF ?_))))))))
  iterate 2 refine q1 BH ?_
  refine q1 (iG hP) (q1 (b3 hH) (q1 aF (qN (qS (qR (q1 aF (qN ?_)))))))
  refine bH H (fun h5 H=>?_) (fun h5 H=>?_)
  ·refine qS (qR (q1 aF (q1 (cY [pI x3.gKind,pS x3.gName,aW x3.gArgs] b8) (q1 (cY [pI pt.gKind,pS pt.gName,aW pt.gArgs] b8) (q1 (bQ Tryz.func124 (US x3 pt)) ?_)))))
   iterate 2 refine q1 aF ?_
   refine qN (aO.ret ?_)
   rcases nN (aA.eq x3 pt) with g6|g6
   ·have H:=qZ H g6
    cases aZ H
    exact lW (hle:=by rw [g6];exact lG) (hk:=by rw [g6];rfl)
   have H:=qY H g6
   cases aZ H
   exact lW (hle:=by rw [g6];exact lG) (hk:=by rw [g6];rfl)
  refine aO.skip (qS (c9 H fun z7 H=>(c9 H fun z8 H=>(dW (dI [0] aF (dI [4] (bC kE) (dD [26] (bL fO) (dD [5] (cY [pI pt.gKind,pS pt.gName,aW pt.gArgs] b8) (dI [28] (bQ Tryz.func57 (qH pt z7)) (dI [27,29] (gD O9 anL) (dI [30] (iW ([(aL.mk pp.gName pt)]:List aL) PK O9) (dE [25,31] (oE z8 PK apW) (dI [32] aF ?_)))))))))))))
  refine dI [] aF (dN (aO.ret ?_))
  cases aZ H
  exact lW
 refine aO.skip ?_
 iterate 2 refine qS ?_
 refine qR (q1 (bC lR) (q1 (bL kZ) (q1 (bC lR) (q1 (bL kZ) (q1 MJ (q1 aF ?_))))))
 refine eK 38 H (fun g9 H=>?_) fun g9 H=>?_
 ·refine qk g9 ?_
  iterate 4 refine qk g9 ?_
  refine q1 (b0 g9) (qN (eM rfl (qS (qR ?_))))
  iterate 2 refine q1 aF ?_
  refine qN (aO.ret ?_)
  cases aZ H
  exact lW
 refine qg g9 (bC kE) (qg g9 (bL fO) (qg g9 (bC kE) (qg g9 (bL fO) (qg g9 SP (q1 (cC g9) (qN ?_))))))
 refine bH H (fun h10 H=>?_) (fun h10 H=>?_)
 ·refine qS (qR ?_)
  iterate 2 refine q1 aF ?_
  refine qN (aO.ret ?_)
  cases aZ H
  exact lW
 refine aO.skip (qS (qR (q1 aF (q1 (bC gC) (q1 (bL mQ) (q1 (bC gC) (q1 (bL mQ) (aiO H fun x12 x13 x14 z11 H=>?_))))))))
 cases x13
 ·have H:=qY H rfl
  refine q1 (f6 [] [0] Tryz.func132 (h_imatchAll ps pp.gArgs pt.gArgs _ z11)) ?_
  iterate 2 refine q1 BH ?_
  iterate 2 refine q1 aF ?_
  refine qN (aO.ret ?_)
  cases aZ H
  exact lW
 have H:=qZ H rfl
 obtain⟨z15,H1⟩:=gdI H
 subst z15
 have H:=H1
 refine q1 (f6 [] [0] Tryz.func132 (h_imatchAll ps pp.gArgs pt.gArgs _ z11)) ?_
 iterate 2 refine q1 BH ?_
 iterate 2 refine q1 aF ?_
 refine qN (aO.ret ?_)
 cases aZ H
 exact lW
mutual
def iA:Nat→(List aL)→(List aA)→(List aA)→Option ((List aL)×Bool×(List aL))
 |0,_,_,_=>none
 |fu+1,ps,pp,pall=>zC fu (iA fu) (rH fu) ps pp pall
def rH:Nat→(List aL)→aA→aA→Option ((List aL)×Bool×(List aL))
 |0,_,_,_=>none
 |fu+1,ps,pp,pt=>SD fu (iA fu) (rH fu) ps pp pt
end
theorem U4(fu:Nat):vF (iA fu)∧LP (rH fu):=by
 induction fu with
 |zero=>exact⟨(fun ps pp pall r H=>by simp only [iA] at H;cases H),(fun ps pp pt r H=>by simp only [rH] at H;cases H)⟩
 |succ fu ih=>exact⟨(fun ps pp pall r H=>by simp only [iA] at H;exact SC fu (iA fu) (rH fu) ih.1 ih.2 ps pp pall r H),(fun ps pp pt r H=>by simp only [rH] at H;exact aa7 fu (iA fu) (rH fu) ih.1 ih.2 ps pp pt r H)⟩
theorem LO(fu:Nat):vF (iA fu):=(U4 fu).1
def ak2(m:aA→aA→Option ((List aL)×Bool)):Prop:= ∀(pp:aA) (pt:aA) (r:(List aL)×Bool),m pp pt=some r→cA Tryz.prog 88 [(aA.pv pp),(aA.pv pt)] (.tup [p8 r.1,pB r.2]:PV)
def R3(fu:Nat)(pp pt:aA):Option ((List aL)×Bool):=
 bd (iA fu ([]) ([pp]:List aA) ([pt]:List aA)) (fun(x2,x3,x4)=>
 sw (x3)
 (gd (x2=x4)
 (some (x2,true)))
 (some (x2,false)))
theorem aiZ(fu:Nat):ak2 (R3 fu):=by
 intro pp pt r H
 have H:=fF H
 refine qI Tryz.func88 (fun C hC=>?_)
 refine qS (qR (q1 (kQ (c5 pp)) (q1 (kQ (c5 pt)) ?_)))
 iterate 2 refine q1 aF ?_
 refine qN (qS (qR (q1 (cY [pI pp.gKind,pS pp.gName,aW pp.gArgs] b8) (q1 (iW ([pp]:List aA) dX hP) (q1 (cY [pI pt.gKind,pS pt.gName,aW pt.gArgs] b8) (q1 (iW ([pt]:List aA) dX hP) (aiO H fun x2 x3 x4 z1 H=>?_)))))))
 cases x3
 ·have H:=qY H rfl
  refine q1 (aV.callF (res:= .tup [p8 x2,pB false]) (ps:= [_,_,_]) (qs:= [.nil,aW ([pp]:List aA),aW ([pt]:List aA)]) rfl rfl Tryz.func132 (by kernel_rfl) rfl rfl lG rfl rfl (cP.regNil (l1:= []) (l2:= [aW ([pp]:List aA),aW ([pt]:List aA)]) (E:=171) (sz:=4) (q:= .tup [p8 x2,pB false]) (by decide) (LO fu ([]) ([pp]:List aA) ([pt]:List aA) _ z1) lG rfl)) ?_
  iterate 2 refine q1 BH ?_
  iterate 2 refine q1 aF ?_
  refine qN (aO.ret ?_)
  cases aZ H
  exact lW
 have H:=qZ H rfl
 obtain⟨z5,H1⟩:=gdI H
 subst z5
 have H:=H1
 refine q1 (aV.callF (res:= .tup [p8 x2,pB true]) (ps:= [_,_,_]) (qs:= [.nil,aW ([pp]:List aA),aW ([pt]:List aA)]) rfl rfl Tryz.func132 (by kernel_rfl) rfl rfl lG rfl rfl (cP.regNil (l1:= []) (l2:= [aW ([pp]:List aA),aW ([pt]:List aA)]) (E:=171) (sz:=4) (q:= .tup [p8 x2,pB true]) (by decide) (LO fu ([]) ([pp]:List aA) ([pt]:List aA) _ z1) lG rfl)) ?_
 iterate 2 refine q1 BH ?_
 iterate 2 refine q1 aF ?_
 refine qN (aO.ret ?_)
 cases aZ H
 exact lW
def aeP(m:aA→aA→Option Bool):Prop:= ∀(pp:aA) (pt:aA) (r:Bool),m pp pt=some r→cA Tryz.prog 42 [(aA.pv pp),(aA.pv pt)] (pB r:PV)
def R4(fu:Nat)(pp pt:aA):Option Bool:=
 bd (R3 fu pp pt) (fun(x2,x3)=>
 some x3)
theorem aa4(fu:Nat):aeP (R4 fu):=by
 intro pp pt r H
 have H:=fF H
 refine qI Tryz.func42 (fun C hC=>?_)
 refine qS (qR (q1 (kQ (c5 pp)) (q1 (kQ (c5 pt)) (q1 aF (qN (qS (qR (q1 (cY [pI pp.gKind,pS pp.gName,aW pp.gArgs] b8) (q1 (cY [pI pt.gKind,pS pt.gName,aW pt.gArgs] b8) (fQ H fun x2 x3 z1 H=>(q1 (bQ Tryz.func88 (aiZ fu pp pt _ z1)) (q1 aF ?_))))))))))))
 iterate 2 refine q1 BH ?_
 iterate 2 refine q1 aF ?_
 refine qN (qS (qR ?_))
 iterate 2 refine q1 aF ?_
 refine qN (aO.ret ?_)
 cases aZ H
 exact bR
end
end Go.Proofs.YtpioomclpaiomaaGreat.W

namespace Go.Proofs.YtpioomclpaiomaaGreat.W
set_option linter.unusedSimpArgs false
set_option linter.unusedVariables false
open Go.RowKit Go.WalkArith
def wL(l:List aL)(v:ByteArray):Option aL:=l.find? (fun b=>decide (b.gVar=v))
mutual
def jV:aA→aA→List aL→Option (List aL)
 | .mk k n ps,t,s=>
  if k=1 then(match wL s n with
   |some b=>if aA.eq b.gType t=true then some s else none
   |none=>some (s++ [aL.mk n t]))
  else if k=t.gKind then(if n=t.gName then(if ps.length=t.gArgs.length then kJ ps t.gArgs s else none) else none) else none
def kJ:List aA→List aA→List aL→Option (List aL)
 | [],_,s=>some s
 |p::ps,ts,s=>match ts with
  | []=>none
  |t::ts=>match jV p t s with
   |none=>none
   |some s'=>kJ ps ts s'
end
theorem nd{p:Prop}[Decidable p](h: ¬p):(!decide p)=true:=by simp [h]
def wtl(l:List aA):Nat:=l.length+Tr.bulkAll (aA.trs l)
theorem BU(x:aA)(l:List aA):wtl (x::l)=1+Tr.bulkL x.tr+wtl l:=by simp only [wtl,aA.trs,Tr.bulkAll,List.length_cons];omega
theorem BT(k:Int)(n:ByteArray)(ps:List aA):wtl ps≤Tr.bulkL (aA.mk k n ps).tr:=FK k n ps
def AN(s:List aL):Prop:= ∀b∈s,Tr.bulkL b.gType.tr≤68719476735
theorem RQ{t x:aA}(h:x∈t.gArgs)(ht:Tr.bulkL t.tr≤68719476735):Tr.bulkL x.tr≤68719476735:=by
 obtain⟨k,n,ps⟩:=t
 have h1:=RR (show x∈ps from h)
 have h2:=FK k n ps
 omega
theorem OZ: ∀(ps:List aA),(∀x∈ps,∀t s s',jV x t s=some s'→AN s→Tr.bulkL t.tr≤68719476735→AN s'∧s'.length≤s.length+1+Tr.bulkL x.tr)→
 ∀ts s s',kJ ps ts s=some s'→AN s→(∀t∈ts,Tr.bulkL t.tr≤68719476735)→AN s'∧s'.length≤s.length+wtl ps
 | [],_,ts,s,s',h,hb,_=>by
  rw [kJ] at h
  obtain rfl:=Option.some.inj h
  exact⟨hb,by omega⟩
 |p::ps,hp,ts,s,s',h,hb,ht=>by
  cases ts with
  |nil=>simp [kJ] at h
  |cons t ts=>
   rw [kJ] at h
   cases hq:jV p t s with
   |none=>rw [hq] at h;cases h
   |some s1=>
    rw [hq] at h
    have h1:=hp p (by simp) t s s1 hq hb (ht t (by simp))
    have h2:=OZ ps (fun x hx=>hp x (List.mem_cons_of_mem _ hx)) ts s1 s' h h1.1 (fun x hx=>ht x (List.mem_cons_of_mem _ hx))
    have h3:=BU p ps
    exact⟨h2.1,by omega⟩
theorem ai9: ∀(p t:aA) (s s':List aL),jV p t s=some s'→AN s→Tr.bulkL t.tr≤68719476735→AN s'∧s'.length≤s.length+1+Tr.bulkL p.tr:=by
 refine aA.ind fun k n ps ih t s s' h hb ht=>?_
 have hw:=BT k n ps
 rw [jV] at h
 split at h
 ·split at h
  ·split at h
   ·obtain rfl:=Option.some.inj h
    exact⟨hb,by omega⟩
   ·cases h
  ·obtain rfl:=Option.some.inj h
   refine⟨fun b hb'=>?_,by simp only [List.length_append,List.length_singleton];omega⟩
   rcases List.mem_append.1 hb' with h1|h1
   ·exact hb b h1
   ·obtain rfl:=List.mem_singleton.1 h1
    exact ht
 ·split at h
  ·split at h
   ·split at h
    ·have h1:=OZ ps ih _ _ _ h hb (fun x hx=>RQ hx ht)
     exact⟨h1.1,by omega⟩
    ·cases h
   ·cases h
  ·cases h
def Res(o:Option (List aL))(m:Option (List aL×Bool×List aL)):Prop:=match o with
 |some s'=>m=some (s',true,s')
 |none=> ∃a b,m=some (a,false,b)
def aoW(o:Option (List aL))(m:Option ((List aL×Bool×List aL)⊕List aL)):Prop:=match o with
 |some s'=>m=some (.inr s')
 |none=> ∃a b,m=some (.inl (a,false,b))
def aoV(o:Option (List aL))(m:Option (LR (List aL) (List aL×Bool×List aL))):Prop:=match o with
 |some s'=>m=some (.next s')
 |none=> ∃a b,m=some (.ret (a,false,b))
theorem WM{F:Nat→List aL→Option (LR (List aL) (List aL×Bool×List aL))}{ps ts:List aA}(hlen:ps.length=ts.length)(ht: ∀t∈ts,Tr.bulkL t.tr≤68719476735)
 (hs: ∀i s,i<ps.length→AN s→s.length+1+Tr.bulkL (bB ps i).tr≤68719476736→aoV (jV (bB ps i) (bB ts i) s) (F i s)):
 ∀(k i:Nat) (s:List aL),ps.length-i=k→AN s→s.length+wtl (ps.drop i)≤68719476736→aoW (kJ (ps.drop i) (ts.drop i) s) (loopN F (ps.length-i) i s)
 |0,i,s,hk,_,_=>by
  rw [List.drop_of_length_le (show ps.length≤i by omega),kJ]
  exact BG (by omega)
 |k+1,i,s,hk,hb,hw=>by
  have hi:i<ps.length:=by omega
  have hi2:i<ts.length:=by omega
  rw [rF hi,BU] at hw
  have h1:=hs i s hi hb (by omega)
  rw [rF hi,rF hi2,kJ]
  cases hq:jV (bB ps i) (bB ts i) s with
  |none=>
   rw [hq] at h1
   obtain⟨a,b,h1⟩:=h1
   exact⟨a,b,FW hi h1⟩
  |some s'=>
   rw [hq] at h1
   have h2:=ai9 _ _ _ _ hq hb (ht _ (iU hi2))
   have h3:=WM hlen ht hs k (i+1) s' (by omega) h2.1 (by omega)
   rw [yD hi h1]
   exact h3
theorem SM{F:Nat→List aL→Option (LR (List aL) (List aL×Bool×List aL))}{ps ts:List aA}(hlen:ps.length=ts.length)(ht: ∀t∈ts,Tr.bulkL t.tr≤68719476735)
 (hs: ∀i s,i<ps.length→AN s→s.length+1+Tr.bulkL (bB ps i).tr≤68719476736→aoV (jV (bB ps i) (bB ts i) s) (F i s)) {s:List aL} (hb:AN s) (hw:s.length+wtl ps≤68719476736):aoW (kJ ps ts s) (loopN F (ps.length-0) 0 s):=by
 have:=WM hlen ht hs ps.length 0 s (by omega) hb (by rwa [List.drop_zero])
 rwa [List.drop_zero,List.drop_zero] at this
theorem aeZ(fu:Nat)(l:List aL)(v:ByteArray)(hb:AN l):F1 fu l v=some (match wL l v with
 |some b=>(b.gType,true)
 |none=>(aA.mk 0 (⟨#[]⟩) [],false)):=by
 unfold F1 S5
 rw [pZ (p:=fun b=>decide (b.gVar=v)) (r:=fun b=>(b.gType,true)) (fun i hi=>by
  unfold S4
  cases h:decide ((bB l i).gVar=v)
  ·simp [sw,h]
  ·simp only [sw,h]
   rw [s5 (hb _ (iU hi)) rfl]
   simp)]
 unfold wL
 cases l.find? (fun b=>decide (b.gVar=v))<;>rfl
def SMS(fu:Nat)(p:aA):Prop:= ∀(t:aA) (s:List aL),Tr.bulkL t.tr≤68719476735→AN s→s.length+1+Tr.bulkL p.tr≤68719476736→Res (jV p t s) (mW fu p t s)
theorem ahY{fu:Nat}{ps:List aA}(hf: ∀x∈ps,SMS fu x){ts:List aA}{s:List aL}(hlen:ps.length=ts.length)(ht: ∀t∈ts,Tr.bulkL t.tr≤68719476735)(hb:AN s)(hw:s.length+wtl ps≤68719476736):Res (kJ ps ts s) (oV (fu+1) ps ts s):=by
 have hl:=SM (F:=OM fu (oV fu) (mW fu) ps ts s) hlen ht (fun i s hi hb hw=>by
  have h1:=hf (bB ps i) (iU hi) (bB ts i) s (ht _ (iU (by omega))) hb hw
  unfold OM
  cases hq:jV (bB ps i) (bB ts i) s with
  |none=>
   rw [hq] at h1
   obtain⟨a,b,h1⟩:=h1
   exact⟨_,b,s5 (by omega) (rD h1 rfl)⟩
  |some s'=>
   rw [hq] at h1
   exact s5 (by omega) (rD h1 (t1 rfl (s5 rfl rfl)))) hb hw
 rw [oV,UA]
 unfold WV
 cases hq:kJ ps ts s with
 |none=>
  rw [hq] at hl
  obtain⟨a,b,hl⟩:=hl
  exact⟨a,b,soL hl⟩
 |some s'=>
  rw [hq] at hl
  exact soR hl rfl
theorem ajD: ∀p:aA,b5 fun fu=>SMS fu p:=by
 refine aA.ind fun k n ps ih=>?_;refine b5.succ (b5.succ ((b5.list ih).imp fun fu hf t s ht hb hw=>?_))
 have hwa:=BT k n ps
 rw [mW,KK,jV]
 simp only [aA.gKind_mk,aA.gName_mk,aA.gArgs_mk]
 by_cases hk:k=1
 ·rw [if_pos hk,aeZ _ s n hb]
  cases hq:wL s n with
  |some b=>
   cases he:aA.eq b.gType t with
   |true=>
    show Res (if aA.eq b.gType t=true then some s else none) _
    rw [if_pos he]
    show _=some (s,true,s)
    refine t1 (decide_eq_true hk) (rD rfl (t1 rfl (t1 he ?_)))
    simp only [he]
   |false=>
    show Res (if aA.eq b.gType t=true then some s else none) _
    rw [if_neg (by simp [he])]
    refine⟨s,s,?_⟩
    refine t1 (decide_eq_true hk) (rD rfl (t1 rfl (pK he ?_)))
    simp only [he]
  |none=>
   show _=some (s++ [aL.mk n t],true,s++ [aL.mk n t])
   exact t1 (decide_eq_true hk) (rD rfl (pK rfl (s5 ht (s5 (by simp only [List.length_singleton];omega) rfl))))
 ·rw [if_neg hk]
  by_cases h1:k=t.gKind
  ·rw [if_pos h1]
   by_cases h2:n=t.gName
   ·rw [if_pos h2]
    by_cases h3:ps.length=t.gArgs.length
    ·rw [if_pos h3]
     have ha:=ahY hf (s:=s) h3 (fun x hx=>RQ hx ht) hb (by omega)
     cases hq:kJ ps t.gArgs s with
     |none=>
      rw [hq] at ha
      obtain⟨a,b,ha⟩:=ha
      exact⟨_,_,pK (by simp [hk]) (pK (by simp [h1]) (pK (by simp [h2]) (pK (by simp [h3])<|rD ha (pK rfl rfl))))⟩
     |some s'=>
      rw [hq] at ha
      exact pK (by simp [hk]) (pK (by simp [h1]) (pK (by simp [h2]) (pK (by simp [h3])<|rD ha (t1 rfl (s5 rfl rfl)))))
    ·rw [if_neg h3]
     exact⟨_,_,pK (by simp [hk]) (pK (by simp [h1]) (pK (by simp [h2]) (t1 (nd (fun h=>h3 (Int.ofNat_inj.1 h))) rfl)))⟩
   ·rw [if_neg h2]
    exact⟨_,_,pK (by simp [hk]) (pK (by simp [h1]) (t1 (by simp [h2]) rfl))⟩
  ·rw [if_neg h1]
   exact⟨_,_,pK (by simp [hk]) (t1 (by simp [h1]) rfl)⟩
theorem aeN(fu:Nat)(l:List aL)(v:ByteArray)(hb:AN l):FS fu l v=some (match wL l v with
 |some b=>(b.gType,true)
 |none=>(aA.mk 0 (⟨#[]⟩) [],false)):=by
 unfold FS R2
 rw [pZ (p:=fun b=>decide (b.gVar=v)) (r:=fun b=>(b.gType,true)) (fun i hi=>by
  unfold R1
  cases h:decide ((bB l i).gVar=v)
  ·simp [sw,h]
  ·simp only [sw,h]
   rw [s5 (hb _ (iU hi)) rfl]
   simp)]
 unfold wL
 cases l.find? (fun b=>decide (b.gVar=v))<;>rfl
def IMS(fu:Nat)(p:aA):Prop:= ∀(t:aA) (s:List aL),Tr.bulkL t.tr≤68719476735→AN s→s.length+1+Tr.bulkL p.tr≤68719476736→Res (jV p t s) (rH fu s p t)
theorem ahO{fu:Nat}{ps:List aA}(hf: ∀x∈ps,IMS fu x){ts:List aA}{s:List aL}(hlen:ps.length=ts.length)(ht: ∀t∈ts,Tr.bulkL t.tr≤68719476735)(hb:AN s)(hw:s.length+wtl ps≤68719476736):Res (kJ ps ts s) (iA (fu+1) s ps ts):=by
 have hl:=SM (F:=CF fu (iA fu) (rH fu) s ps ts) hlen ht (fun i s hi hb hw=>by
  have h1:=hf (bB ps i) (iU hi) (bB ts i) s (ht _ (iU (by omega))) hb hw
  unfold CF
  cases hq:jV (bB ps i) (bB ts i) s with
  |none=>
   rw [hq] at h1
   obtain⟨a,b,h1⟩:=h1
   exact⟨_,b,s5 (by omega) (rD h1 rfl)⟩
  |some s'=>
   rw [hq] at h1
   exact s5 (by omega) (rD h1 (t1 rfl (s5 rfl rfl)))) hb hw
 rw [iA,zC]
 rw [show sw (!decide (((ps.length:Nat):Int)=((ts.length:Nat):Int)))=fun(x y:Option (List aL×Bool×List aL))=>y by funext x y;exact pK (by simp [hlen]) rfl]
 unfold LN
 cases hq:kJ ps ts s with
 |none=>
  rw [hq] at hl
  obtain⟨a,b,hl⟩:=hl
  exact⟨a,b,soL hl⟩
 |some s'=>
  rw [hq] at hl
  exact soR hl rfl
theorem aiY: ∀p:aA,b5 fun fu=>IMS fu p:=by
 refine aA.ind fun k n ps ih=>?_;refine b5.succ (b5.succ ((b5.list ih).imp fun fu hf t s ht hb hw=>?_))
 have hwa:=BT k n ps
 rw [rH,SD,jV]
 simp only [aA.gKind_mk,aA.gName_mk,aA.gArgs_mk]
 by_cases hk:k=1
 ·rw [if_pos hk,aeN _ s n hb]
  cases hq:wL s n with
  |some b=>
   cases he:aA.eq b.gType t with
   |true=>
    show Res (if aA.eq b.gType t=true then some s else none) _
    rw [if_pos he]
    show _=some (s,true,s)
    refine t1 (decide_eq_true hk) (rD rfl (t1 rfl (t1 he ?_)))
    simp only [he]
   |false=>
    show Res (if aA.eq b.gType t=true then some s else none) _
    rw [if_neg (by simp [he])]
    refine⟨s,s,?_⟩
    refine t1 (decide_eq_true hk) (rD rfl (t1 rfl (pK he ?_)))
    simp only [he]
  |none=>
   show _=some (s++ [aL.mk n t],true,s++ [aL.mk n t])
   exact t1 (decide_eq_true hk) (rD rfl (pK rfl (s5 ht (s5 (by simp only [List.length_singleton];omega) rfl))))
 ·rw [if_neg hk]
  by_cases h1:k=t.gKind
  ·rw [if_pos h1]
   by_cases h2:n=t.gName
   ·rw [if_pos h2]
    by_cases h3:ps.length=t.gArgs.length
    ·rw [if_pos h3]
     have ha:=ahO hf (s:=s) h3 (fun x hx=>RQ hx ht) hb (by omega)
     cases hq:kJ ps t.gArgs s with
     |none=>
      rw [hq] at ha
      obtain⟨a,b,ha⟩:=ha
      exact⟨_,_,pK (by simp [hk]) (pK (by simp [h1]) (pK (by simp [h2]) (rD ha (pK rfl rfl))))⟩
     |some s'=>
      rw [hq] at ha
      exact pK (by simp [hk]) (pK (by simp [h1]) (pK (by simp [h2]) (rD ha (t1 rfl (s5 rfl rfl)))))
    ·rw [if_neg h3]
     have ha:iA (fu+1) s ps t.gArgs=some ([],false,s):=by
      rw [iA,zC]
      exact t1 (nd (fun h=>h3 (Int.ofNat_inj.1 h))) rfl
     exact⟨_,_,pK (by simp [hk]) (pK (by simp [h1]) (pK (by simp [h2]) (rD ha (pK rfl rfl))))⟩
   ·rw [if_neg h2]
    exact⟨_,_,pK (by simp [hk]) (pK (by simp [h1]) (t1 (by simp [h2]) rfl))⟩
  ·rw [if_neg h1]
   exact⟨_,_,pK (by simp [hk]) (t1 (by simp [h1]) rfl)⟩
def kY(p t:aA):Bool:=(jV p t []).isSome
theorem AN.nil:AN []:=fun b hb=>by simp at hb
theorem SL(p t:aA):kJ [p] [t] []=jV p t []:=by
 rw [kJ]
 cases hq:jV p t [] with
 |none=>simp [hq]
 |some s=>simp [hq,kJ]
theorem ah8(p:aA):wtl [p]=1+Tr.bulkL p.tr:=by rw [BU];simp [wtl,aA.trs,Tr.bulkAll]
theorem O2(p t:aA)(hp:Tr.bulkL p.tr≤68719476735)(ht:Tr.bulkL t.tr≤68719476735):cA Tryz.prog 99 [(aA.pv p),(aA.pv t)] (.t (.leaf (.bool (kY p t)))):=by
 obtain⟨fu,hf⟩:=(ajD p).get
 refine abM (fu+1) p t _ ?_
 have h1:=ahY (fu:=fu) (ps:= [p]) (by simpa using hf) (ts:= [t]) (s:= []) rfl (by simpa using ht) AN.nil (by rw [ah8];simp only [List.length_nil];omega)
 rw [SL] at h1
 unfold S7 S6 ES kY
 cases hq:jV p t [] with
 |none=>
  rw [hq] at h1
  obtain⟨a,b,h1⟩:=h1
  exact rD (rD (pK rfl (rD h1 (pK rfl rfl))) rfl) rfl
 |some s=>
  rw [hq] at h1
  exact rD (rD (pK rfl (rD h1 (t1 rfl (s5 rfl rfl)))) rfl) rfl
theorem zB(p t:aA)(hp:Tr.bulkL p.tr≤68719476735)(ht:Tr.bulkL t.tr≤68719476735):cA Tryz.prog 42 [(aA.pv p),(aA.pv t)] (.t (.leaf (.bool (kY p t)))):=by
 obtain⟨fu,hf⟩:=(aiY p).get
 refine aa4 (fu+1) p t _ ?_
 have h1:=ahO (fu:=fu) (ps:= [p]) (by simpa using hf) (ts:= [t]) (s:= []) rfl (by simpa using ht) AN.nil (by rw [ah8];simp only [List.length_nil];omega)
 rw [SL] at h1
 unfold R4 R3 kY
 cases hq:jV p t [] with
 |none=>
  rw [hq] at h1
  obtain⟨a,b,h1⟩:=h1
  exact rD (rD h1 (pK rfl rfl)) rfl
 |some s=>
  rw [hq] at h1
  exact rD (rD h1 (t1 rfl (s5 rfl rfl))) rfl
end Go.Proofs.YtpioomclpaiomaaGreat.W

namespace Go.Proofs.YtpioomclpaiomaaGreat
open Go.RowKit
section
variable {P:Program} {ops:Array Oper} {Q:Exit→Act→World→Prop} {md:Region.Mode} {S:World→Prop}
theorem pH{rest:List Oper}{o:Oper}{a:Act}{w:World}(hwd:Region.wanted o (yielded ops a.tmps)=true)(ty:TypeId)(x:Operand)(ho:o.op= .load ty x)
 (b off:Nat) (hx:a.eval x= .pointer (some ⟨b,off,none⟩)) (cs:List Value) (fs:Array Field) (hu:P.underlying ty=some (.struct fs)) (hi:(P.info? ty).map (·.size)=some cs.length)
 (hc: ∀j v,cs[j]?=some v→w.cell? ⟨b,off+j,none⟩=some v) (h:wpList P ops Q rest (a.put o.dst (.agg ⟨cs⟩)) w):wpList P ops Q (o::rest) a w:=
 wpList_step fun _ hK=>by
  rw [if_pos hwd]
  unfold Oper.wp execOp
  simp only [ho,hx,Instr.loadAt,Instr.sureAddr,Sem.run_bind,Sem.run_pure,Result.andThen_ok,DA w b off ty cs fs hu hi hc]
  exact hK _ _ h
end
end Go.Proofs.YtpioomclpaiomaaGreat

namespace Go.Proofs.YtpioomclpaiomaaGreat.W
set_option linter.unusedSimpArgs false
set_option linter.unusedVariables false
open Go.RowKit Go.Proofs
theorem ao2:(Tryz.prog.info? 26).map (·.size)=some 1:=by kernel_rfl
theorem ap6:(Tryz.prog.info? 45).map (·.size)=some 2:=by kernel_rfl
theorem abF(l:List aC): ∀e∈aC.trs l,∀d∈e,∃u,d= .leaf u:=by
 intro e he d hd
 rw [aC.trs_map] at he
 obtain⟨x,_,rfl⟩:=List.mem_map.1 he
 exact SQ x d hd
theorem akP(x0:aP)(w:World)(c0:List Value)(h0:gP w x0.tr c0)(hb:(dY x0).length≤68719476736):Calls Tryz.prog 73 #[.agg ⟨c0⟩] w fun e w'=> ∃v,e= .returned v∧s6 w w'∧xP w' (.row 2 (aC.trs (dY x0))) v (KP w w'):=by
 rw [aP.tr_cs] at h0
 exact(LH 0 x0 _ (amL 0 x0 hb)).own (abF _) (D2.cons (RV0.agg h0) D2.nil)
end Go.Proofs.YtpioomclpaiomaaGreat.W
