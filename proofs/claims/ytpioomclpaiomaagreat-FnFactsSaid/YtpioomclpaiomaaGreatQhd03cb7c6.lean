/- Words, rules and walks of several kinds, laid together: OkA4, OkA5, OkA6, OkD, OkA7, WFnd, MaTy2, Ctr, Plain, SL, TyEq0, WTy, MaMat, WMatch, WRef, WEq. No conditions but those that each theorem states. -/
import Derived.Test.YtpioomclpaiomaaGreatQheca68af1
import Derived.Test.YtpioomclpaiomaaGreatQh4b292d1e
import Derived.Test.YtpioomclpaiomaaGreatProg
import Derived.Test.YtpioomclpaiomaaGreatQh7e1aa739
import Derived.Test.YtpioomclpaiomaaGreatQhfd96fd82
import Derived.Test.YtpioomclpaiomaaGreatQhc919d32c
set_option linter.unusedSimpArgs false
set_option linter.unusedVariables false
namespace Go.Proofs.YtpioomclpaiomaaGreat.W
set_option linter.unusedSimpArgs false
set_option linter.unusedVariables false
set_option maxRecDepth 20000
set_option maxHeartbeats 4000000
open Go.RowKit Go.WalkArith Go.IntWalk
attribute [local irreducible] wt wl
def adQ(fu:Nat):Prop:= ∀(pe:aG) (pleft:Int),wt pe≤1073741824→Ok (l6 fu pe pleft) (fun _=>True)
def HB(n:Nat)(m:nD):Prop:= ∀(pe:aG) (pleft:Int),wt pe<n→wt pe≤1073741824→Ok (m pe pleft) (fun _=>True)
theorem ab1{n fu:Nat}(hfu:2147483648≤fu){r_sl11Left:nD}(h_sl11Left:HB n r_sl11Left):HB (n+1) (I4 fu r_sl11Left):=by
 intro pe pleft hm hpre
 refine oEN (fun i1 v2 hl2=>?_) ?_
 ·have:=aG.wt_eq pe
  have:=aY pe.gArgs
  refine oD (fun g4=>?_) fun g4=>?_
  ·have:=cI pe.gArgs i1 hl2
   refine Ok.lt fun y6 h5=>?_
   have:=congrArg wt h5
   exact oB (h_sl11Left y6 v2 bO bO) fun x9 _=>mP
  exact oK
 intro v2 _
 refine oEN (fun i10 v11 hl8=>?_) ?_
 ·have:=aG.wt_eq pe
  have:=aY pe.gArms
  refine oD (fun g10=>?_) fun g10=>?_
  ·have:=cI pe.gArms i10 hl8
   refine Ok.lt fun y15 h11=>?_
   have:=congrArg wt h11
   have:=bK.wt_eq y15
   exact oB (h_sl11Left y15.gBody v11 bO bO) fun x18 _=>mP
  exact oK
 intro v11 _
 exact oS
theorem ae2(n:Nat):bY fun fu=>HB n (l6 fu):=by
 induction n with
 |zero=>exact .all fun fu=>fun _ _ h=>absurd h (Nat.not_lt_zero _)
 |succ n ih=>exact bY.succ ((ih.and (bY.ge 2147483648)).imp fun fu ⟨h,hfu⟩=>fun pe pleft=>by rw [l6];exact ab1 hfu h pe pleft)
theorem H0:bY adQ:=(ae2 8589934592).imp fun fu h pe pleft hpre=>h pe pleft bO hpre
def U4(fu:Nat):Prop:= ∀(pk:Int),Ok (M9 fu pk) (fun _=>True)
theorem AJ:bY U4:=(bY.ge 2147483648).imp fun fu hfu pk=>by
 refine CS ?_ ?_
 ·exact oD (fun _=>oI) fun g2=>oI
 intro v1 _
 refine oC (fun _=>oS) fun g3=>oD (fun _=>oS) fun g4=>?_;refine CS ?_ ?_
 ·exact oD (fun _=>oI) fun g6=>oI
 intro v5 _
 refine oC (fun _=>oS) fun g7=>oD (fun _=>oS) fun g8=>oD (fun _=>oS) fun g9=>?_;refine CS ?_ ?_
 ·exact oD (fun _=>oI) fun g11=>oI
 intro v10 _
 exact oC (fun _=>oS) fun g12=>oD (fun _=>oS) fun g13=>oD (fun _=>oS) fun g14=>oS
def QG(fu:Nat):Prop:= ∀(ps:ByteArray),Ok (I5 fu ps) (fun _=>True)
theorem xF:bY QG:=((bY.ge 2147483648).and dG).imp fun fu ⟨hfu,dG⟩ ps=>by
 have:yA.size=1:=rfl
 have:CZ.size=1:=rfl
 have:LB.size=1:=rfl
 have:LC.size=1:=rfl
 have:LD.size=1:=rfl
 have:=aoL yA CZ LB LC LD
 have:=a7 yA
 have:=a7 CZ
 have:=a7 LB
 have:=a7 LC
 have:=a7 LD
 exact oB (dG ([yA,CZ,LB,LC,LD]:List ByteArray) ps) fun x2 _=>oS
def QH(fu:Nat):Prop:= ∀(pt:aA),Ok (rV fu pt) (fun _=>True)
theorem kO:bY QH:=(bY.ge 2147483648).imp fun fu hfu pt=>by
 refine oD (fun g1=>?_) fun g1=>?_
 ·exact oD (fun _=>oS) fun g2=>oS
 exact oS
def adO(fu:Nat):Prop:= ∀(pa0:aG),wt pa0≤1073741824→Ok (l3 fu pa0) (fun _=>True)
def G9(n:Nat)(m:iT):Prop:= ∀(pa0:aG),wt pa0<n→wt pa0≤1073741824→Ok (m pa0) (fun _=>True)
theorem abO{n fu:Nat}(hfu:2147483648≤fu)(AJ:U4 fu)(pR:agZ fu)(bJ:wZ fu)(xF:QG fu)(eD:C3 fu)(kO:QH fu)(pA:QK fu)(eC:C0 fu){r_sl11Form:iT}(h_sl11Form:G9 n r_sl11Form):G9 (n+1) (I2 fu r_sl11Form):=by
 intro pa0 hm hpre
 have:=aG.wt_eq pa0
 refine oB6 (AJ pa0.gKind) fun x2 x3 x4 x5 x6 x7 _=>?_;refine CS ?_ ?_
 ·refine oB (pR pa0.gKind 1 12) fun x9 _=>oW (fun _=>oL) fun g4=>oB (bJ pa0.gTrait) fun x12 _=>oN (fun _=>oL) fun g6=>?_;refine oW (fun g7=>?_) fun g7=>?_
  ·refine oN (fun _=>oL) fun g8=>?_;refine oW (fun g9=>?_) fun g9=>?_
   ·exact oN (fun _=>oL) fun g10=>oN (fun _=>oL) fun g11=>oI
   exact oN (fun _=>oL) fun g12=>oI
  refine oW (fun g13=>?_) fun g13=>?_
  ·exact oN (fun _=>oL) fun g14=>oN (fun _=>oL) fun g15=>oI
  exact oN (fun _=>oL) fun g16=>oI
 rintro⟨⟩-
 refine CS ?_ ?_
 ·refine oD (fun g18=>?_) fun g18=>?_
  ·refine oB (xF pa0.gName) fun x26 _=>oW (fun _=>oL) fun g20=>?_;refine oN (fun g21=>?_) fun g21=>?_
   ·refine oB (bJ pa0.gName) fun x30 _=>oN (fun _=>oL) fun g23=>?_;refine oW (fun g24=>?_) fun g24=>?_
    ·exact oN (fun _=>oL) fun g25=>oI
    exact oI
   exact oI
  refine oN (fun g26=>?_) fun g26=>?_
  ·refine oB (bJ pa0.gName) fun x36 _=>oN (fun _=>oL) fun g28=>?_;refine oW (fun g29=>?_) fun g29=>?_
   ·exact oN (fun _=>oL) fun g30=>oI
   exact oI
  exact oI
 rintro⟨⟩-
 refine CS ?_ ?_
 ·refine oD (fun g32=>?_) fun g32=>?_
  ·have:=aY pa0.gArgs
   refine oN (fun _=>oL) fun g33=>?_;refine oD (fun g34=>?_) fun g34=>?_
   ·refine oD (fun _=>oL) fun g35=>?_;refine oC (fun g36=>?_) fun g36=>?_
    ·exact oB (eD pa0.gType bO) fun x46 _=>oW (fun _=>oL) fun g38=>oI
    exact oB (kO pa0.gType) fun x49 _=>oW (fun _=>oL) fun g40=>oI
   refine oC (fun g41=>?_) fun g41=>?_
   ·exact oB (eD pa0.gType bO) fun x53 _=>oW (fun _=>oL) fun g43=>oI
   exact oB (kO pa0.gType) fun x56 _=>oW (fun _=>oL) fun g45=>oI
  refine oD (fun g46=>?_) fun g46=>?_
  ·have:=aY pa0.gArgs
   refine oD (fun _=>oL) fun g47=>?_;refine oC (fun g48=>?_) fun g48=>?_
   ·exact oB (eD pa0.gType bO) fun x62 _=>oW (fun _=>oL) fun g50=>oI
   exact oB (kO pa0.gType) fun x65 _=>oW (fun _=>oL) fun g52=>oI
  refine oC (fun g53=>?_) fun g53=>?_
  ·exact oB (eD pa0.gType bO) fun x69 _=>oW (fun _=>oL) fun g55=>oI
  exact oB (kO pa0.gType) fun x72 _=>oW (fun _=>oL) fun g57=>oI
 rintro⟨⟩-
 refine CS ?_ ?_
 ·refine oD (fun g59=>?_) fun g59=>?_
  ·exact oB (pR pa0.gN (-999999) 999999) fun x76 _=>oW (fun _=>oL) fun g61=>oI
  refine oD (fun g62=>?_) fun g62=>?_
  ·exact oB (pR pa0.gN 0 1) fun x80 _=>oW (fun _=>oL) fun g64=>oI
  exact oI
 rintro⟨⟩-
 refine CS ?_ ?_
 ·refine Ok.loop1 ?_;rintro i82 ⟨⟩ hl66
  have:=aY pa0.gArgs
  have:=cI pa0.gArgs i82 hl66
  refine Ok.lt fun y85 h68=>?_
  have:=congrArg wt h68
  exact oB (h_sl11Form y85 bO bO) fun x88 _=>oW (fun _=>oR) fun g70=>mP
 rintro⟨⟩-
 refine CS ?_ ?_
 ·refine Ok.loop1 ?_;rintro i90 ⟨⟩ hl72
  have:=aY pa0.gArms
  have:=cI pa0.gArms i90 hl72
  refine Ok.lt fun y93 h74=>?_
  have:=congrArg wt h74
  have:=bK.wt_eq y93
  exact oB (bJ y93.gConstructor) fun x96 _=>oW (fun _=>oR) fun g76=>oB (pA y93.gVars) fun x99 _=>oW (fun _=>oR) fun g78=>oB (eC y93.gVars) fun x102 _=>oW (fun _=>oR) fun g80=>oB (h_sl11Form y93.gBody bO bO) fun x105 _=>oW (fun _=>oR) fun g82=>mP
 rintro⟨⟩-
 exact oS
theorem aeW(n:Nat):bY fun fu=>G9 n (l3 fu):=by
 induction n with
 |zero=>exact .all fun fu=>fun _ h=>absurd h (Nat.not_lt_zero _)
 |succ n ih=>exact bY.succ ((ih.and (((((((((bY.ge 2147483648).and AJ).and pR).and bJ).and xF).and eD).and kO).and pA).and eC)).imp fun fu ⟨h,⟨⟨⟨⟨⟨⟨⟨⟨hfu,AJ⟩,pR⟩,bJ⟩,xF⟩,eD⟩,kO⟩,pA⟩,eC⟩⟩=>fun pa0=>by rw [l3];exact abO hfu AJ pR bJ xF eD kO pA eC h pa0)
theorem HY:bY adO:=(aeW 8589934592).imp fun fu h pa0 hpre=>h pa0 bO hpre
def QF(fu:Nat):Prop:= ∀(pe:aG),wt pe≤1073741824→Ok (xN fu pe) (fun _=>True)
theorem xE:bY QF:=(((bY.ge 2147483648).and H0).and HY).imp fun fu ⟨⟨hfu,H0⟩,HY⟩ pe hpre=>by
 refine oB (H0 pe 300 bO) fun x2 _=>?_;refine oD (fun g2=>?_) fun g2=>?_
 ·exact oB (HY pe bO) fun x5 _=>oS
 exact oS
def NS(fu:Nat):Prop:= ∀(pa pb:List ByteArray),Ok (D2 fu pa pb) (fun _=>True)
theorem uQ:bY NS:=(bY.ge 2147483648).imp fun fu hfu pa pb=>by
 have:=aY pa
 have:=aY pb
 refine oN (fun _=>oS) fun g1=>?_;refine CS ?_ ?_
 ·refine Ok.loop1 ?_;rintro i2 ⟨⟩ hl3
  have:=aY (pb)
  exact oG fun z5=>oN (fun _=>oR) fun g6=>mP
 rintro⟨⟩-
 exact oS
def V8(fu:Nat):Prop:= ∀(pa0 pa1:aG),wt pa0≤536870912→Ok (iZ fu pa0 pa1) (fun _=>True)
def AZ(n:Nat)(m:kA):Prop:= ∀(pa0 pa1:aG),wt pa0<n→wt pa0≤536870912→Ok (m pa0 pa1) (fun _=>True)
theorem T5{n fu:Nat}(hfu:2147483648≤fu)(sQ:JN fu)(uQ:NS fu){r_sEqualExpr:kA}(h_sEqualExpr:AZ n r_sEqualExpr):AZ (n+1) (BP fu r_sEqualExpr):=by
 intro pa0 pa1 hm hpre
 have:=aG.wt_eq pa0
 have:=aG.wt_eq pa1
 refine oN (fun _=>oS) fun g1=>oN (fun _=>oS) fun g2=>oN (fun _=>oS) fun g3=>oN (fun _=>oS) fun g4=>oB (sQ pa0.gType pa1.gType bO) fun x6 _=>oW (fun _=>oS) fun g6=>?_
 have:=aY pa0.gArgs
 have:=aY pa1.gArgs
 refine oN (fun _=>oS) fun g7=>?_
 have:=aY pa0.gArms
 have:=aY pa1.gArms
 refine oN (fun _=>oS) fun g8=>?_;refine CS ?_ ?_
 ·refine Ok.loop1 ?_;rintro i10 ⟨⟩ hl10
  have:=cI pa0.gArgs i10 hl10
  refine Ok.lt fun y13 h12=>?_
  have:=congrArg wt h12
  have:=aY (pa1.gArgs)
  refine oG fun z13=>?_
  have:=cI pa1.gArgs i10 z13
  refine Ok.lt fun y16 h14=>?_
  have:=congrArg wt h14
  exact oB (h_sEqualExpr y13 y16 bO bO) fun x19 _=>oW (fun _=>oR) fun g16=>mP
 rintro⟨⟩-
 refine CS ?_ ?_
 ·refine Ok.loop1 ?_;rintro i21 ⟨⟩ hl18
  have:=cI pa0.gArms i21 hl18
  refine Ok.lt fun y24 h20=>?_
  have:=congrArg wt h20
  have:=aY (pa1.gArms)
  refine oG fun z21=>?_
  have:=cI pa1.gArms i21 z21
  refine Ok.lt fun y27 h22=>?_
  have:=congrArg wt h22
  have:=bK.wt_eq y24
  have:=bK.wt_eq y27
  exact oN (fun _=>oR) fun g23=>oB (uQ y24.gVars y27.gVars) fun x31 _=>oW (fun _=>oR) fun g25=>oB (h_sEqualExpr y24.gBody y27.gBody bO bO) fun x34 _=>oW (fun _=>oR) fun g27=>mP
 rintro⟨⟩-
 exact oS
theorem XE(n:Nat):bY fun fu=>AZ n (iZ fu):=by
 induction n with
 |zero=>exact .all fun fu=>fun _ _ h=>absurd h (Nat.not_lt_zero _)
 |succ n ih=>exact bY.succ ((ih.and (((bY.ge 2147483648).and sQ).and uQ)).imp fun fu ⟨h,⟨⟨hfu,sQ⟩,uQ⟩⟩=>fun pa0 pa1=>by rw [iZ];exact T5 hfu sQ uQ h pa0 pa1)
theorem BG:bY V8:=(XE 8589934592).imp fun fu h pa0 pa1 hpre=>h pa0 pa1 bO hpre
def adP(fu:Nat):Prop:= ∀(pa0:aG) (pa1 pa2:List ByteArray),wl pa1+wl pa2+2*wt pa0≤134217728→Ok (l4 fu pa0 pa1 pa2) (fun r=>wl r≤wl pa2+wt pa0+1)
def HA(n:Nat)(m:l5):Prop:= ∀(pa0:aG) (pa1 pa2:List ByteArray),wt pa0<n→wl pa1+wl pa2+2*wt pa0≤134217728→Ok (m pa0 pa1 pa2) (fun r=>wl r≤wl pa2+wt pa0+1)
theorem abV{n fu:Nat}(hfu:2147483648≤fu)(dG:QI fu){r_sl11Free:l5}(h_sl11Free:HA n r_sl11Free):HA (n+1) (I3 fu r_sl11Free):=by
 intro pa0 pa1 pa2 hm hpre
 have:=aG.wt_eq pa0
 refine Ok.sok (E:=fun v2=>wl v2+wl pa0.gArgs+wl pa0.gArms≤wl pa2+wt pa0+1) ?_ ?_
 ·refine oD (fun g2=>?_) fun g2=>?_
  ·refine oB (dG pa1 pa0.gName) fun x5 _=>?_;refine oW (fun g4=>?_) fun g4=>?_
   ·refine oB (dG pa2 pa0.gName) fun x8 _=>?_;refine oW (fun g6=>?_) fun g6=>?_
    ·have:=aY (pa2)
     have:=b8 pa0.gName
     have:=a7 pa0.gName
     refine oG fun z7=>?_
     have:=bV pa2 ([pa0.gName]:List ByteArray)
     exact oI
    exact oI
   exact oI
  exact oI
 intro v2 h1
 refine IG pa0.gArgs 1 (fun i11 v13 hl9 hI10 _ _=>?_) ?_
 ·have:=aY pa0.gArgs
  refine oD (fun g11=>?_) fun g11=>?_
  ·refine oD (fun g12=>?_) fun g12=>?_
   ·have:=(aV:wl ([]:List ByteArray)=0∧_)
    have:=aY (pa1)
    refine oG fun z13=>?_
    have:=bV ([]:List ByteArray) pa1
    have:=b8 pa0.gName
    have:=a7 pa0.gName
    refine oG fun z14=>?_
    have:=cI pa0.gArgs i11 hl9
    refine Ok.lt fun y20 h15=>?_
    have:=congrArg wt h15
    have:=bV (([])++pa1) ([pa0.gName]:List ByteArray)
    exact oB (h_sl11Free y20 ((([])++pa1)++([pa0.gName]:List ByteArray)) v13 bO bO) fun x23 h16=>mP
   have:=cI pa0.gArgs i11 hl9
   refine Ok.lt fun y24 h17=>?_
   have:=congrArg wt h17
   exact oB (h_sl11Free y24 pa1 v13 bO bO) fun x27 h18=>mP
  have:=cI pa0.gArgs i11 hl9
  refine Ok.lt fun y28 h19=>?_
  have:=congrArg wt h19
  exact oB (h_sl11Free y28 pa1 v13 bO bO) fun x31 h20=>mP
 intro v13 h8
 refine IG pa0.gArms 1 (fun i32 v34 hl22 hI23 _ _=>?_) ?_
 ·have:=aY pa0.gArms
  have:=cI pa0.gArms i32 hl22
  refine Ok.lt fun y37 h24=>?_
  have:=congrArg wt h24
  have:=(aV:wl ([]:List ByteArray)=0∧_)
  have:=aY (pa1)
  refine oG fun z25=>?_
  have:=bV ([]:List ByteArray) pa1
  have:=bK.wt_eq y37
  have:=aY (y37.gVars)
  refine oG fun z26=>?_
  have:=bV (([])++pa1) y37.gVars
  exact oB (h_sl11Free y37.gBody ((([])++pa1)++y37.gVars) v34 bO bO) fun x42 h27=>mP
 intro v34 h21
 exact oS
theorem aeX(n:Nat):bY fun fu=>HA n (l4 fu):=by
 induction n with
 |zero=>exact .all fun fu=>fun _ _ _ h=>absurd h (Nat.not_lt_zero _)
 |succ n ih=>exact bY.succ ((ih.and ((bY.ge 2147483648).and dG)).imp fun fu ⟨h,⟨hfu,dG⟩⟩=>fun pa0 pa1 pa2=>by rw [l4];exact abV hfu dG h pa0 pa1 pa2)
theorem HZ:bY adP:=(aeX 8589934592).imp fun fu h pa0 pa1 pa2 hpre=>h pa0 pa1 pa2 bO hpre
def LN(fu:Nat):Prop:= ∀(pe:aG),wt pe≤67108864→Ok (tS fu pe) (fun r=>wl r≤wt pe+1)
theorem tF:bY LN:=((bY.ge 2147483648).and HZ).imp fun fu ⟨hfu,HZ⟩ pe hpre=>by
 have:=(aV:wl ([]:List ByteArray)=0∧_)
 exact oB (HZ pe ([]:List ByteArray) ([]:List ByteArray) bO) fun x2 h1=>oS
def adW(fu:Nat):Prop:= ∀(pt:aA) (pvars:List ByteArray),wt pt+wl pvars≤67108864→Ok (nF fu pt pvars) (fun _=>True)
theorem fS:bY adW:=((((bY.ge 2147483648).and tG).and dG).and eD).imp fun fu ⟨⟨⟨hfu,tG⟩,dG⟩,eD⟩ pt pvars hpre=>by
 refine oB (tG pt bO) fun x2 h1=>?_;refine CS ?_ ?_
 ·refine Ok.loop1 ?_;rintro i3 ⟨⟩ hl3
  have:=aY x2
  have:=cI x2 i3 hl3
  have:=a7 (aW x2 i3)
  exact oB (dG pvars (aW x2 i3)) fun x7 _=>oW (fun _=>oR) fun g6=>mP
 rintro⟨⟩-
 exact oB (eD pt bO) fun x10 _=>oS
def ahR(fu:Nat):Prop:= ∀(plist:List aA) (pvars:List ByteArray),wl plist+wl pvars≤67108864→Ok (E9 fu plist pvars) (fun _=>True)
theorem wT:bY ahR:=((bY.ge 2147483648).and fS).imp fun fu ⟨hfu,fS⟩ plist pvars hpre=>by
 refine CS ?_ ?_
 ·refine Ok.loop1 ?_;rintro i1 ⟨⟩ hl2
  have:=aY plist
  have:=cI plist i1 hl2
  exact oB (fS (aW plist i1) pvars bO) fun x5 _=>oW (fun _=>oR) fun g5=>mP
 rintro⟨⟩-
 exact oS
def adV(fu:Nat):Prop:= ∀(pe:aG),wt pe≤67108864→Ok (JA fu pe) (fun _=>True)
theorem H5:bY adV:=((bY.ge 2147483648).and BG).imp fun fu ⟨hfu,BG⟩ pe hpre=>by
 have:s_.size=0:=rfl
 have:=(aV:wl ([]:List aA)=0∧_)
 have:=aA.wt_mk 0 s_ []
 have:=(aV:wl ([]:List aG)=0∧_)
 have:=(aV:wl ([]:List bK)=0∧_)
 have:=aG.wt_mk 0 s_ s_ 0 (aA.mk 0 s_ []) [] []
 exact oB (BG pe (aG.mk 0 s_ s_ 0 (aA.mk 0 s_ []) [] []) bO) fun x2 _=>oS
def ZS(fu:Nat):Prop:= ∀(plist:List ByteArray) (pmost:Int),Ok (fY fu plist pmost) (fun _=>True)
theorem cW:bY ZS:=(((bY.ge 2147483648).and pA).and eC).imp fun fu ⟨⟨hfu,pA⟩,eC⟩ plist pmost=>by
 refine oD (fun g1=>?_) fun g1=>?_
 ·refine oB (pA plist) fun x3 _=>?_;refine oC (fun g3=>?_) fun g3=>?_
  ·exact oB (eC plist) fun x6 _=>oS
  exact oS
 exact oS
def adS(fu:Nat):Prop:= ∀(pe:aG) (pvars:List ByteArray),wt pe+wl pvars≤67108864→Ok (xQ fu pe pvars) (fun _=>True)
theorem mX:bY adS:=((((bY.ge 2147483648).and tF).and dG).and xE).imp fun fu ⟨⟨⟨hfu,tF⟩,dG⟩,xE⟩ pe pvars hpre=>by
 refine oB (tF pe bO) fun x2 h1=>?_;refine CS ?_ ?_
 ·refine Ok.loop1 ?_;rintro i3 ⟨⟩ hl3
  have:=aY x2
  have:=cI x2 i3 hl3
  have:=a7 (aW x2 i3)
  exact oB (dG pvars (aW x2 i3)) fun x7 _=>oW (fun _=>oR) fun g6=>mP
 rintro⟨⟩-
 exact oB (xE pe bO) fun x10 _=>oS
def ahS(fu:Nat):Prop:= ∀(ps:aD),wt ps≤33554432→Ok (ND fu ps) (fun _=>True)
theorem MA:bY ahS:=(((((((bY.ge 2147483648).and bJ).and wT).and fS).and H5).and cW).and mX).imp fun fu ⟨⟨⟨⟨⟨⟨hfu,bJ⟩,wT⟩,fS⟩,H5⟩,cW⟩,mX⟩ ps hpre=>by
 have:=aD.wt_eq ps
 refine oB (bJ ps.gName) fun x2 _=>oW (fun _=>oS) fun g2=>?_
 have:=aY ps.gParams
 refine oD (fun _=>oS) fun g3=>?_
 have:iS.size=4:=rfl
 have:=b8 iS
 have:=a7 iS
 refine oB (wT ps.gParams ([iS]:List ByteArray) bO) fun x6 _=>oW (fun _=>oS) fun g5=>oB (fS ps.gResult ([iS]:List ByteArray) bO) fun x9 _=>oW (fun _=>oS) fun g7=>?_;refine oW (fun g8=>?_) fun g8=>?_
 ·have:=aY ps.gVars
  refine oD (fun g9=>?_) fun g9=>?_
  ·exact oB (H5 ps.gBody bO) fun x14 _=>oS
  exact oS
 refine oB (cW ps.gVars 5) fun x16 _=>?_;refine oC (fun g12=>?_) fun g12=>?_
 ·have:=aY ps.gVars
  have:=eL ((ps.gParams.length:Int)+1)
  refine oD (fun g13=>?_) fun g13=>?_
  ·exact oB (mX ps.gBody ps.gVars bO) fun x20 _=>oS
  exact oS
 exact oS
def OG(fu:Nat):Prop:= ∀(pt:aT),wt pt≤16777216→Ok (q8 fu pt) (fun _=>True)
theorem kZ:bY OG:=((((bY.ge 2147483648).and MA).and bJ).and cW).imp fun fu ⟨⟨⟨hfu,MA⟩,bJ⟩,cW⟩ pt hpre=>by
 have:=(aV:wl ([]:List ByteArray)=0∧_)
 have:=aT.wt_eq pt
 refine IG pt.gSignatures 1 (fun i1 v3 hl2 hI3 _ _=>?_) ?_
 ·have:=aY pt.gSignatures
  have:=cI pt.gSignatures i1 hl2
  refine Ok.lt fun y6 h4=>?_
  have:=congrArg wt h4
  refine oB (MA y6 bO) fun x9 _=>oW (fun _=>oR) fun g6=>?_
  have:=aY (v3)
  have:=aD.wt_eq y6
  have:=b8 y6.gName
  have:=a7 y6.gName
  refine oG fun z7=>?_
  have:=bV v3 ([y6.gName]:List ByteArray)
  exact mP
 intro v3 h1
 refine oC (fun g8=>?_) fun g8=>?_
 ·refine oC (fun _=>oS) fun g9=>oD (fun _=>oS) fun g10=>oD (fun _=>oS) fun g11=>oB (bJ pt.gName) fun x17 _=>?_;refine oC (fun g13=>?_) fun g13=>?_
  ·refine oB (cW pt.gSupertraits 4) fun x20 _=>?_;refine oC (fun g15=>?_) fun g15=>?_
   ·exact oB (cW v3 6) fun x23 _=>oS
   exact oS
  exact oS
 refine oB (bJ pt.gName) fun x25 _=>?_;refine oC (fun g18=>?_) fun g18=>?_
 ·refine oB (cW pt.gSupertraits 4) fun x28 _=>?_;refine oC (fun g20=>?_) fun g20=>?_
  ·exact oB (cW v3 6) fun x31 _=>oS
  exact oS
 exact oS
def HF(fu:Nat):Prop:= ∀(pd:aN),wt pd≤16777216→Ok (m7 fu pd) (fun _=>True)
theorem iN:bY HF:=((((bY.ge 2147483648).and wT).and bJ).and cW).imp fun fu ⟨⟨⟨hfu,wT⟩,bJ⟩,cW⟩ pd hpre=>by
 have:=(aV:wl ([]:List ByteArray)=0∧_)
 have:=aN.wt_eq pd
 refine IG pd.gConstructors 1 (fun i1 v3 hl2 hI3 _ _=>?_) ?_
 ·have:=aY pd.gConstructors
  have:=cI pd.gConstructors i1 hl2
  have:=aC.wt_eq (aW pd.gConstructors i1)
  have:=aY ((aW pd.gConstructors i1).gFields)
  refine oD (fun _=>oR) fun g4=>oB (wT ((aW pd.gConstructors i1).gFields) pd.gVars bO) fun x8 _=>oW (fun _=>oR) fun g6=>?_
  have:=aY (v3)
  have:=b8 ((aW pd.gConstructors i1).gName)
  have:=a7 ((aW pd.gConstructors i1).gName)
  refine oG fun z7=>?_
  have:=bV v3 ([((aW pd.gConstructors i1).gName)]:List ByteArray)
  exact mP
 intro v3 h1
 refine oB (bJ pd.gName) fun x12 _=>?_;refine oC (fun g9=>?_) fun g9=>?_
 ·refine oB (cW pd.gVars 3) fun x15 _=>?_;refine oC (fun g11=>?_) fun g11=>?_
  ·refine oD (fun g12=>?_) fun g12=>?_
   ·exact oB (cW v3 5) fun x19 _=>oS
   exact oS
  exact oS
 exact oS
def OE(fu:Nat):Prop:= ∀(pb:aF),wt pb≤33554432→Ok (vI fu pb) (fun _=>True)
theorem vA:bY OE:=(((bY.ge 2147483648).and bJ).and eD).imp fun fu ⟨⟨hfu,bJ⟩,eD⟩ pb hpre=>by
 have:=aF.wt_eq pb
 refine oB (bJ pb.gTrait) fun x2 _=>?_;refine oC (fun g2=>?_) fun g2=>?_
 ·exact oB (eD pb.gType bO) fun x5 _=>oS
 exact oS
def ZR(fu:Nat):Prop:= ∀(plist:List aF) (pvars:List ByteArray),wl plist+wl pvars≤33554432→Ok (yQ fu plist pvars) (fun _=>True)
theorem rZ:bY ZR:=((((bY.ge 2147483648).and vA).and fS).and kK).imp fun fu ⟨⟨⟨hfu,vA⟩,fS⟩,kK⟩ plist pvars hpre=>by
 refine CS ?_ ?_
 ·refine Ok.loop1 ?_;rintro i1 ⟨⟩ hl2
  have:=aY plist
  have:=cI plist i1 hl2
  refine oB (vA (aW plist i1) bO) fun x5 _=>oW (fun _=>oR) fun g5=>?_
  have:=aF.wt_eq (aW plist i1)
  exact oB (fS ((aW plist i1).gType) pvars bO) fun x8 _=>oW (fun _=>oR) fun g7=>oB (kK ((aW plist i1).gType) bO) fun x11 _=>oC (fun _=>oR) fun g9=>mP
 rintro⟨⟩-
 exact oS
def HH(fu:Nat):Prop:= ∀(pa0:aH),wt pa0≤16777216→Ok (m9 fu pa0) (fun _=>True)
theorem iQ:bY HH:=(((((((((bY.ge 2147483648).and bJ).and cW).and fS).and kK).and rZ).and DJ).and kO).and mX).imp fun fu ⟨⟨⟨⟨⟨⟨⟨⟨hfu,bJ⟩,cW⟩,fS⟩,kK⟩,rZ⟩,DJ⟩,kO⟩,mX⟩ pa0 hpre=>by
 have:=aH.wt_eq pa0
 refine oB (bJ pa0.gTrait) fun x2 _=>oW (fun _=>oS) fun g2=>oB (cW pa0.gVars 3) fun x5 _=>oW (fun _=>oS) fun g4=>oB (fS pa0.gHead pa0.gVars bO) fun x8 _=>oW (fun _=>oS) fun g6=>oB (kK pa0.gHead bO) fun x11 _=>oC (fun _=>oS) fun g8=>?_
 have:=aA.wt_eq pa0.gHead
 refine oD (fun _=>oS) fun g9=>oB (rZ pa0.gWhere pa0.gVars bO) fun x15 _=>oW (fun _=>oS) fun g11=>?_;refine CS ?_ ?_
 ·refine Ok.loop1 ?_;rintro i17 ⟨⟩ hl13
  have:=aY pa0.gVars
  have:=cI pa0.gVars i17 hl13
  have:=a7 (aW pa0.gVars i17)
  exact oB (DJ (aW pa0.gVars i17) pa0.gHead bO) fun x21 _=>oW (fun _=>oR) fun g16=>mP
 rintro⟨⟩-
 refine CS ?_ ?_
 ·refine oC (fun g18=>?_) fun g18=>?_
  ·exact oB (fS pa0.gAssoc pa0.gVars bO) fun x25 _=>oW (fun _=>oL) fun g20=>oI
  exact oB (kO pa0.gAssoc) fun x28 _=>oW (fun _=>oL) fun g22=>oI
 rintro⟨⟩-
 have:=(aV:wl ([]:List ByteArray)=0∧_)
 refine IG pa0.gMethods 1 (fun i30 v32 hl24 hI25 _ _=>?_) ?_
 ·have:=aY pa0.gMethods
  have:=cI pa0.gMethods i30 hl24
  refine Ok.lt fun y35 h26=>?_
  have:=congrArg wt h26
  have:=aP.wt_eq y35
  have:=aY y35.gVars
  refine oD (fun _=>oR) fun g27=>oB (cW y35.gVars 5) fun x39 _=>oW (fun _=>oR) fun g29=>oB (mX y35.gBody y35.gVars bO) fun x42 _=>oW (fun _=>oR) fun g31=>?_
  have:=aY (v32)
  have:=b8 y35.gName
  have:=a7 y35.gName
  refine oG fun z32=>?_
  have:=bV v32 ([y35.gName]:List ByteArray)
  exact mP
 intro v32 h23
 exact oB (cW v32 6) fun x46 _=>oS
def HG(fu:Nat):Prop:= ∀(pf:aM),wt pf≤16777216→Ok (m8 fu pf) (fun _=>True)
theorem iP:bY HG:=((((((bY.ge 2147483648).and fS).and bJ).and cW).and rZ).and mX).imp fun fu ⟨⟨⟨⟨⟨hfu,fS⟩,bJ⟩,cW⟩,rZ⟩,mX⟩ pf hpre=>by
 have:=(aV:wl ([]:List ByteArray)=0∧_)
 have:=aM.wt_eq pf
 refine IG pf.gParams 1 (fun i1 v3 hl2 hI3 _ _=>?_) ?_
 ·have:=aY pf.gParams
  have:=cI pf.gParams i1 hl2
  have:=aU.wt_eq (aW pf.gParams i1)
  refine oB (fS ((aW pf.gParams i1).gType) pf.gVars bO) fun x7 _=>oW (fun _=>oR) fun g5=>?_
  have:=aY (v3)
  have:=b8 ((aW pf.gParams i1).gName)
  have:=a7 ((aW pf.gParams i1).gName)
  refine oG fun z6=>?_
  have:=bV v3 ([((aW pf.gParams i1).gName)]:List ByteArray)
  exact mP
 intro v3 h1
 refine oB (bJ pf.gName) fun x11 _=>?_;refine oC (fun g8=>?_) fun g8=>?_
 ·refine oB (cW pf.gVars 3) fun x14 _=>?_;refine oC (fun g10=>?_) fun g10=>?_
  ·refine oB (rZ pf.gWhere pf.gVars bO) fun x17 _=>?_;refine oC (fun g12=>?_) fun g12=>?_
   ·refine oB (cW v3 5) fun x20 _=>?_;refine oC (fun g14=>?_) fun g14=>?_
    ·refine oB (fS pf.gResult pf.gVars bO) fun x23 _=>?_;refine oC (fun g16=>?_) fun g16=>?_
     ·exact oB (mX pf.gBody v3 bO) fun x26 _=>oS
     exact oS
    exact oS
   exact oS
  exact oS
 exact oS
end Go.Proofs.YtpioomclpaiomaaGreat.W

namespace Go.Proofs.YtpioomclpaiomaaGreat.W
set_option linter.unusedSimpArgs false
set_option linter.unusedVariables false
set_option maxRecDepth 20000
set_option maxHeartbeats 4000000
open Go.RowKit Go.WalkArith Go.IntWalk
attribute [local irreducible] wt wl
def ajZ(fu:Nat):Prop:= ∀(px:aB) (pi:Int),0≤pi∧wt px≤1073741824→Ok (c7 fu px pi) (fun r=>wt r≤wt px)
theorem cD:bY ajZ:=(bY.ge 2147483648).imp fun fu hfu px pi hpre=>by
 have:=aB.wt_eq px
 have:=aY px.gList
 refine oD (fun g1=>?_) fun g1=>?_
 ·have:s_.size=0:=rfl
  have:=(aV:wl ([]:List aB)=0∧_)
  have:=aB.wt_mk s_ []
  exact oS
 have:=aY (px.gList)
 refine oG fun z2=>?_
 have:=cI px.gList ((pi).toNat) z2.2
 exact oS
def ZT(fu:Nat):Prop:= ∀(px:aB),wt px≤1073741824→Ok (lM fu px) (fun r=>wl r≤wt px)
theorem fT:bY ZT:=((bY.ge 2147483648).and gS).imp fun fu ⟨hfu,gS⟩ px hpre=>by
 have:=aB.wt_eq px
 refine tR (gS px.gList bO) fun x2 x3 h1=>?_
 dsimp only at h1
 exact oS
def adX(fu:Nat):Prop:= ∀(px:aB) (pi:Int),0≤pi→Ok (t1 fu px pi) (fun r=>wl r≤wl px.gList)
theorem lU:bY adX:=((bY.ge 2147483648).and hY).imp fun fu ⟨hfu,hY⟩ px pi hpre=>by
 have:=aB.wt_eq px
 have:=aY px.gList
 refine oB (hY pi (px.gList.length:Int)) fun x2 h1=>oG fun z2=>?_
 have:=QA (x2:Int).toNat (px.gList.length:Int).toNat px.gList
 exact oS
def ahT(fu:Nat):Prop:= ∀(plist:List aB),wl plist≤67108864→Ok (FB fu plist) (fun r=>wl r≤2*wl plist)
theorem wU:bY ahT:=((bY.ge 2147483648).and gJ).imp fun fu ⟨hfu,gJ⟩ plist hpre=>by
 have:=(aV:wl ([]:List aA)=0∧_)
 refine IG plist 2 (fun i1 v3 hl2 hI3 _ _=>?_) ?_
 ·have:=aY plist
  have:=cI plist i1 hl2
  refine oB (gJ (aW plist i1) bO) fun x7 h4=>?_
  have:=aY (v3)
  have:=b8 x7
  refine oG fun z5=>?_
  have:=bV v3 ([x7]:List aA)
  exact mP
 intro v3 h1
 exact oS
def ZW(fu:Nat):Prop:= ∀(plist:List ByteArray),wl plist≤1073741824→Ok (kD fu plist) (fun r=>wt r≤wl plist)
theorem fI:bY ZW:=((bY.ge 2147483648).and lV).imp fun fu ⟨hfu,lV⟩ plist hpre=>by
 refine oB (lV plist bO) fun x2 h1=>?_
 have:s_.size=0:=rfl
 have:=aB.wt_mk s_ x2
 exact oS
def ZU(fu:Nat):Prop:= ∀(plist:List aA),wl plist≤33554432→Ok (yS fu plist) (fun r=>wl r≤8*wl plist)
theorem r6:bY ZU:=((bY.ge 2147483648).and g0).imp fun fu ⟨hfu,g0⟩ plist hpre=>by
 have:=(aV:wl ([]:List aB)=0∧_)
 refine IG plist 8 (fun i1 v3 hl2 hI3 _ _=>?_) ?_
 ·have:=aY plist
  have:=cI plist i1 hl2
  refine oB (g0 (aW plist i1) bO) fun x7 h4=>?_
  have:=aY (v3)
  have:=b8 x7
  refine oG fun z5=>?_
  have:=bV v3 ([x7]:List aB)
  exact mP
 intro v3 h1
 exact oS
def aj0(fu:Nat):Prop:= ∀(pok:Bool) (px:aB),wt px≤1073741824→Ok (AR fu pok px) (fun r=>wt r≤wt px)
theorem nP:bY aj0:=((bY.ge 2147483648).and cL).imp fun fu ⟨hfu,cL⟩ pok px hpre=>by
 refine oW (fun g1=>?_) fun g1=>?_
 ·have:s_.size=0:=rfl
  have:=(aV:wl ([]:List aB)=0∧_)
  have:=aB.wt_mk s_ []
  exact oS
 refine oB (cL px bO) fun x3 _=>?_;refine oW (fun g3=>?_) fun g3=>?_
 ·have:s_.size=0:=rfl
  have:=(aV:wl ([]:List aB)=0∧_)
  have:=aB.wt_mk s_ []
  exact oS
 exact oS
def OK(fu:Nat):Prop:= ∀(pa0:aT),wt pa0≤1048576→(∀a∈pa0.gSignatures,G6 a.gBody)→Ok (vM fu pa0) (fun r=>wt r≤64*wt pa0+64)
theorem vE:bY OK:=(((((((((bY.ge 2147483648).and kZ).and bM).and fI).and eI).and r6).and g0).and sT).and nP).imp fun fu ⟨⟨⟨⟨⟨⟨⟨⟨hfu,kZ⟩,bM⟩,fI⟩,eI⟩,r6⟩,g0⟩,sT⟩,nP⟩ pa0 hpre hB=>by
 refine oB (kZ pa0 bO) fun x2 _=>?_;refine oW (fun g2=>?_) fun g2=>?_
 ·have:s_.size=0:=rfl
  have:=(aV:wl ([]:List aB)=0∧_)
  have:=aB.wt_mk s_ []
  exact oS
 refine Ok.sok (E:=fun v5=>wl v5≤5) ?_ ?_
 ·have:=aT.wt_eq pa0
  refine oC (fun g4=>?_) fun g4=>?_
  ·have:=(aV:wl ([]:List ByteArray)=0∧_)
   have:xO.size=4:=rfl
   have:=b8 xO
   have:=a7 xO
   refine oG fun z5=>?_
   have:=bV ([]:List ByteArray) ([xO]:List ByteArray)
   exact oI
  have:=(aV:wl ([]:List ByteArray)=0∧_)
  exact oI
 intro v5 h3
 refine Ok.sok (E:=fun v9=>wl v9≤11) ?_ ?_
 ·have:=aT.wt_eq pa0
  refine oC (fun g7=>?_) fun g7=>?_
  ·have:=aY (v5)
   have:iA.size=5:=rfl
   have:=b8 iA
   have:=a7 iA
   refine oG fun z8=>?_
   have:=bV v5 ([iA]:List ByteArray)
   exact oI
  exact oI
 intro v9 h6
 have:E8.size=5:=rfl
 refine oB (bM E8) fun x13 h9=>?_
 have:=aT.wt_eq pa0
 refine oB (bM pa0.gName) fun x15 h10=>oB (fI pa0.gSupertraits bO) fun x17 h11=>oB (fI v9 bO) fun x19 h12=>?_
 have:=apO x13 x15 x17 x19
 refine oB (eI ([x13,x15,x17,x19]:List aB) bO) fun x21 h13=>?_
 have:=aB.wt_eq x21
 refine IG pa0.gSignatures 64 (fun i22 v24 hl15 hI16 _ _=>?_) ?_
 ·have:=aY pa0.gSignatures
  have:=cI pa0.gSignatures i22 hl15
  refine Ok.lt fun y27 h17=>?_
  have:=congrArg wt h17
  have:=aD.wt_eq y27
  refine oB (bM y27.gName) fun x30 h18=>oB (r6 y27.gParams bO) fun x32 h19=>oB (g0 y27.gResult bO) fun x34 h20=>?_
  have:s_.size=0:=rfl
  have:=aB.wt_mk s_ x32
  have:=CR x30 (aB.mk s_ x32) x34
  refine oB (eI ([x30,(aB.mk s_ x32),x34]:List aB) bO) fun x36 h21=>?_;refine oC (fun g22=>?_) fun g22=>?_
  ·refine oB (fI y27.gVars bO) fun x39 h23=>oB (sT y27.gBody bO (by rw [show y27=aW pa0.gSignatures i22 by assumption];exact WI hB (by assumption))) fun x41 h24=>?_
   have:=aB.wt_eq x36
   have:=aY (x36.gList)
   have:=jT x39 x41
   refine oG fun z25=>?_
   have:=aY (v24)
   have:=bV x36.gList ([x39,x41]:List aB)
   have:=aB.wt_mk x36.gAtom (x36.gList++([x39,x41]:List aB))
   have:=b8 (aB.mk x36.gAtom (x36.gList++([x39,x41]:List aB)))
   refine oG fun z26=>?_
   have:=bV v24 ([(aB.mk x36.gAtom (x36.gList++([x39,x41]:List aB)))]:List aB)
   exact mP
  have:=aY (v24)
  have:=aB.wt_eq x36
  have:=aB.wt_mk x36.gAtom x36.gList
  have:=b8 (aB.mk x36.gAtom x36.gList)
  refine oG fun z27=>?_
  have:=bV v24 ([(aB.mk x36.gAtom x36.gList)]:List aB)
  exact mP
 intro v24 h14
 have:=aB.wt_mk x21.gAtom v24
 exact oB (nP true (aB.mk x21.gAtom v24) bO) fun x46 h28=>oS
def OJ(fu:Nat):Prop:= ∀(pa0:aB),wt pa0≤65536→Ok (vL fu pa0) (fun r=>wt r.1≤16*wt pa0)
theorem vD:bY OJ:=(((((((((((bY.ge 2147483648).and cD).and fT).and dG).and lU).and wU).and gJ).and mW).and cL).and vE).and fZ).imp fun fu ⟨⟨⟨⟨⟨⟨⟨⟨⟨⟨hfu,cD⟩,fT⟩,dG⟩,lU⟩,wU⟩,gJ⟩,mW⟩,cL⟩,vE⟩,fZ⟩ pa0 hpre=>by
 refine oB (cD pa0 3 bO) fun x2 h1=>oB (fT x2 bO) fun x4 h2=>oB (cD pa0 1 bO) fun x6 h3=>oB (cD pa0 2 bO) fun x8 h4=>oB (fT x8 bO) fun x10 h5=>?_
 have:xO.size=4:=rfl
 refine oB (dG x4 xO) fun x12 _=>?_
 have:iA.size=5:=rfl
 refine oB (dG x4 iA) fun x14 _=>?_
 have:=aB.wt_eq pa0
 refine oB (lU pa0 4 bO) fun x16 h8=>?_
 have:=(aV:wl ([]:List aD)=0∧_)
 refine amB (PA:=fun a=>G6 a.gBody) x16 8 (fun i17 v19 hl10 hI11 hI11B _ _=>?_) ?_
 ·have:=aY x16
  have:=cI x16 i17 hl10
  refine oB (cD (aW x16 i17) 0 bO) fun x23 h12=>oB (cD (aW x16 i17) 1 bO) fun x25 h13=>?_
  have:=aB.wt_eq x25
  refine oB (wU x25.gList bO) fun x27 h14=>oB (cD (aW x16 i17) 2 bO) fun x29 h15=>oB (gJ x29 bO) fun x31 h16=>?_
  have:=aB.wt_eq (aW x16 i17)
  have:=aY ((aW x16 i17).gList)
  refine oD (fun g17=>?_) fun g17=>?_
  ·refine oB (cD (aW x16 i17) 3 bO) fun x34 h18=>oB (fT x34 bO) fun x36 h19=>oB (cD (aW x16 i17) 4 bO) fun x38 h20=>N6 (mW x38 bO) fun x40 h21 h21B=>?_
   have:=aY (v19)
   have:=aB.wt_eq x23
   have:=aD.wt_mk x23.gAtom x27 x31 true x36 x40
   have:=b8 (aD.mk x23.gAtom x27 x31 true x36 x40)
   refine oG fun z22=>?_
   have:=bV v19 ([(aD.mk x23.gAtom x27 x31 true x36 x40)]:List aD)
   exact oX hI11B
  have:=aY (v19)
  have:=aB.wt_eq x23
  have:s_.size=0:=rfl
  have:=(aV:wl ([]:List aA)=0∧_)
  have:=aA.wt_mk 0 s_ []
  have:=(aV:wl ([]:List aG)=0∧_)
  have:=(aV:wl ([]:List bK)=0∧_)
  have:=aG.wt_mk 0 s_ s_ 0 (aA.mk 0 s_ []) [] []
  have:=(aV:wl ([]:List ByteArray)=0∧_)
  have:=aD.wt_mk x23.gAtom x27 x31 false [] (aG.mk 0 s_ s_ 0 (aA.mk 0 s_ []) [] [])
  have:=b8 (aD.mk x23.gAtom x27 x31 false [] (aG.mk 0 s_ s_ 0 (aA.mk 0 s_ []) [] []))
  refine oG fun z23=>?_
  have:=bV v19 ([(aD.mk x23.gAtom x27 x31 false [] (aG.mk 0 s_ s_ 0 (aA.mk 0 s_ []) [] []))]:List aD)
  exact oX hI11B
 rintro v19 ⟨h9,h9B⟩
 refine oB (cL pa0 bO) fun x44 _=>?_;refine oW (fun g25=>?_) fun g25=>?_
 ·have:s_.size=0:=rfl
  have:=(aV:wl ([]:List ByteArray)=0∧_)
  have:=aT.wt_mk s_ [] false false []
  exact oS
 have:=aY pa0.gList
 refine oD (fun g26=>?_) fun g26=>?_
 ·have:s_.size=0:=rfl
  have:=(aV:wl ([]:List ByteArray)=0∧_)
  have:=aT.wt_mk s_ [] false false []
  exact oS
 have:=aB.wt_eq x6
 have:=aT.wt_mk x6.gAtom x10 x12 x14 v19
 refine oB (vE (aT.mk x6.gAtom x10 x12 x14 v19) bO (by first|assumption|trivial)) fun x48 h27=>oB (fZ x48 pa0 bO) fun x50 _=>?_;refine oW (fun g29=>?_) fun g29=>?_
 ·have:s_.size=0:=rfl
  have:=(aV:wl ([]:List ByteArray)=0∧_)
  have:=aT.wt_mk s_ [] false false []
  exact oS
 exact oS
def HC(fu:Nat):Prop:= ∀(pd:aN),wt pd≤1048576→Ok (rM fu pd) (fun r=>wt r≤64*wt pd+64)
theorem rF:bY HC:=(((((((bY.ge 2147483648).and bM).and fI).and eI).and r6).and iN).and nP).imp fun fu ⟨⟨⟨⟨⟨⟨hfu,bM⟩,fI⟩,eI⟩,r6⟩,iN⟩,nP⟩ pd hpre=>by
 have:M7.size=4:=rfl
 refine oB (bM M7) fun x2 h1=>?_
 have:=aN.wt_eq pd
 refine oB (bM pd.gName) fun x4 h2=>oB (fI pd.gVars bO) fun x6 h3=>?_
 have:=CR x2 x4 x6
 refine oB (eI ([x2,x4,x6]:List aB) bO) fun x8 h4=>?_
 have:=aB.wt_eq x8
 refine IG pd.gConstructors 64 (fun i9 v11 hl6 hI7 _ _=>?_) ?_
 ·have:=aY pd.gConstructors
  have:=cI pd.gConstructors i9 hl6
  have:=aC.wt_eq (aW pd.gConstructors i9)
  refine oB (bM ((aW pd.gConstructors i9).gName)) fun x15 h8=>oB (r6 ((aW pd.gConstructors i9).gFields) bO) fun x17 h9=>?_
  have:=b8 x15
  have:=aY (x17)
  refine oG fun z10=>?_
  have:=aY (v11)
  have:s_.size=0:=rfl
  have:=bV ([x15]:List aB) x17
  have:=aB.wt_mk s_ (([x15]:List aB)++x17)
  have:=b8 (aB.mk s_ (([x15]:List aB)++x17))
  refine oG fun z11=>?_
  have:=bV v11 ([(aB.mk s_ (([x15]:List aB)++x17))]:List aB)
  exact mP
 intro v11 h5
 refine oB (iN pd bO) fun x21 _=>?_
 have:=aB.wt_mk x8.gAtom v11
 exact oB (nP x21 (aB.mk x8.gAtom v11) bO) fun x23 h13=>oS
def HI(fu:Nat):Prop:= ∀(px:aB),wt px≤65536→Ok (rP fu px) (fun r=>wt r.1≤16*wt px)
theorem rJ:bY HI:=((((((((bY.ge 2147483648).and cD).and fT).and lU).and wU).and cL).and rF).and fZ).imp fun fu ⟨⟨⟨⟨⟨⟨⟨hfu,cD⟩,fT⟩,lU⟩,wU⟩,cL⟩,rF⟩,fZ⟩ px hpre=>by
 refine oB (cD px 1 bO) fun x2 h1=>oB (cD px 2 bO) fun x4 h2=>oB (fT x4 bO) fun x6 h3=>?_
 have:=aB.wt_eq px
 refine oB (lU px 3 bO) fun x8 h4=>?_
 have:=(aV:wl ([]:List aC)=0∧_)
 refine IG x8 4 (fun i9 v11 hl6 hI7 _ _=>?_) ?_
 ·have:=aY x8
  have:=cI x8 i9 hl6
  refine oB (cD (aW x8 i9) 0 bO) fun x15 h8=>?_
  have:=aB.wt_eq (aW x8 i9)
  refine oB (lU (aW x8 i9) 1 bO) fun x17 h9=>oB (wU x17 bO) fun x19 h10=>?_
  have:=aY (v11)
  have:=aB.wt_eq x15
  have:=aC.wt_mk x15.gAtom x19
  have:=b8 (aC.mk x15.gAtom x19)
  refine oG fun z11=>?_
  have:=bV v11 ([(aC.mk x15.gAtom x19)]:List aC)
  exact mP
 intro v11 h5
 refine oB (cL px bO) fun x22 _=>?_;refine oW (fun g13=>?_) fun g13=>?_
 ·have:s_.size=0:=rfl
  have:=(aV:wl ([]:List ByteArray)=0∧_)
  have:=aN.wt_mk s_ [] []
  exact oS
 have:=aY px.gList
 refine oD (fun g14=>?_) fun g14=>?_
 ·have:s_.size=0:=rfl
  have:=(aV:wl ([]:List ByteArray)=0∧_)
  have:=aN.wt_mk s_ [] []
  exact oS
 have:=aB.wt_eq x2
 have:=aN.wt_mk x2.gAtom x6 v11
 refine oB (rF (aN.mk x2.gAtom x6 v11) bO) fun x26 h15=>oB (fZ x26 px bO) fun x28 _=>?_;refine oW (fun g17=>?_) fun g17=>?_
 ·have:s_.size=0:=rfl
  have:=(aV:wl ([]:List ByteArray)=0∧_)
  have:=aN.wt_mk s_ [] []
  exact oS
 exact oS
def WC(fu:Nat):Prop:= ∀(px:aB),wt px≤33554432→Ok (wM fu px) (fun r=>wl r≤4*wt px)
theorem pQ:bY WC:=(((bY.ge 2147483648).and cD).and gJ).imp fun fu ⟨⟨hfu,cD⟩,gJ⟩ px hpre=>by
 have:=(aV:wl ([]:List aF)=0∧_)
 have:=aB.wt_eq px
 refine IG px.gList 4 (fun i1 v3 hl2 hI3 _ _=>?_) ?_
 ·have:=aY px.gList
  have:=cI px.gList i1 hl2
  refine oB (cD (aW px.gList i1) 0 bO) fun x7 h4=>oB (cD (aW px.gList i1) 1 bO) fun x9 h5=>oB (gJ x9 bO) fun x11 h6=>?_
  have:=aY (v3)
  have:=aB.wt_eq x7
  have:=aF.wt_mk x7.gAtom x11
  have:=b8 (aF.mk x7.gAtom x11)
  refine oG fun z7=>?_
  have:=bV v3 ([(aF.mk x7.gAtom x11)]:List aF)
  exact mP
 intro v3 h1
 exact oS
def ZV(fu:Nat):Prop:= ∀(plist:List aF),wl plist≤16777216→Ok (yU fu plist) (fun r=>wt r≤16*wl plist)
theorem r7:bY ZV:=((((bY.ge 2147483648).and bM).and g0).and eI).imp fun fu ⟨⟨⟨hfu,bM⟩,g0⟩,eI⟩ plist hpre=>by
 have:=(aV:wl ([]:List aB)=0∧_)
 refine IG plist 16 (fun i1 v3 hl2 hI3 _ _=>?_) ?_
 ·have:=aY plist
  have:=cI plist i1 hl2
  have:=aF.wt_eq (aW plist i1)
  refine oB (bM ((aW plist i1).gTrait)) fun x7 h4=>oB (g0 ((aW plist i1).gType) bO) fun x9 h5=>?_
  have:=jT x7 x9
  refine oB (eI ([x7,x9]:List aB) bO) fun x11 h6=>?_
  have:=aY (v3)
  have:=b8 x11
  refine oG fun z7=>?_
  have:=bV v3 ([x11]:List aB)
  exact mP
 intro v3 h1
 have:s_.size=0:=rfl
 have:=aB.wt_mk s_ v3
 exact oS
def HE(fu:Nat):Prop:= ∀(pa0:aH),wt pa0≤1048576→(∀a∈pa0.gMethods,G6 a.gBody)→Ok (rO fu pa0) (fun r=>wt r≤64*wt pa0+128)
theorem rH:bY HE:=(((((((((bY.ge 2147483648).and iQ).and g0).and eI).and bM).and fI).and r7).and sT).and nP).imp fun fu ⟨⟨⟨⟨⟨⟨⟨⟨hfu,iQ⟩,g0⟩,eI⟩,bM⟩,fI⟩,r7⟩,sT⟩,nP⟩ pa0 hpre hB=>by
 refine oB (iQ pa0 bO) fun x2 _=>?_;refine oW (fun g2=>?_) fun g2=>?_
 ·have:s_.size=0:=rfl
  have:=(aV:wl ([]:List aB)=0∧_)
  have:=aB.wt_mk s_ []
  exact oS
 refine Ok.sok (E:=fun v5=>wl v5≤8) ?_ ?_
 ·have:=aH.wt_eq pa0
  refine oC (fun g4=>?_) fun g4=>?_
  ·have:=(aV:wl ([]:List ByteArray)=0∧_)
   have:tV.size=7:=rfl
   have:=b8 tV
   have:=a7 tV
   refine oG fun z5=>?_
   have:=bV ([]:List ByteArray) ([tV]:List ByteArray)
   exact oI
  have:=(aV:wl ([]:List ByteArray)=0∧_)
  exact oI
 intro v5 h3
 have:=aH.wt_eq pa0
 refine Ok.sok (E:=fun(v8,v9)=>v8.size+wl v9≤8*wt pa0.gAssoc+16) ?_ ?_
 ·refine oC (fun g7=>?_) fun g7=>?_
  ·refine oB (g0 pa0.gAssoc bO) fun x12 h8=>?_
   have:=b8 x12
   refine oB (eI ([x12]:List aB) bO) fun x14 h9=>?_
   have:=aB.wt_eq x14
   exact oI
  have:s_.size=0:=rfl
  have:=(aV:wl ([]:List aB)=0∧_)
  exact oI
 rintro⟨v8,v9⟩ h6
 dsimp only at h6
 have:M8.size=4:=rfl
 refine oB (bM M8) fun x16 h10=>oB (bM pa0.gTrait) fun x18 h11=>oB (fI pa0.gVars bO) fun x20 h12=>oB (g0 pa0.gHead bO) fun x22 h13=>oB (r7 pa0.gWhere bO) fun x24 h14=>oB (fI v5 bO) fun x26 h15=>?_
 have:=aB.wt_mk v8 v9
 have:=aoM x16 x18 x20 x22 x24 x26 (aB.mk v8 v9)
 refine oB (eI ([x16,x18,x20,x22,x24,x26,(aB.mk v8 v9)]:List aB) bO) fun x28 h16=>?_
 have:=aB.wt_eq x28
 refine IG pa0.gMethods 64 (fun i29 v31 hl18 hI19 _ _=>?_) ?_
 ·have:=aY pa0.gMethods
  have:=cI pa0.gMethods i29 hl18
  refine Ok.lt fun y34 h20=>?_
  have:=congrArg wt h20
  have:=aP.wt_eq y34
  refine oB (bM y34.gName) fun x37 h21=>oB (fI y34.gVars bO) fun x39 h22=>oB (sT y34.gBody bO (by rw [show y34=aW pa0.gMethods i29 by assumption];exact WI hB (by assumption))) fun x41 h23=>?_
  have:=CR x37 x39 x41
  refine oB (eI ([x37,x39,x41]:List aB) bO) fun x43 h24=>?_
  have:=aY (v31)
  have:=aB.wt_eq x43
  have:=aB.wt_mk x43.gAtom x43.gList
  have:=b8 (aB.mk x43.gAtom x43.gList)
  refine oG fun z25=>?_
  have:=bV v31 ([(aB.mk x43.gAtom x43.gList)]:List aB)
  exact mP
 intro v31 h17
 have:=aB.wt_mk x28.gAtom v31
 exact oB (nP true (aB.mk x28.gAtom v31) bO) fun x46 h26=>oS
def HK(fu:Nat):Prop:= ∀(pa0:aB),wt pa0≤65536→Ok (rR fu pa0) (fun r=>wt r.1≤16*wt pa0)
theorem rL:bY HK:=((((((((((bY.ge 2147483648).and cD).and fT).and gJ).and pQ).and lU).and mW).and cL).and rH).and fZ).imp fun fu ⟨⟨⟨⟨⟨⟨⟨⟨⟨hfu,cD⟩,fT⟩,gJ⟩,pQ⟩,lU⟩,mW⟩,cL⟩,rH⟩,fZ⟩ pa0 hpre=>by
 refine oB (cD pa0 1 bO) fun x2 h1=>oB (cD pa0 2 bO) fun x4 h2=>oB (fT x4 bO) fun x6 h3=>oB (cD pa0 3 bO) fun x8 h4=>oB (gJ x8 bO) fun x10 h5=>oB (cD pa0 4 bO) fun x12 h6=>oB (pQ x12 bO) fun x14 h7=>oB (cD pa0 5 bO) fun x16 h8=>oB (cD pa0 6 bO) fun x18 h9=>?_;refine Ok.sok (E:=fun(v22,v19,v20,v21)=>wl v22+v21.size≤2*wt x18) ?_ ?_
 ·have:=aB.wt_eq x18
  have:=aY x18.gList
  refine oD (fun g11=>?_) fun g11=>?_
  ·have:=aY (x18.gList)
   refine oG fun z12=>?_
   have:=cI x18.gList 0 z12
   have:wl (List.take 1 x18.gList)=wl (List.take 0 x18.gList)+wt (aW x18.gList 0)+1:=G4 x18.gList 0 z12
   refine oB (gJ (aW x18.gList 0) bO) fun x26 h13=>?_
   have:=aA.wt_eq x26
   exact oI
  have:s_.size=0:=rfl
  have:=(aV:wl ([]:List aA)=0∧_)
  exact oI
 rintro⟨v22,v19,v20,v21⟩ h10
 dsimp only at h10
 have:=aB.wt_eq pa0
 refine oB (lU pa0 7 bO) fun x28 h14=>?_
 have:=(aV:wl ([]:List aP)=0∧_)
 refine amB (PA:=fun a=>G6 a.gBody) x28 4 (fun i29 v31 hl16 hI17 hI17B _ _=>?_) ?_
 ·have:=aY x28
  have:=cI x28 i29 hl16
  refine oB (cD (aW x28 i29) 0 bO) fun x35 h18=>oB (cD (aW x28 i29) 1 bO) fun x37 h19=>oB (fT x37 bO) fun x39 h20=>oB (cD (aW x28 i29) 2 bO) fun x41 h21=>N6 (mW x41 bO) fun x43 h22 h22B=>?_
  have:=aY (v31)
  have:=aB.wt_eq x35
  have:=aP.wt_mk x35.gAtom x39 x43
  have:=b8 (aP.mk x35.gAtom x39 x43)
  refine oG fun z23=>?_
  have:=bV v31 ([(aP.mk x35.gAtom x39 x43)]:List aP)
  exact oX hI17B
 rintro v31 ⟨h15,h15B⟩
 refine oB (cL pa0 bO) fun x46 _=>?_;refine oW (fun g25=>?_) fun g25=>?_
 ·have:s_.size=0:=rfl
  have:=(aV:wl ([]:List aA)=0∧_)
  have:=aA.wt_mk 0 s_ []
  have:=(aV:wl ([]:List ByteArray)=0∧_)
  have:=(aV:wl ([]:List aF)=0∧_)
  have:=aH.wt_mk s_ [] (aA.mk 0 s_ []) [] false false (aA.mk 0 s_ []) []
  exact oS
 have:=aY pa0.gList
 refine oD (fun g26=>?_) fun g26=>?_
 ·have:s_.size=0:=rfl
  have:=(aV:wl ([]:List aA)=0∧_)
  have:=aA.wt_mk 0 s_ []
  have:=(aV:wl ([]:List ByteArray)=0∧_)
  have:=(aV:wl ([]:List aF)=0∧_)
  have:=aH.wt_mk s_ [] (aA.mk 0 s_ []) [] false false (aA.mk 0 s_ []) []
  exact oS
 have:=aB.wt_eq x2
 have:=aB.wt_eq x16
 have:=aY x16.gList
 have:=aA.wt_mk v20 v21 v22
 have:=aH.wt_mk x2.gAtom x6 x10 x14 (decide ((x16.gList.length:Int)>0)) v19 (aA.mk v20 v21 v22) v31
 refine oB (rH (aH.mk x2.gAtom x6 x10 x14 (decide ((x16.gList.length:Int)>0)) v19 (aA.mk v20 v21 v22) v31) bO (by first|assumption|trivial)) fun x50 h27=>oB (fZ x50 pa0 bO) fun x52 _=>?_;refine oW (fun g29=>?_) fun g29=>?_
 ·have:s_.size=0:=rfl
  have:=(aV:wl ([]:List aA)=0∧_)
  have:=aA.wt_mk 0 s_ []
  have:=(aV:wl ([]:List ByteArray)=0∧_)
  have:=(aV:wl ([]:List aF)=0∧_)
  have:=aH.wt_mk s_ [] (aA.mk 0 s_ []) [] false false (aA.mk 0 s_ []) []
  exact oS
 exact oS
def HD(fu:Nat):Prop:= ∀(pf:aM),wt pf≤1048576→(G6 pf.gBody)→Ok (rN fu pf) (fun r=>wt r≤64*wt pf+128)
theorem rG:bY HD:=(((((((((bY.ge 2147483648).and iP).and bM).and g0).and eI).and fI).and r7).and sT).and nP).imp fun fu ⟨⟨⟨⟨⟨⟨⟨⟨hfu,iP⟩,bM⟩,g0⟩,eI⟩,fI⟩,r7⟩,sT⟩,nP⟩ pf hpre hB=>by
 refine oB (iP pf bO) fun x2 _=>?_;refine oW (fun g2=>?_) fun g2=>?_
 ·have:s_.size=0:=rfl
  have:=(aV:wl ([]:List aB)=0∧_)
  have:=aB.wt_mk s_ []
  exact oS
 have:=(aV:wl ([]:List aB)=0∧_)
 have:=aM.wt_eq pf
 refine IG pf.gParams 16 (fun i4 v6 hl4 hI5 _ _=>?_) ?_
 ·have:=aY pf.gParams
  have:=cI pf.gParams i4 hl4
  have:=aU.wt_eq (aW pf.gParams i4)
  refine oB (bM ((aW pf.gParams i4).gName)) fun x10 h6=>oB (g0 ((aW pf.gParams i4).gType) bO) fun x12 h7=>?_
  have:=jT x10 x12
  refine oB (eI ([x10,x12]:List aB) bO) fun x14 h8=>?_
  have:=aY (v6)
  have:=b8 x14
  refine oG fun z9=>?_
  have:=bV v6 ([x14]:List aB)
  exact mP
 intro v6 h3
 have:aiZ.size=2:=rfl
 refine oB (bM aiZ) fun x17 h10=>oB (bM pf.gName) fun x19 h11=>oB (fI pf.gVars bO) fun x21 h12=>oB (r7 pf.gWhere bO) fun x23 h13=>oB (g0 pf.gResult bO) fun x25 h14=>oB (sT pf.gBody bO (by first|assumption|trivial)) fun x27 h15=>?_
 have:s_.size=0:=rfl
 have:=aB.wt_mk s_ v6
 have:=aoM x17 x19 x21 x23 (aB.mk s_ v6) x25 x27
 exact oB (eI ([x17,x19,x21,x23,(aB.mk s_ v6),x25,x27]:List aB) bO) fun x29 h16=>oB (nP true x29 bO) fun x31 h17=>oS
def HJ(fu:Nat):Prop:= ∀(pa0:aB),wt pa0≤65536→Ok (rQ fu pa0) (fun r=>wt r.1≤16*wt pa0)
theorem rK:bY HJ:=(((((((((bY.ge 2147483648).and cD).and fT).and pQ).and gJ).and mW).and cL).and rG).and fZ).imp fun fu ⟨⟨⟨⟨⟨⟨⟨⟨hfu,cD⟩,fT⟩,pQ⟩,gJ⟩,mW⟩,cL⟩,rG⟩,fZ⟩ pa0 hpre=>by
 refine oB (cD pa0 1 bO) fun x2 h1=>oB (cD pa0 2 bO) fun x4 h2=>oB (fT x4 bO) fun x6 h3=>oB (cD pa0 3 bO) fun x8 h4=>oB (pQ x8 bO) fun x10 h5=>oB (cD pa0 5 bO) fun x12 h6=>oB (gJ x12 bO) fun x14 h7=>oB (cD pa0 6 bO) fun x16 h8=>N6 (mW x16 bO) fun x18 h9 h9B=>oB (cD pa0 4 bO) fun x20 h10=>?_
 have:=(aV:wl ([]:List aU)=0∧_)
 have:=aB.wt_eq x20
 refine IG x20.gList 4 (fun i21 v23 hl12 hI13 _ _=>?_) ?_
 ·have:=aY x20.gList
  have:=cI x20.gList i21 hl12
  refine oB (cD (aW x20.gList i21) 0 bO) fun x27 h14=>oB (cD (aW x20.gList i21) 1 bO) fun x29 h15=>oB (gJ x29 bO) fun x31 h16=>?_
  have:=aY (v23)
  have:=aB.wt_eq x27
  have:=aU.wt_mk x27.gAtom x31
  have:=b8 (aU.mk x27.gAtom x31)
  refine oG fun z17=>?_
  have:=bV v23 ([(aU.mk x27.gAtom x31)]:List aU)
  exact mP
 intro v23 h11
 refine oB (cL pa0 bO) fun x34 _=>?_;refine oW (fun g19=>?_) fun g19=>?_
 ·have:s_.size=0:=rfl
  have:=(aV:wl ([]:List aA)=0∧_)
  have:=aA.wt_mk 0 s_ []
  have:=(aV:wl ([]:List aG)=0∧_)
  have:=(aV:wl ([]:List bK)=0∧_)
  have:=aG.wt_mk 0 s_ s_ 0 (aA.mk 0 s_ []) [] []
  have:=(aV:wl ([]:List ByteArray)=0∧_)
  have:=(aV:wl ([]:List aF)=0∧_)
  have:=aM.wt_mk s_ [] [] [] (aA.mk 0 s_ []) (aG.mk 0 s_ s_ 0 (aA.mk 0 s_ []) [] [])
  exact oS
 have:=aB.wt_eq pa0
 have:=aY pa0.gList
 refine oD (fun g20=>?_) fun g20=>?_
 ·have:s_.size=0:=rfl
  have:=(aV:wl ([]:List aA)=0∧_)
  have:=aA.wt_mk 0 s_ []
  have:=(aV:wl ([]:List aG)=0∧_)
  have:=(aV:wl ([]:List bK)=0∧_)
  have:=aG.wt_mk 0 s_ s_ 0 (aA.mk 0 s_ []) [] []
  have:=(aV:wl ([]:List ByteArray)=0∧_)
  have:=(aV:wl ([]:List aF)=0∧_)
  have:=aM.wt_mk s_ [] [] [] (aA.mk 0 s_ []) (aG.mk 0 s_ s_ 0 (aA.mk 0 s_ []) [] [])
  exact oS
 have:=aB.wt_eq x2
 have:=aM.wt_mk x2.gAtom x6 x10 v23 x14 x18
 refine oB (rG (aM.mk x2.gAtom x6 x10 v23 x14 x18) bO (by first|assumption|trivial)) fun x38 h21=>oB (fZ x38 pa0 bO) fun x40 _=>?_;refine oW (fun g23=>?_) fun g23=>?_
 ·have:s_.size=0:=rfl
  have:=(aV:wl ([]:List aA)=0∧_)
  have:=aA.wt_mk 0 s_ []
  have:=(aV:wl ([]:List aG)=0∧_)
  have:=(aV:wl ([]:List bK)=0∧_)
  have:=aG.wt_mk 0 s_ s_ 0 (aA.mk 0 s_ []) [] []
  have:=(aV:wl ([]:List ByteArray)=0∧_)
  have:=(aV:wl ([]:List aF)=0∧_)
  have:=aM.wt_mk s_ [] [] [] (aA.mk 0 s_ []) (aG.mk 0 s_ s_ 0 (aA.mk 0 s_ []) [] [])
  exact oS
 exact oS
end Go.Proofs.YtpioomclpaiomaaGreat.W

namespace Go.Proofs.YtpioomclpaiomaaGreat.W
set_option linter.unusedSimpArgs false
set_option linter.unusedVariables false
set_option maxRecDepth 20000
set_option maxHeartbeats 4000000
open Go.RowKit Go.WalkArith Go.IntWalk
def V9(fu:Nat):Prop:= ∀(ps:ByteArray) (pby:UInt8),ps.size≤1073741824→Ok (BQ fu ps pby) (fun r=>wl r≤ps.size+1)
theorem BH:bY V9:=(bY.ge 2147483648).imp fun fu hfu ps pby hpre=>by
 have:=(aV:wl ([]:List ByteArray)=0∧_)
 refine Ok.sok (E:=fun(v4,v2,v3)=>wl v4≤ps.size+1) ?_ ?_
 ·refine Ok.loopW (fun(v4,v2,v3)=>0≤v2∧v2≤v3∧v3≤(ps.size:Int)+1∧(wl v4:Int)≤v2) (fun(v4,v2,v3)=>((ps.size:Int)+2-v3).toNat) ?_ _ _ bO bO
  rintro⟨v4,v2,v3⟩ hI3
  try dsimp only at hI3
  refine oD (fun g4=>?_) fun g4=>?_
  ·refine oD (fun g5=>?_) fun g5=>?_
   ·refine oG fun z6=>?_
    have:=aY (v4)
    have:=A6 ps (v2:Int).toNat (v3:Int).toNat
    have:=b8 (ps.extract (v2:Int).toNat (v3:Int).toNat)
    have:=a7 (ps.extract (v2:Int).toNat (v3:Int).toNat)
    refine oG fun z7=>?_
    have:=bV v4 ([(ps.extract (v2:Int).toNat (v3:Int).toNat)]:List ByteArray)
    have:=eL (v3+1)
    exact mP
   refine oG fun z8=>?_;refine oD (fun g9=>?_) fun g9=>?_
   ·refine oG fun z10=>?_
    have:=aY (v4)
    have:=A6 ps (v2:Int).toNat (v3:Int).toNat
    have:=b8 (ps.extract (v2:Int).toNat (v3:Int).toNat)
    have:=a7 (ps.extract (v2:Int).toNat (v3:Int).toNat)
    refine oG fun z11=>?_
    have:=bV v4 ([(ps.extract (v2:Int).toNat (v3:Int).toNat)]:List ByteArray)
    have:=eL (v3+1)
    exact mP
   have:=eL (v3+1)
   exact mP
  exact oK
 rintro⟨v4,v2,v3⟩ h1
 dsimp only at h1
 exact oS
def ZX(fu:Nat):Prop:= ∀(ps:ByteArray),ps.size≤1073741824→Ok (D8 fu ps) (fun _=>True)
theorem DM:bY ZX:=(bY.ge 2147483648).imp fun fu hfu ps hpre=>by
 refine CS ?_ ?_
 ·refine Ok.loop1 ?_;rintro i1 ⟨⟩ hl2
  exact oG fun z4=>oN (fun _=>oR) fun g5=>mP
 rintro⟨⟩-
 exact oS
def adZ(fu:Nat):Prop:= ∀(pq0:ByteArray×(List ByteArray)×(List aT)×(List aN)×(List aH)×(List aM)) (pa1:aB),wt pa1≤65536∧wl pq0.2.2.1+wl pq0.2.2.2.1+wl pq0.2.2.2.2.1+wl pq0.2.2.2.2.2≤1073741824→Ok (JC fu pq0 pa1) (fun r=>r.2.1.size+wl r.2.2.1+wl r.2.2.2.1+wl r.2.2.2.2.1+wl r.2.2.2.2.2.1+wl r.2.2.2.2.2.2≤pq0.1.size+wl pq0.2.1+wl pq0.2.2.1+wl pq0.2.2.2.1+wl pq0.2.2.2.2.1+wl pq0.2.2.2.2.2+16*wt pa1+1)
theorem H7:bY adZ:=((((((bY.ge 2147483648).and cD).and vD).and rJ).and rL).and rK).imp fun fu ⟨⟨⟨⟨⟨hfu,cD⟩,vD⟩,rJ⟩,rL⟩,rK⟩ pq0 pa1 hpre=>by
 have:=aY pq0.2.2.1
 have:=aY pq0.2.2.2.1
 have:=aY pq0.2.2.2.2.1
 have:=aY pq0.2.2.2.2.2
 refine oB (cD pa1 0 bO) fun x2 h1=>?_
 have:=aB.wt_eq x2
 have:E8.size=5:=rfl
 refine oD (fun g2=>?_) fun g2=>?_
 ·have:=congrArg ByteArray.size g2
  refine tR (vD pa1 bO) fun x5 x6 h3=>?_
  dsimp only at h3
  have:=aY (pq0.2.2.1)
  have:=b8 x5
  refine oG fun z4=>?_
  have:=bV pq0.2.2.1 ([x5]:List aT)
  exact oS
 have:M7.size=4:=rfl
 refine oD (fun g5=>?_) fun g5=>?_
 ·have:=congrArg ByteArray.size g5
  refine tR (rJ pa1 bO) fun x10 x11 h6=>?_
  dsimp only at h6
  have:=aY (pq0.2.2.2.1)
  have:=b8 x10
  refine oG fun z7=>?_
  have:=bV pq0.2.2.2.1 ([x10]:List aN)
  exact oS
 have:M8.size=4:=rfl
 refine oD (fun g8=>?_) fun g8=>?_
 ·have:=congrArg ByteArray.size g8
  refine tR (rL pa1 bO) fun x15 x16 h9=>?_
  dsimp only at h9
  have:=aY (pq0.2.2.2.2.1)
  have:=b8 x15
  refine oG fun z10=>?_
  have:=bV pq0.2.2.2.2.1 ([x15]:List aH)
  exact oS
 have:aiZ.size=2:=rfl
 refine oD (fun g11=>?_) fun g11=>?_
 ·have:=congrArg ByteArray.size g11
  refine tR (rK pa1 bO) fun x20 x21 h12=>?_
  dsimp only at h12
  have:=b8 x20
  refine oG fun z13=>?_
  have:=bV pq0.2.2.2.2.2 ([x20]:List aM)
  exact oS
 exact oS
def ZY(fu:Nat):Prop:= ∀(pa0:aL),wt pa0≤4194304→Ok (D9 fu pa0) (fun _=>True)
theorem DN:bY ZY:=(bY.ge 2147483648).imp fun fu hfu pa0 hpre=>by
 have:=(aV:wl ([]:List ByteArray)=0∧_)
 have:=aL.wt_eq pa0
 refine IG pa0.gTraits 1 (fun i1 v3 hl2 hI3 _ _=>?_) ?_
 ·have:=aY pa0.gTraits
  have:=aY (v3)
  have:=cI pa0.gTraits i1 hl2
  have:=aT.wt_eq (aW pa0.gTraits i1)
  have:=b8 ((aW pa0.gTraits i1).gName)
  have:=a7 ((aW pa0.gTraits i1).gName)
  refine oG fun z4=>?_
  have:=bV v3 ([((aW pa0.gTraits i1).gName)]:List ByteArray)
  exact mP
 intro v3 h1
 refine Ok.sok (E:=fun(v10,v11)=>wl v10+1*wl (List.take 0 pa0.gDataTypes)≤wl ([]:List ByteArray)+1*wl pa0.gDataTypes∧wl v11+1*wl (List.take 0 pa0.gDataTypes)≤wl ([]:List ByteArray)+1*wl pa0.gDataTypes) ?_ ?_
 ·refine Ok.loop0 (fun i7 (v10,v11)=>wl v10+1*wl (List.take 0 pa0.gDataTypes)≤wl ([]:List ByteArray)+1*wl (List.take i7 pa0.gDataTypes)∧wl v11+1*wl (List.take 0 pa0.gDataTypes)≤wl ([]:List ByteArray)+1*wl (List.take i7 pa0.gDataTypes)) (by exact bO) (by rintro i7 ⟨v10,v11⟩-hI;have:=nI pa0.gDataTypes i7;(try dsimp only at hI ⊢);omega) ?_;rintro i7 ⟨v10,v11⟩ hl6 hI7
  dsimp only at hI7
  have:=aY pa0.gDataTypes
  have:=nJ pa0.gDataTypes i7 hl6
  have:=nI pa0.gDataTypes (i7+1)
  have:=aY (v10)
  have:=cI pa0.gDataTypes i7 hl6
  have:=aN.wt_eq (aW pa0.gDataTypes i7)
  have:=b8 ((aW pa0.gDataTypes i7).gName)
  have:=a7 ((aW pa0.gDataTypes i7).gName)
  refine oG fun z8=>?_;refine IG ((aW pa0.gDataTypes i7).gConstructors) 1 (fun i15 v17 hl10 hI11 _ _=>?_) ?_
  ·have:=aY ((aW pa0.gDataTypes i7).gConstructors)
   have:=aY (v17)
   have:=cI ((aW pa0.gDataTypes i7).gConstructors) i15 hl10
   have:=aC.wt_eq (aW ((aW pa0.gDataTypes i7).gConstructors) i15)
   have:=b8 ((aW ((aW pa0.gDataTypes i7).gConstructors) i15).gName)
   have:=a7 ((aW ((aW pa0.gDataTypes i7).gConstructors) i15).gName)
   refine oG fun z12=>?_
   have:=bV v17 ([((aW ((aW pa0.gDataTypes i7).gConstructors) i15).gName)]:List ByteArray)
   exact mP
  intro v17 h9
  have:=bV v10 ([((aW pa0.gDataTypes i7).gName)]:List ByteArray)
  exact mP
 rintro⟨v10,v11⟩ h5
 dsimp only at h5
 refine IG pa0.gFunctions 1 (fun i21 v23 hl14 hI15 _ _=>?_) ?_
 ·have:=aY pa0.gFunctions
  have:=cI pa0.gFunctions i21 hl14
  refine Ok.lt fun y26 h16=>?_
  have:=congrArg wt h16
  have:=aY (v23)
  have:=aM.wt_eq y26
  have:=b8 y26.gName
  have:=a7 y26.gName
  refine oG fun z17=>?_
  have:=bV v23 ([y26.gName]:List ByteArray)
  exact mP
 intro v23 h13
 exact oS
def ZZ(fu:Nat):Prop:= ∀(pp:aL),wt pp≤4194304→Ok (EA fu pp) (fun _=>True)
theorem DO:bY ZZ:=(((((bY.ge 2147483648).and kZ).and iN).and iQ).and iP).imp fun fu ⟨⟨⟨⟨hfu,kZ⟩,iN⟩,iQ⟩,iP⟩ pp hpre=>by
 refine CS ?_ ?_
 ·refine Ok.loop1 ?_;rintro i1 ⟨⟩ hl2
  have:=aL.wt_eq pp
  have:=aY pp.gTraits
  have:=cI pp.gTraits i1 hl2
  exact oB (kZ (aW pp.gTraits i1) bO) fun x5 _=>oW (fun _=>oR) fun g5=>mP
 rintro⟨⟩-
 refine CS ?_ ?_
 ·refine Ok.loop1 ?_;rintro i7 ⟨⟩ hl7
  have:=aL.wt_eq pp
  have:=aY pp.gDataTypes
  have:=cI pp.gDataTypes i7 hl7
  exact oB (iN (aW pp.gDataTypes i7) bO) fun x11 _=>oW (fun _=>oR) fun g10=>mP
 rintro⟨⟩-
 refine CS ?_ ?_
 ·refine Ok.loop1 ?_;rintro i13 ⟨⟩ hl12
  have:=aL.wt_eq pp
  have:=aY pp.gInstances
  have:=cI pp.gInstances i13 hl12
  refine Ok.lt fun y16 h14=>?_
  have:=congrArg wt h14
  exact oB (iQ y16 bO) fun x19 _=>oW (fun _=>oR) fun g16=>mP
 rintro⟨⟩-
 refine CS ?_ ?_
 ·refine Ok.loop1 ?_;rintro i21 ⟨⟩ hl18
  have:=aL.wt_eq pp
  have:=aY pp.gFunctions
  have:=cI pp.gFunctions i21 hl18
  refine Ok.lt fun y24 h20=>?_
  have:=congrArg wt h20
  exact oB (iP y24 bO) fun x27 _=>oW (fun _=>oR) fun g22=>mP
 rintro⟨⟩-
 exact oS
def JO(fu:Nat):Prop:= ∀(pa0:aL),wt pa0≤4194304→Ok (sY fu pa0) (fun _=>True)
theorem sR:bY JO:=(((((((bY.ge 2147483648).and DN).and bJ).and cW).and dG).and eC).and DO).imp fun fu ⟨⟨⟨⟨⟨⟨hfu,DN⟩,bJ⟩,cW⟩,dG⟩,eC⟩,DO⟩ pa0 hpre=>by
 refine oB4 (DN pa0 bO) fun x2 x3 x4 x5 _=>?_
 have:=aL.wt_eq pa0
 refine oB (bJ pa0.gName) fun x7 _=>oW (fun _=>oS) fun g3=>oB (cW pa0.gDeps 5) fun x10 _=>oW (fun _=>oS) fun g5=>oB (dG pa0.gDeps pa0.gName) fun x13 _=>oC (fun _=>oS) fun g7=>?_
 have:=aY pa0.gTraits
 have:=aY pa0.gDataTypes
 have:=eL ((pa0.gTraits.length:Int)+(pa0.gDataTypes.length:Int))
 have:=aY pa0.gInstances
 have:=eL ((aR ((pa0.gTraits.length:Int)+(pa0.gDataTypes.length:Int)))+(pa0.gInstances.length:Int))
 have:=aY pa0.gFunctions
 have:=eL ((aR ((aR ((pa0.gTraits.length:Int)+(pa0.gDataTypes.length:Int)))+(pa0.gInstances.length:Int)))+(pa0.gFunctions.length:Int))
 refine oD (fun _=>oS) fun g8=>oB (eC x2) fun x17 _=>?_;refine oC (fun g10=>?_) fun g10=>?_
 ·refine oB (eC x3) fun x20 _=>?_;refine oC (fun g12=>?_) fun g12=>?_
  ·refine oB (eC x4) fun x23 _=>?_;refine oC (fun g14=>?_) fun g14=>?_
   ·refine oB (eC x5) fun x26 _=>?_;refine oC (fun g16=>?_) fun g16=>?_
    ·exact oB (DO pa0 bO) fun x29 _=>oS
    exact oS
   exact oS
  exact oS
 exact oS
def JP(fu:Nat):Prop:= ∀(pa0:aB),wt pa0≤65536→Ok (sZ fu pa0) (fun r=>wt r.1≤20*wt pa0)
theorem sS:bY JP:=((((((bY.ge 2147483648).and cD).and gS).and cL).and H7).and sR).imp fun fu ⟨⟨⟨⟨⟨hfu,cD⟩,gS⟩,cL⟩,H7⟩,sR⟩ pa0 hpre=>by
 refine oB (cD pa0 2 bO) fun x2 h1=>?_
 have:=aB.wt_eq x2
 refine tR (gS x2.gList bO) fun x4 x5 h2=>?_
 dsimp only at h2
 refine oB (cD pa0 1 bO) fun x7 h3=>oB (cL pa0 bO) fun x9 _=>?_;refine oW (fun g5=>?_) fun g5=>?_
 ·have:s_.size=0:=rfl
  have:=(aV:wl ([]:List ByteArray)=0∧_)
  have:=(aV:wl ([]:List aT)=0∧_)
  have:=(aV:wl ([]:List aN)=0∧_)
  have:=(aV:wl ([]:List aH)=0∧_)
  have:=(aV:wl ([]:List aM)=0∧_)
  have:=aL.wt_mk s_ [] [] [] [] []
  exact oS
 have:=aB.wt_eq pa0
 have:=aY pa0.gList
 refine oD (fun g6=>?_) fun g6=>?_
 ·have:s_.size=0:=rfl
  have:=(aV:wl ([]:List ByteArray)=0∧_)
  have:=(aV:wl ([]:List aT)=0∧_)
  have:=(aV:wl ([]:List aN)=0∧_)
  have:=(aV:wl ([]:List aH)=0∧_)
  have:=(aV:wl ([]:List aM)=0∧_)
  have:=aL.wt_mk s_ [] [] [] [] []
  exact oS
 have:=aY (pa0.gList)
 refine oG fun z7=>?_
 have:=cI pa0.gList 0 z7
 have:wl (List.take 1 pa0.gList)=wl (List.take 0 pa0.gList)+wt (aW pa0.gList 0)+1:=G4 pa0.gList 0 z7
 have:=aB.wt_eq (aW pa0.gList 0)
 have:VR.size=7:=rfl
 refine oN (fun g8=>?_) fun g8=>?_
 ·have:s_.size=0:=rfl
  have:=(aV:wl ([]:List ByteArray)=0∧_)
  have:=(aV:wl ([]:List aT)=0∧_)
  have:=(aV:wl ([]:List aN)=0∧_)
  have:=(aV:wl ([]:List aH)=0∧_)
  have:=(aV:wl ([]:List aM)=0∧_)
  have:=aL.wt_mk s_ [] [] [] [] []
  exact oS
 have:=congrArg ByteArray.size g8
 refine oG fun z9=>?_
 have:=cI pa0.gList 2 z9
 have:wl (List.take 3 pa0.gList)=wl (List.take 2 pa0.gList)+wt (aW pa0.gList 2)+1:=G4 pa0.gList 2 z9
 have:=aB.wt_eq (aW pa0.gList 2)
 have:s_.size=0:=rfl
 refine oN (fun g10=>?_) fun g10=>?_
 ·have:=C5 g10
  have:=(aV:wl ([]:List ByteArray)=0∧_)
  have:=(aV:wl ([]:List aT)=0∧_)
  have:=(aV:wl ([]:List aN)=0∧_)
  have:=(aV:wl ([]:List aH)=0∧_)
  have:=(aV:wl ([]:List aM)=0∧_)
  have:=aL.wt_mk s_ [] [] [] [] []
  exact oS
 refine oW (fun g11=>?_) fun g11=>?_
 ·have:=(aV:wl ([]:List ByteArray)=0∧_)
  have:=(aV:wl ([]:List aT)=0∧_)
  have:=(aV:wl ([]:List aN)=0∧_)
  have:=(aV:wl ([]:List aH)=0∧_)
  have:=(aV:wl ([]:List aM)=0∧_)
  have:=aL.wt_mk s_ [] [] [] [] []
  exact oS
 have:=(aV:wl ([]:List aT)=0∧_)
 have:=(aV:wl ([]:List aN)=0∧_)
 have:=(aV:wl ([]:List aH)=0∧_)
 have:=(aV:wl ([]:List aM)=0∧_)
 have:=aB.wt_eq x7
 refine Ok.sok (E:=fun(v18,v19,v24,v25,v26,v27)=>v18.size+wl v19+wl v24+wl v25+wl v26+wl v27≤x7.gAtom.size+wl x4+16*wl pa0.gList) ?_ ?_
 ·refine Ok.loop0 (fun i17 (v18,v19,v24,v25,v26,v27)=>v18.size+wl v19+wl v24+wl v25+wl v26+wl v27≤x7.gAtom.size+wl x4+16*wl (List.take i17 pa0.gList)) (by exact bO) (by rintro i17 ⟨v18,v19,v24,v25,v26,v27⟩-hI;have:=nI pa0.gList i17;(try dsimp only at hI ⊢);omega) ?_;rintro i17 ⟨v18,v19,v24,v25,v26,v27⟩ hl13 hI14
  dsimp only at hI14
  have:=nJ pa0.gList i17 hl13
  have:=nI pa0.gList (i17+1)
  have:=cI pa0.gList i17 hl13
  refine tR (H7 (v18,v19,v24,v25,v26,v27) (aW pa0.gList i17) bO) fun x31 x32 h15=>?_
  dsimp only at h15
  refine oW (fun g16=>?_) fun g16=>?_
  ·have:=(aV:wl ([]:List ByteArray)=0∧_)
   have:=(aV:wl ([]:List aT)=0∧_)
   have:=(aV:wl ([]:List aN)=0∧_)
   have:=(aV:wl ([]:List aH)=0∧_)
   have:=(aV:wl ([]:List aM)=0∧_)
   have:=aL.wt_mk s_ [] [] [] [] []
   exact oR
  exact mP
 rintro⟨v18,v19,v24,v25,v26,v27⟩ h12
 dsimp only at h12
 have:=aL.wt_mk v18 v19 v24 v25 v26 v27
 refine oB (sR (aL.mk v18 v19 v24 v25 v26 v27) bO) fun x35 _=>?_;refine oW (fun g18=>?_) fun g18=>?_
 ·have:=(aV:wl ([]:List ByteArray)=0∧_)
  have:=(aV:wl ([]:List aT)=0∧_)
  have:=(aV:wl ([]:List aN)=0∧_)
  have:=(aV:wl ([]:List aH)=0∧_)
  have:=(aV:wl ([]:List aM)=0∧_)
  have:=aL.wt_mk s_ [] [] [] [] []
  exact oS
 exact oS
def OH(fu:Nat):Prop:= ∀(ps:ByteArray),ps.size≤16384→Ok (vJ fu ps) (fun r=>wt r.1≤40*ps.size)
theorem vB:bY OH:=(((bY.ge 2147483648).and zE).and sS).imp fun fu ⟨⟨hfu,zE⟩,sS⟩ ps hpre=>by
 refine tR (zE ps bO) fun x2 x3 h1=>?_
 dsimp only at h1
 refine oW (fun g2=>?_) fun g2=>?_
 ·have:s_.size=0:=rfl
  have:=(aV:wl ([]:List ByteArray)=0∧_)
  have:=(aV:wl ([]:List aT)=0∧_)
  have:=(aV:wl ([]:List aN)=0∧_)
  have:=(aV:wl ([]:List aH)=0∧_)
  have:=(aV:wl ([]:List aM)=0∧_)
  have:=aL.wt_mk s_ [] [] [] [] []
  exact oS
 refine tR (sS x2 bO) fun x6 x7 h3=>?_
 dsimp only at h3
 exact oS
def OI(fu:Nat):Prop:= ∀(ps:ByteArray),ps.size≤8192→Ok (vK fu ps) (fun r=>wt r.1≤40*(ps.size+1))
theorem vC:bY OI:=((((bY.ge 2147483648).and BH).and DM).and vB).imp fun fu ⟨⟨⟨hfu,BH⟩,DM⟩,vB⟩ ps hpre=>by
 refine oB (BH ps (10:UInt8) bO) fun x2 h1=>?_
 have:=(aV:wl ([]:List aL)=0∧_)
 refine IG x2 40 (fun i3 v5 hl3 hI4 _ _=>?_) ?_
 ·have:=aY x2
  have:=cI x2 i3 hl3
  have:=a7 (aW x2 i3)
  refine oB (DM (aW x2 i3) bO) fun x9 _=>oC (fun _=>mP) fun g6=>tR (vB (aW x2 i3) bO) fun x12 x13 h7=>?_
  dsimp only at h7
  refine oW (fun g8=>?_) fun g8=>?_
  ·have:=aI.wt_mk []
   have:=aY v5
   exact oR
  have:=aY v5
  refine oD (fun g9=>?_) fun g9=>?_
  ·have:=aI.wt_mk []
   exact oR
  have:=aY (v5)
  have:=b8 x12
  refine oG fun z10=>?_
  have:=bV v5 ([x12]:List aL)
  exact mP
 intro v5 h2
 have:=aI.wt_mk v5
 exact oS
def adY(fu:Nat):Prop:= ∀(pc:DS),Ok (JB fu pc) (fun r=>r.1.size≤4000)
theorem H6:bY adY:=(bY.ge 2147483648).imp fun fu hfu pc=>by
 have:cN.size=110:=rfl
 have:cO.size=156:=rfl
 refine oG fun z1=>?_
 have:=eQ cN cO
 have:cQ.size=119:=rfl
 refine oG fun z2=>?_
 have:=eQ (cN++cO) cQ
 have:cV.size=86:=rfl
 refine oG fun z3=>Ok.lt fun d4 h4=>?_;refine oC (fun g5=>?_) fun g5=>?_
 ·have:=eQ ((cN++cO)++cQ) cV
  have:iI.size=120:=rfl
  refine oG fun z6=>?_
  have:=eQ (((cN++cO)++cQ)++cV) iI
  have:dK.size=127:=rfl
  refine oG fun z7=>?_
  have:=eQ ((((cN++cO)++cQ)++cV)++iI) dK
  have:eN.size=95:=rfl
  refine oG fun z8=>?_
  have:=eQ (((((cN++cO)++cQ)++cV)++iI)++dK) eN
  have:fK.size=107:=rfl
  refine oG fun z9=>?_
  have:=eQ ((((((cN++cO)++cQ)++cV)++iI)++dK)++eN) fK
  have:gU.size=51:=rfl
  refine oG fun z10=>?_
  have:=eQ (((((((cN++cO)++cQ)++cV)++iI)++dK)++eN)++fK) gU
  have:jY.size=140:=rfl
  refine oG fun z11=>?_
  have:=eQ ((((((((cN++cO)++cQ)++cV)++iI)++dK)++eN)++fK)++gU) jY
  have:nO.size=90:=rfl
  refine oG fun z12=>?_
  have:=eQ (((((((((cN++cO)++cQ)++cV)++iI)++dK)++eN)++fK)++gU)++jY) nO
  have:xZ.size=1:=rfl
  refine oG fun z13=>?_
  have:=eQ ((((((((((cN++cO)++cQ)++cV)++iI)++dK)++eN)++fK)++gU)++jY)++nO) xZ
  exact oS
 have:=eQ ((cN++cO)++cQ) cV
 have:iJ.size=147:=rfl
 refine oG fun z14=>?_
 have:=eQ (((cN++cO)++cQ)++cV) iJ
 have:dK.size=127:=rfl
 refine oG fun z15=>?_
 have:=eQ ((((cN++cO)++cQ)++cV)++iJ) dK
 have:eN.size=95:=rfl
 refine oG fun z16=>?_
 have:=eQ (((((cN++cO)++cQ)++cV)++iJ)++dK) eN
 have:fK.size=107:=rfl
 refine oG fun z17=>?_
 have:=eQ ((((((cN++cO)++cQ)++cV)++iJ)++dK)++eN) fK
 have:gU.size=51:=rfl
 refine oG fun z18=>?_
 have:=eQ (((((((cN++cO)++cQ)++cV)++iJ)++dK)++eN)++fK) gU
 have:jY.size=140:=rfl
 refine oG fun z19=>?_
 have:=eQ ((((((((cN++cO)++cQ)++cV)++iJ)++dK)++eN)++fK)++gU) jY
 have:nO.size=90:=rfl
 refine oG fun z20=>?_
 have:=eQ (((((((((cN++cO)++cQ)++cV)++iJ)++dK)++eN)++fK)++gU)++jY) nO
 have:xZ.size=1:=rfl
 refine oG fun z21=>?_
 have:=eQ ((((((((((cN++cO)++cQ)++cV)++iJ)++dK)++eN)++fK)++gU)++jY)++nO) xZ
 exact oS
def ahU(fu:Nat):Prop:= ∀(pc:DS),Ok (NE fu pc) (fun r=>r.1.size≤3000)
theorem MB:bY ahU:=(bY.ge 2147483648).imp fun fu hfu pc=>by
 refine Ok.sok (E:=fun(v1,v2)=>v1.size≤1000) ?_ ?_
 ·refine Ok.lt fun d3 h2=>?_;refine oC (fun g3=>?_) fun g3=>?_
  ·have:eM.size=50:=rfl
   have:KA.size=38:=rfl
   refine oG fun z4=>?_
   have:=eQ eM KA
   exact oI
  refine oC (fun g5=>?_) fun g5=>?_
  ·have:eM.size=50:=rfl
   have:J8.size=64:=rfl
   refine oG fun z6=>?_
   have:=eQ eM J8
   exact oI
  refine oC (fun g7=>?_) fun g7=>?_
  ·have:eM.size=50:=rfl
   have:J2.size=83:=rfl
   refine oG fun z8=>?_
   have:=eQ eM J2
   exact oI
  refine oC (fun g9=>?_) fun g9=>?_
  ·have:eM.size=50:=rfl
   have:J4.size=45:=rfl
   refine oG fun z10=>?_
   have:=eQ eM J4
   exact oI
  refine oC (fun g11=>?_) fun g11=>?_
  ·have:eM.size=50:=rfl
   have:J3.size=90:=rfl
   refine oG fun z12=>?_
   have:=eQ eM J3
   exact oI
  refine oC (fun g13=>?_) fun g13=>?_
  ·have:eM.size=50:=rfl
   have:J7.size=45:=rfl
   refine oG fun z14=>?_
   have:=eQ eM J7
   exact oI
  have:eM.size=50:=rfl
  have:J5.size=64:=rfl
  refine oG fun z15=>?_
  have:=eQ eM J5
  exact oI
 rintro⟨v1,v2⟩ h1
 dsimp only at h1
 have:nN.size=23:=rfl
 refine oG fun z16=>?_
 have:z0.size=13:=rfl
 have:zZ.size=68:=rfl
 have:zX.size=29:=rfl
 have:AA.size=43:=rfl
 have:zW.size=68:=rfl
 have:AD.size=25:=rfl
 have:AE.size=29:=rfl
 have:AB.size=45:=rfl
 have:AC.size=65:=rfl
 have:zV.size=43:=rfl
 have:wl ([z0,zZ,zX,AA,zW,AD,AE,AB,AC,zV]:List ByteArray)=438:=rfl
 refine Ok.lt fun d19 h17=>Ok.lt fun y21 h18=>?_
 have:=congrArg wt h18
 simp only [a7] at this
 have:y21.size≤200:=by rw [h18];exact DS.pick_size _ (by decide) (by decide)
 have:=eQ v1 nN
 refine oG fun z19=>?_
 have:=eQ (v1++nN) y21
 have:xZ.size=1:=rfl
 refine oG fun z20=>?_;refine Ok.sok (E:=fun(v25,v26)=>v25.size≤2000) ?_ ?_
 ·refine Ok.lt fun d27 h22=>?_;refine oC (fun g23=>?_) fun g23=>?_
  ·have:=eQ ((v1++nN)++y21) xZ
   have:J6.size=83:=rfl
   refine oG fun z24=>?_
   have:=eQ (((v1++nN)++y21)++xZ) J6
   exact oI
  have:=eQ ((v1++nN)++y21) xZ
  exact oI
 rintro⟨v25,v26⟩ h21
 dsimp only at h21
 refine Ok.sok (E:=fun(v31,v32)=>v31.size≤2500) ?_ ?_
 ·refine Ok.lt fun d33 h26=>?_;refine oC (fun g27=>?_) fun g27=>?_
  ·have:J9.size=77:=rfl
   refine oG fun z28=>?_
   have:=eQ v25 J9
   exact oI
  exact oI
 rintro⟨v31,v32⟩ h25
 dsimp only at h25
 refine Ok.lt fun d37 h29=>?_;refine oC (fun g30=>?_) fun g30=>?_
 ·have:zY.size=113:=rfl
  refine oG fun z31=>?_
  have:=eQ v31 zY
  refine oG fun z32=>?_
  have:=eQ (v31++zY) xZ
  exact oS
 refine oG fun z33=>?_
 have:=eQ v31 xZ
 exact oS
def OL(fu:Nat):Prop:= ∀(pc:DS),Ok (vQ fu pc) (fun r=>r.1.size≤7001)
theorem vF:bY OL:=(((bY.ge 2147483648).and H6).and MB).imp fun fu ⟨⟨hfu,H6⟩,MB⟩ pc=>by
 refine tR (H6 pc) fun x2 x3 h1=>?_
 dsimp only at h1
 refine Ok.lt fun d4 h2=>oC (fun _=>oS) fun g3=>?_
 have:ajV.size=1:=rfl
 refine oG fun z4=>tR (MB d4) fun x9 x10 h5=>?_
 dsimp only at h5
 have:=eQ x2 ajV
 refine oG fun z6=>?_
 have:=eQ (x2++ajV) x9
 exact oS
def ad0(fu:Nat):Prop:= ∀(pc:DS),Ok (JD fu pc) (fun r=>wt r.1≤327680)
theorem H8:bY ad0:=(((bY.ge 2147483648).and vF).and vC).imp fun fu ⟨⟨hfu,vF⟩,vC⟩ pc=>by
 refine tR (vF pc) fun x2 x3 h1=>?_
 dsimp only at h1
 refine tR (vC x2 bO) fun x5 x6 h2=>?_
 dsimp only at h2
 have:=aI.wt_eq x5
 have:=aI.wt_mk x5.gPackages
 exact oS
end Go.Proofs.YtpioomclpaiomaaGreat.W

namespace Go.Proofs.YtpioomclpaiomaaGreat.W
set_option linter.unusedSimpArgs false
set_option linter.unusedVariables false
open Go.RowKit Go.WalkArith Go.IntWalk
def bT:Nat→Nat
 |0=>1000
 |n+1=>2*bT n+20
theorem ag2: ∀n:Nat,1000≤bT n
 |0=>Nat.le_refl _
 |n+1=>by unfold bT;have:=ag2 n;omega
theorem al1(x:Int):0<x∧x≤4→bT x.toNat=2*bT (aR (x-1)).toNat+20:=fun h=>by
 rw [eL (x-1) (by omega)]
 obtain⟨n,rfl⟩: ∃n:Nat,x=((n+1:Nat):Int):=⟨x.toNat-1,by omega⟩
 have e:(((n+1:Nat):Int)-1).toNat=n:=by omega
 rw [e]
 simp only [Int.toNat_natCast]
 rfl
theorem amY(x:Int):x≤4→bT x.toNat≤20000:=fun h=>by
 have:x.toNat=0∨x.toNat=1∨x.toNat=2∨x.toNat=3∨x.toNat=4:=by omega
 rcases this with h|h|h|h|h<;>rw [h]<;>decide
def bX:Nat→Nat
 |0=>3000
 |n+1=>4*bX n+22000
theorem aj6: ∀n:Nat,3000≤bX n
 |0=>Nat.le_refl _
 |n+1=>by unfold bX;have:=aj6 n;omega
theorem al2(x:Int):0<x∧x≤4→bX x.toNat=4*bX (aR (x-1)).toNat+22000:=fun h=>by
 rw [eL (x-1) (by omega)]
 obtain⟨n,rfl⟩: ∃n:Nat,x=((n+1:Nat):Int):=⟨x.toNat-1,by omega⟩
 have e:(((n+1:Nat):Int)-1).toNat=n:=by omega
 rw [e]
 simp only [Int.toNat_natCast]
 rfl
theorem amZ(x:Int):x≤3→bX x.toNat≤1000000:=fun h=>by
 have:x.toNat=0∨x.toNat=1∨x.toNat=2∨x.toNat=3:=by omega
 rcases this with h|h|h|h<;>rw [h]<;>decide
theorem QO:bT (1:Int).toNat=2020:=rfl
theorem anM:bX (2:Int).toNat=158000:=rfl
theorem ad4:bT (2:Int).toNat=4060:=rfl
end Go.Proofs.YtpioomclpaiomaaGreat.W

namespace Go.Proofs.YtpioomclpaiomaaGreat.W
set_option linter.unusedSimpArgs false
set_option linter.unusedVariables false
set_option maxRecDepth 20000
set_option maxHeartbeats 4000000
open Go.RowKit Go.WalkArith Go.IntWalk
attribute [local irreducible] wt wl bT bX lt
def ag0(fu:Nat):Prop:= ∀(pc:DS) (pvars:List ByteArray) (pdeep:Int),wl pvars≤1000∧ -100≤pdeep∧pdeep≤4→Ok (q9 fu pc pvars pdeep) (fun r=>wt r.1≤bT pdeep.toNat)
def V5(n:Nat)(m:K8):Prop:= ∀(pc:DS) (pvars:List ByteArray) (pdeep:Int),pdeep.toNat<n→wl pvars≤1000∧ -100≤pdeep∧pdeep≤4→Ok (m pc pvars pdeep) (fun r=>wt r.1≤bT pdeep.toNat)
theorem alE{n fu:Nat}(hfu:2147483648≤fu)(dX:QL fu)(dR:JR fu){r_sl4Ty:K8}(h_sl4Ty:V5 n r_sl4Ty):V5 (n+1) (ZE fu r_sl4Ty):=by
 intro pc pvars pdeep hm hpre
 have:=ag2 pdeep.toNat
 have:=ag2 (aR (pdeep-1)).toNat
 have:=al1 pdeep
 have:=amY (aR (pdeep-1))
 refine Ok.lt fun d1 h1=>?_;refine oC (fun g2=>?_) fun g2=>?_
 ·have:=aY pvars
  refine oD (fun g3=>?_) fun g3=>?_
  ·refine Ok.lt fun d5 h4=>?_
   have:=ah9 d1 pvars.length
   have:=aY (pvars)
   refine oG fun z5=>?_
   have:=cI pvars (d1.below pvars.length) z5
   have:=a7 (aW pvars (d1.below pvars.length))
   exact oB (dX (aW pvars (d1.below pvars.length))) fun x9 h6=>oS
  refine oC (fun g7=>?_) fun g7=>?_
  ·have:fW.size=3:=rfl
   have:fN.size=4:=rfl
   have:iH.size=4:=rfl
   have:=CR fW fN iH
   have:=a7 fW
   have:=a7 fN
   have:=a7 iH
   refine Ok.lt fun d11 h8=>Ok.lt fun y13 h9=>?_
   have:=congrArg wt h9
   simp only [a7] at this
   have:y13.size≤4:=by rw [h9];exact DS.pick_size _ (by decide) (by decide)
   have:=(aV:wl ([]:List aA)=0∧_)
   exact oB (dR y13 ([]:List aA) bO) fun x16 h10=>oS
  refine oD (fun g11=>?_) fun g11=>?_
  ·have:fW.size=3:=rfl
   have:fN.size=4:=rfl
   have:iH.size=4:=rfl
   have:=CR fW fN iH
   have:=a7 fW
   have:=a7 fN
   have:=a7 iH
   refine Ok.lt fun d18 h12=>Ok.lt fun y20 h13=>?_
   have:=congrArg wt h13
   simp only [a7] at this
   have:y20.size≤4:=by rw [h13];exact DS.pick_size _ (by decide) (by decide)
   have:=(aV:wl ([]:List aA)=0∧_)
   exact oB (dR y20 ([]:List aA) bO) fun x23 h14=>oS
  refine oC (fun g15=>?_) fun g15=>?_
  ·have:=eL (pdeep-1)
   refine tR (h_sl4Ty d1 pvars (aR (pdeep-1)) bO bO) fun x26 x27 h16=>?_
   dsimp only at h16
   refine tR (h_sl4Ty x27 pvars (aR (pdeep-1)) bO bO) fun x29 x30 h17=>?_
   dsimp only at h17
   have:vP.size=4:=rfl
   have:=jT x26 x29
   exact oB (dR vP ([x26,x29]:List aA) bO) fun x32 h18=>oS
  have:cH.size=4:=rfl
  have:p9.size=3:=rfl
  have:=CR cH cH p9
  have:=a7 cH
  have:=a7 p9
  refine Ok.lt fun d33 h19=>Ok.lt fun y35 h20=>?_
  have:=congrArg wt h20
  simp only [a7] at this
  have:y35.size≤4:=by rw [h20];exact DS.pick_size _ (by decide) (by decide)
  have:=eL (pdeep-1)
  refine tR (h_sl4Ty d33 pvars (aR (pdeep-1)) bO bO) fun x38 x39 h21=>?_
  dsimp only at h21
  have:=b8 x38
  exact oB (dR y35 ([x38]:List aA) bO) fun x41 h22=>oS
 refine oC (fun g23=>?_) fun g23=>?_
 ·have:fW.size=3:=rfl
  have:fN.size=4:=rfl
  have:iH.size=4:=rfl
  have:=CR fW fN iH
  have:=a7 fW
  have:=a7 fN
  have:=a7 iH
  refine Ok.lt fun d43 h24=>Ok.lt fun y45 h25=>?_
  have:=congrArg wt h25
  simp only [a7] at this
  have:y45.size≤4:=by rw [h25];exact DS.pick_size _ (by decide) (by decide)
  have:=(aV:wl ([]:List aA)=0∧_)
  exact oB (dR y45 ([]:List aA) bO) fun x48 h26=>oS
 refine oD (fun g27=>?_) fun g27=>?_
 ·have:fW.size=3:=rfl
  have:fN.size=4:=rfl
  have:iH.size=4:=rfl
  have:=CR fW fN iH
  have:=a7 fW
  have:=a7 fN
  have:=a7 iH
  refine Ok.lt fun d50 h28=>Ok.lt fun y52 h29=>?_
  have:=congrArg wt h29
  simp only [a7] at this
  have:y52.size≤4:=by rw [h29];exact DS.pick_size _ (by decide) (by decide)
  have:=(aV:wl ([]:List aA)=0∧_)
  exact oB (dR y52 ([]:List aA) bO) fun x55 h30=>oS
 refine oC (fun g31=>?_) fun g31=>?_
 ·have:=eL (pdeep-1)
  refine tR (h_sl4Ty d1 pvars (aR (pdeep-1)) bO bO) fun x58 x59 h32=>?_
  dsimp only at h32
  refine tR (h_sl4Ty x59 pvars (aR (pdeep-1)) bO bO) fun x61 x62 h33=>?_
  dsimp only at h33
  have:vP.size=4:=rfl
  have:=jT x58 x61
  exact oB (dR vP ([x58,x61]:List aA) bO) fun x64 h34=>oS
 have:cH.size=4:=rfl
 have:p9.size=3:=rfl
 have:=CR cH cH p9
 have:=a7 cH
 have:=a7 p9
 refine Ok.lt fun d65 h35=>Ok.lt fun y67 h36=>?_
 have:=congrArg wt h36
 simp only [a7] at this
 have:y67.size≤4:=by rw [h36];exact DS.pick_size _ (by decide) (by decide)
 have:=eL (pdeep-1)
 refine tR (h_sl4Ty d65 pvars (aR (pdeep-1)) bO bO) fun x70 x71 h37=>?_
 dsimp only at h37
 have:=b8 x70
 exact oB (dR y67 ([x70]:List aA) bO) fun x73 h38=>oS
theorem amM(n:Nat):bY fun fu=>V5 n (q9 fu):=by
 induction n with
 |zero=>exact .all fun fu=>fun _ _ _ h=>absurd h (Nat.not_lt_zero _)
 |succ n ih=>exact bY.succ ((ih.and (((bY.ge 2147483648).and dX).and dR)).imp fun fu ⟨h,⟨⟨hfu,dX⟩,dR⟩⟩=>fun pc pvars pdeep=>by rw [q9];exact alE hfu dX dR h pc pvars pdeep)
theorem sU:bY ag0:=(amM 100).imp fun fu h pc pvars pdeep hpre=>h pc pvars pdeep bO hpre
def ahY(fu:Nat):Prop:= ∀(pt:aA),wt pt≤268435456→Ok (fF fu pt) (fun r=>wt r≤wt pt)
def NT(fu:Nat):Prop:= ∀(plist:List aA),wl plist≤268435456→Ok (eX fu plist) (fun r=>wl r≤wl plist)
def EM(n:Nat)(m:nY):Prop:= ∀(pt:aA),2*wt pt+1<n→wt pt≤268435456→Ok (m pt) (fun r=>wt r≤wt pt)
def yC(n:Nat)(m:kE):Prop:= ∀(plist:List aA),2*wl plist<n→wl plist≤268435456→Ok (m plist) (fun r=>wl r≤wl plist)
theorem af9{n fu:Nat}(hfu:2147483648≤fu){r_sl4Copy:nY}(h_sl4Copy:EM n r_sl4Copy){r_sl4Copies:kE}(h_sl4Copies:yC n r_sl4Copies):EM (n+1) (AT fu r_sl4Copy r_sl4Copies):=by
 intro pt hm hpre
 have:=aA.wt_eq pt
 refine oB (h_sl4Copies pt.gArgs bO bO) fun x2 h1=>?_
 have:=aA.wt_mk pt.gKind pt.gName x2
 exact oS
theorem Y8{n fu:Nat}(hfu:2147483648≤fu){r_sl4Copy:nY}(h_sl4Copy:EM n r_sl4Copy){r_sl4Copies:kE}(h_sl4Copies:yC n r_sl4Copies):yC (n+1) (u0 fu r_sl4Copy r_sl4Copies):=by
 intro plist hm hpre
 have:=(aV:wl ([]:List aA)=0∧_)
 refine IG plist 1 (fun i1 v3 hl2 hI3 _ _=>?_) ?_
 ·have:=aY plist
  have:=cI plist i1 hl2
  refine oB (h_sl4Copy (aW plist i1) bO bO) fun x7 h4=>?_
  have:=aY (v3)
  have:=b8 x7
  refine oG fun z5=>?_
  have:=bV v3 ([x7]:List aA)
  exact mP
 intro v3 h1
 exact oS
theorem VX(n:Nat):bY fun fu=>EM n (fF fu)∧yC n (eX fu):=by
 induction n with
 |zero=>exact .all fun fu=>⟨fun _ h=>absurd h (Nat.not_lt_zero _),fun _ h=>absurd h (Nat.not_lt_zero _)⟩
 |succ n ih=>exact bY.succ ((ih.and (bY.ge 2147483648)).imp fun fu ⟨h,hfu⟩=>⟨fun pt=>by rw [fF];exact af9 hfu h.1 h.2 pt,fun plist=>by rw [eX];exact Y8 hfu h.1 h.2 plist⟩)
theorem nV:bY ahY:=(VX 8589934592).imp fun fu h pt hpre=>h.1 pt bO hpre
theorem uR:bY NT:=(VX 8589934592).imp fun fu h plist hpre=>h.2 plist bO hpre
def ah1(fu:Nat):Prop:= ∀(ptrait:ByteArray) (pt:aA),ptrait.size+wt pt≤67108864→Ok (FK fu ptrait pt) (fun r=>wt r≤ptrait.size+wt pt+1)
theorem EX:bY ah1:=((bY.ge 2147483648).and nV).imp fun fu ⟨hfu,nV⟩ ptrait pt hpre=>by
 refine oB (nV pt bO) fun x2 h1=>?_
 have:=b8 x2
 have:=aA.wt_mk 3 ptrait ([x2]:List aA)
 exact oS
def U9(fu:Nat):Prop:= ∀(pc:DS) (pdeep:Int),-100≤pdeep∧pdeep≤4→Ok (sC fu pc pdeep) (fun r=>wt r.1≤bT pdeep.toNat+60)
theorem k7:bY U9:=((((bY.ge 2147483648).and sU).and EX).and dR).imp fun fu ⟨⟨⟨hfu,sU⟩,EX⟩,dR⟩ pc pdeep hpre=>by
 have:=ag2 pdeep.toNat
 have:=amY pdeep
 have:f7.size=1:=rfl
 have:zL.size=1:=rfl
 have:=jT f7 zL
 have:=a7 f7
 have:=a7 zL
 refine tR (sU pc ([f7,zL]:List ByteArray) pdeep bO) fun x2 x3 h1=>?_
 dsimp only at h1
 refine Ok.lt fun d4 h2=>?_;refine oC (fun g3=>?_) fun g3=>?_
 ·have:hQ.size=3:=rfl
  have:bF.size=4:=rfl
  have:=jT hQ bF
  have:=a7 hQ
  have:=a7 bF
  refine Ok.lt fun d7 h4=>Ok.lt fun y9 h5=>?_
  have:=congrArg wt h5
  simp only [a7] at this
  have:y9.size≤4:=by rw [h5];exact DS.pick_size _ (by decide) (by decide)
  exact oB (EX y9 x2 bO) fun x12 h6=>oS
 refine oC (fun g7=>?_) fun g7=>?_
 ·have:hQ.size=3:=rfl
  refine oB (EX hQ x2 bO) fun x15 h8=>?_
  have:cH.size=4:=rfl
  have:=b8 x15
  exact oB (dR cH ([x15]:List aA) bO) fun x17 h9=>oS
 refine oC (fun g10=>?_) fun g10=>?_
 ·have:bF.size=4:=rfl
  have:=(aV:wl ([]:List aA)=0∧_)
  have:=aA.wt_mk 4 bF []
  exact oS
 exact oS
def ZP(fu:Nat):Prop:= ∀(pk:Int) (pname:ByteArray) (pargs:List aG),pname.size+wl pargs≤67108864→Ok (s4 fu pk pname pargs) (fun r=>wt r=pname.size+wl pargs)
theorem mH:bY ZP:=(bY.ge 2147483648).imp fun fu hfu pk pname pargs hpre=>by
 have:=(aV:wl ([]:List aG)=0∧_)
 have:=aY (pargs)
 refine oG fun z1=>?_
 have:s_.size=0:=rfl
 have:=(aV:wl ([]:List aA)=0∧_)
 have:=aA.wt_mk 0 s_ []
 have:=bV ([]:List aG) pargs
 have:=(aV:wl ([]:List bK)=0∧_)
 have:=aG.wt_mk pk s_ pname 0 (aA.mk 0 s_ []) (([])++pargs) []
 exact oS
def adN(fu:Nat):Prop:= ∀(pq0:DS) (pa1:List ByteArray) (pString:Int),wl pa1+10*pString.toNat≤900∧ -100≤pString∧pString≤3→Ok (kQ fu pq0 pa1 pString) (fun r=>wt r.1≤bX pString.toNat)
def G8(n:Nat)(m:rT):Prop:= ∀(pq0:DS) (pa1:List ByteArray) (pString:Int),pString.toNat<n→wl pa1+10*pString.toNat≤900∧ -100≤pString∧pString≤3→Ok (m pq0 pa1 pString) (fun r=>wt r.1≤bX pString.toNat)
theorem abF{n fu:Nat}(hfu:2147483648≤fu)(fD:zP fu)(eY:zO fu)(mH:ZP fu)(sU:ag0 fu){r_sl11Expr:rT}(h_sl11Expr:G8 n r_sl11Expr):G8 (n+1) (I1 fu r_sl11Expr):=by
 intro pq0 pa1 pString hm hpre
 have:=aj6 pString.toNat
 have:=aj6 (aR (pString-1)).toNat
 have:=al2 pString
 have:=QO
 have:=amZ pString
 have:=eL (pString-1)
 refine Ok.lt fun d1 h1=>?_;refine Ok.sok (E:=fun v3=>pString≤0→v3≤2) ?_ ?_
 ·refine oD (fun g3=>?_) fun g3=>?_
  ·have:=DS.below_lt pq0 (n:=13) (by decide)
   exact oI
  have:=DS.below_lt pq0 (n:=13) (by decide)
  exact oI
 intro v3 h2
 refine oD (fun g4=>?_) fun g4=>?_
 ·refine Ok.lt fun d6 h5=>?_
  have:s_.size=0:=rfl
  have:=DS.below_lt d1 (n:=2) (by decide)
  have:=(aV:wl ([]:List aA)=0∧_)
  have:=aA.wt_mk 0 s_ []
  have:=(aV:wl ([]:List aG)=0∧_)
  have:=(aV:wl ([]:List bK)=0∧_)
  have:=aG.wt_mk 2 s_ s_ (d1.below 2:Int) (aA.mk 0 s_ []) [] []
  exact oS
 refine CS ?_ ?_
 ·exact oD (fun _=>oI) fun g7=>oI
 intro v8 _
 refine oC (fun g8=>?_) fun g8=>?_
 ·have:=aY pa1
  refine oD (fun g9=>?_) fun g9=>?_
  ·have:=aY (pa1)
   refine oG fun z10=>Ok.lt fun d13 h11=>?_
   have:=amE d1 pa1
   refine Ok.lt fun y15 h12=>?_
   have:=congrArg wt h12
   simp only [a7] at this
   exact N6 (fD y15) fun x18 h13 h13B=>oS
  refine Ok.lt fun d19 h14=>?_
  have:=DS.below_lt d1 (n:=20) (by decide)
  have:=eL ((d1.below 20:Int)-5)
  exact N6 (eY (aR ((d1.below 20:Int)-5)) bO) fun x22 h15 h15B=>oS
 refine oD (fun g16=>?_) fun g16=>?_
 ·have:s_f.size=1:=rfl
  have:s_g.size=1:=rfl
  have:=jT s_f s_g
  have:=a7 s_f
  have:=a7 s_g
  refine Ok.lt fun d24 h17=>Ok.lt fun y26 h18=>?_
  have:=congrArg wt h18
  simp only [a7] at this
  have:y26.size≤1:=by rw [h18];exact DS.pick_size _ (by decide) (by decide)
  have:=eL (pString-1)
  refine tR (h_sl11Expr d24 pa1 (aR (pString-1)) bO bO) fun x29 x30 h19=>?_
  dsimp only at h19
  have:=b8 x29
  exact oB (mH 4 y26 ([x29]:List aG) bO) fun x32 h20=>oS
 refine oD (fun g21=>?_) fun g21=>?_
 ·have:bF.size=4:=rfl
  have:hQ.size=3:=rfl
  have:=jT bF hQ
  have:=a7 bF
  have:=a7 hQ
  refine Ok.lt fun d34 h22=>Ok.lt fun y36 h23=>?_
  have:=congrArg wt h23
  simp only [a7] at this
  have:y36.size≤4:=by rw [h23];exact DS.pick_size _ (by decide) (by decide)
  have:=eL (pString-1)
  refine tR (h_sl11Expr d34 pa1 (aR (pString-1)) bO bO) fun x39 x40 h24=>?_
  dsimp only at h24
  refine tR (h_sl11Expr x40 pa1 (aR (pString-1)) bO bO) fun x42 x43 h25=>?_
  dsimp only at h25
  have:eO.size=1:=rfl
  have:s_.size=0:=rfl
  have:=(aV:wl ([]:List aA)=0∧_)
  have:=aA.wt_mk 0 s_ []
  have:=jT x39 x42
  have:=(aV:wl ([]:List bK)=0∧_)
  have:=aG.wt_mk 5 y36 eO 0 (aA.mk 0 s_ []) ([x39,x42]:List aG) []
  exact oS
 refine oD (fun g26=>?_) fun g26=>?_
 ·have:=eL (pString-1)
  refine tR (h_sl11Expr d1 pa1 (aR (pString-1)) bO bO) fun x46 x47 h27=>?_
  dsimp only at h27
  refine tR (h_sl11Expr x47 pa1 (aR (pString-1)) bO bO) fun x49 x50 h28=>?_
  dsimp only at h28
  have:cF.size=4:=rfl
  have:=jT x46 x49
  exact oB (mH 6 cF ([x46,x49]:List aG) bO) fun x52 h29=>oS
 refine oD (fun g30=>?_) fun g30=>?_
 ·have:=(aV:wl ([]:List ByteArray)=0∧_)
  have:=aY (pa1)
  refine oG fun z31=>?_
  have:=bV ([]:List ByteArray) pa1
  have:s_h.size=1:=rfl
  have:s_t.size=1:=rfl
  have:=jT s_h s_t
  have:=a7 s_h
  have:=a7 s_t
  refine oG fun z32=>?_
  have:=eL (pString-1)
  refine tR (h_sl11Expr d1 pa1 (aR (pString-1)) bO bO) fun x57 x58 h33=>?_
  dsimp only at h33
  refine tR (h_sl11Expr x58 pa1 (aR (pString-1)) bO bO) fun x60 x61 h34=>?_
  dsimp only at h34
  have:=bV (([])++pa1) ([s_h,s_t]:List ByteArray)
  refine tR (h_sl11Expr x61 ((([])++pa1)++([s_h,s_t]:List ByteArray)) (aR (pString-1)) bO bO) fun x63 x64 h35=>?_
  dsimp only at h35
  have:s_.size=0:=rfl
  have:=(aV:wl ([]:List aA)=0∧_)
  have:=aA.wt_mk 0 s_ []
  have:=b8 x57
  have:fL.size=3:=rfl
  have:=bK.wt_mk fL [] x60
  have:cF.size=4:=rfl
  have:=bK.wt_mk cF ([s_h,s_t]:List ByteArray) x63
  have:=jT (bK.mk fL [] x60) (bK.mk cF ([s_h,s_t]:List ByteArray) x63)
  have:=aG.wt_mk 7 s_ s_ 0 (aA.mk 0 s_ []) ([x57]:List aG) ([(bK.mk fL [] x60),(bK.mk cF ([s_h,s_t]:List ByteArray) x63)]:List bK)
  exact oS
 refine oD (fun g36=>?_) fun g36=>?_
 ·have:=eL (pString-1)
  refine tR (h_sl11Expr d1 pa1 (aR (pString-1)) bO bO) fun x67 x68 h37=>?_
  dsimp only at h37
  have:=(aV:wl ([]:List ByteArray)=0∧_)
  have:=aY (pa1)
  refine oG fun z38=>?_
  have:=bV ([]:List ByteArray) pa1
  have:pW.size=1:=rfl
  have:=b8 pW
  have:=a7 pW
  refine oG fun z39=>?_
  have:=bV (([])++pa1) ([pW]:List ByteArray)
  refine tR (h_sl11Expr x68 ((([])++pa1)++([pW]:List ByteArray)) (aR (pString-1)) bO bO) fun x72 x73 h40=>?_
  dsimp only at h40
  have:=jT x67 x72
  exact oB (mH 8 pW ([x67,x72]:List aG) bO) fun x75 h41=>oS
 refine oD (fun g42=>?_) fun g42=>?_
 ·have:=eL (pString-1)
  refine tR (h_sl11Expr d1 pa1 (aR (pString-1)) bO bO) fun x78 x79 h43=>?_
  dsimp only at h43
  refine tR (h_sl11Expr x79 pa1 (aR (pString-1)) bO bO) fun x81 x82 h44=>?_
  dsimp only at h44
  refine tR (h_sl11Expr x82 pa1 (aR (pString-1)) bO bO) fun x84 x85 h45=>?_
  dsimp only at h45
  have:s_.size=0:=rfl
  have:=CR x78 x81 x84
  exact oB (mH 9 s_ ([x78,x81,x84]:List aG) bO) fun x87 h46=>oS
 refine oD (fun g47=>?_) fun g47=>?_
 ·have:yA.size=1:=rfl
  have:CZ.size=1:=rfl
  have:LB.size=1:=rfl
  have:LC.size=1:=rfl
  have:LD.size=1:=rfl
  have:=aoL yA CZ LB LC LD
  have:=a7 yA
  have:=a7 CZ
  have:=a7 LB
  have:=a7 LC
  have:=a7 LD
  refine Ok.lt fun d89 h48=>Ok.lt fun y91 h49=>?_
  have:=congrArg wt h49
  simp only [a7] at this
  have:y91.size≤1:=by rw [h49];exact DS.pick_size _ (by decide) (by decide)
  have:=eL (pString-1)
  refine tR (h_sl11Expr d89 pa1 (aR (pString-1)) bO bO) fun x94 x95 h50=>?_
  dsimp only at h50
  refine tR (h_sl11Expr x95 pa1 (aR (pString-1)) bO bO) fun x97 x98 h51=>?_
  dsimp only at h51
  have:=jT x94 x97
  exact oB (mH 10 y91 ([x94,x97]:List aG) bO) fun x100 h52=>oS
 refine oD (fun g53=>?_) fun g53=>?_
 ·have:=eL (pString-1)
  refine tR (h_sl11Expr d1 pa1 (aR (pString-1)) bO bO) fun x103 x104 h54=>?_
  dsimp only at h54
  have:bF.size=4:=rfl
  have:s_.size=0:=rfl
  have:=(aV:wl ([]:List aA)=0∧_)
  have:=aA.wt_mk 0 s_ []
  have:=b8 x103
  have:=(aV:wl ([]:List bK)=0∧_)
  have:=aG.wt_mk 11 bF s_ 0 (aA.mk 0 s_ []) ([x103]:List aG) []
  exact oS
 refine oD (fun g55=>?_) fun g55=>?_
 ·have:f7.size=1:=rfl
  have:=b8 f7
  have:=a7 f7
  refine tR (sU d1 ([f7]:List ByteArray) 1 bO) fun x107 x108 h56=>?_
  dsimp only at h56
  have:=eL (pString-1)
  refine tR (h_sl11Expr x108 pa1 (aR (pString-1)) bO bO) fun x110 x111 h57=>?_
  dsimp only at h57
  have:s_.size=0:=rfl
  have:=b8 x110
  have:=(aV:wl ([]:List bK)=0∧_)
  have:=aG.wt_mk 12 s_ s_ 0 x107 ([x110]:List aG) []
  exact oS
 refine Ok.lt fun d112 h58=>?_
 have:=DS.below_lt d1 (n:=20) (by decide)
 have:=eL ((d1.below 20:Int)-5)
 exact N6 (eY (aR ((d1.below 20:Int)-5)) bO) fun x115 h59 h59B=>oS
theorem aeV(n:Nat):bY fun fu=>G8 n (kQ fu):=by
 induction n with
 |zero=>exact .all fun fu=>fun _ _ _ h=>absurd h (Nat.not_lt_zero _)
 |succ n ih=>exact bY.succ ((ih.and (((((bY.ge 2147483648).and fD).and eY).and mH).and sU)).imp fun fu ⟨h,⟨⟨⟨⟨hfu,fD⟩,eY⟩,mH⟩,sU⟩⟩=>fun pq0 pa1 pString=>by rw [kQ];exact abF hfu fD eY mH sU h pq0 pa1 pString)
theorem tH:bY adN:=(aeV 100).imp fun fu h pq0 pa1 pString hpre=>h pq0 pa1 pString bO hpre
def aj1(fu:Nat):Prop:=Ok (AV fu) (fun r=>wt r≤3)
theorem qP:bY aj1:=((bY.ge 2147483648).and dR).imp fun fu ⟨hfu,dR⟩=>by
 have:fW.size=3:=rfl
 have:=(aV:wl ([]:List aA)=0∧_)
 exact oB (dR fW ([]:List aA) bO) fun x2 h1=>oS
def adU(fu:Nat):Prop:= ∀(pq0:DS),Ok (I9 fu pq0) (fun r=>wt r.1≤1000000)
theorem H4:bY adU:=((((((((bY.ge 2147483648).and eY).and qP).and dX).and dR).and sU).and k7).and tH).imp fun fu ⟨⟨⟨⟨⟨⟨⟨hfu,eY⟩,qP⟩,dX⟩,dR⟩,sU⟩,k7⟩,tH⟩ pq0=>by
 have:=QO
 have:=ad4
 have:=anM
 have:bF.size=4:=rfl
 have:uU.size=2:=rfl
 have:hQ.size=3:=rfl
 have:=CR bF uU hQ
 have:=a7 bF
 have:=a7 uU
 have:=a7 hQ
 refine Ok.lt fun d1 h1=>Ok.lt fun y3 h2=>?_
 have:=congrArg wt h2
 simp only [a7] at this
 have:y3.size≤4:=by rw [h2];exact DS.pick_size _ (by decide) (by decide)
 refine Ok.lt fun d5 h3=>?_
 have:=DS.below_lt d1 (n:=9) (by decide)
 refine N6 (eY (d1.below 9:Int) bO) fun x8 h4 h4B=>?_;refine Ok.sok (E:=fun(v9,v10,v11,v12,v13,v14)=>wl v9≤10∧v11.size+wl v12≤100∧wl v13≤100) ?_ ?_
 ·refine Ok.lt fun d15 h6=>?_;refine oC (fun g7=>?_) fun g7=>?_
  ·refine oB (qP) fun x19 h8=>?_
   have:=aA.wt_eq x19
   have:=(aV:wl ([]:List ByteArray)=0∧_)
   have:=(aV:wl ([]:List aF)=0∧_)
   exact oI
  refine oC (fun g9=>?_) fun g9=>?_
  ·have:f7.size=1:=rfl
   refine oB (dX f7) fun x22 h10=>?_
   have:cH.size=4:=rfl
   have:=b8 x22
   refine oB (dR cH ([x22]:List aA) bO) fun x24 h11=>?_
   have:=b8 f7
   have:=a7 f7
   have:=aA.wt_eq x24
   have:=aF.wt_mk y3 x22
   have:=b8 (aF.mk y3 x22)
   exact oI
  refine oC (fun g12=>?_) fun g12=>?_
  ·have:f7.size=1:=rfl
   refine oB (dX f7) fun x27 h13=>?_
   have:zL.size=1:=rfl
   refine oB (dX zL) fun x29 h14=>?_
   have:vP.size=4:=rfl
   have:=jT x27 x29
   refine oB (dR vP ([x27,x29]:List aA) bO) fun x31 h15=>?_
   have:=jT f7 zL
   have:=a7 f7
   have:=a7 zL
   have:=aA.wt_eq x31
   have:=(aV:wl ([]:List aF)=0∧_)
   exact oI
  have:f7.size=1:=rfl
  refine oB (dX f7) fun x33 h16=>?_
  have:=b8 f7
  have:=a7 f7
  have:=aA.wt_eq x33
  have:iE.size=3:=rfl
  have:=aF.wt_mk iE x33
  have:=b8 (aF.mk iE x33)
  exact oI
 rintro⟨v9,v10,v11,v12,v13,v14⟩ h5
 dsimp only at h5
 refine Ok.sok (E:=fun(v38,v35,v36,v37,v34)=>wl v38+v37.size≤5000) ?_ ?_
 ·refine Ok.lt fun d39 h18=>?_;refine oC (fun g19=>?_) fun g19=>?_
  ·refine tR (sU d39 v9 1 bO) fun x43 x44 h20=>?_
   dsimp only at h20
   have:=aA.wt_eq x43
   exact oI
  have:s_.size=0:=rfl
  have:=(aV:wl ([]:List aA)=0∧_)
  exact oI
 rintro⟨v38,v35,v36,v37,v34⟩ h17
 dsimp only at h17
 refine Ok.lt fun d45 h21=>Ok.lt fun d47 h22=>?_;refine oC (fun g23=>?_) fun g23=>?_
 ·refine tR (k7 d47 2 bO) fun x51 x52 h24=>?_
  dsimp only at h24
  have:=DS.below_lt v34 (n:=4) (by decide)
  have:=aA.wt_mk v36 v37 v38
  have:eO.size=1:=rfl
  have:eK.size=1:=rfl
  have:=b8 eK
  have:=a7 eK
  have:=aP.wt_mk eO ([eK]:List ByteArray) x8
  have:=b8 (aP.mk eO ([eK]:List ByteArray) x8)
  have:=aH.wt_mk y3 v9 x51 v13 (decide (v34.below 4=0)) v35 (aA.mk v36 v37 v38) ([(aP.mk eO ([eK]:List ByteArray) x8)]:List aP)
  exact oS
 refine oC (fun g25=>?_) fun g25=>?_
 ·have:f7.size=1:=rfl
  have:s_c.size=1:=rfl
  have:=jT f7 s_c
  have:=a7 f7
  have:=a7 s_c
  refine Ok.lt fun d54 h26=>Ok.lt fun y56 h27=>?_
  have:=congrArg wt h27
  simp only [a7] at this
  have:y56.size≤1:=by rw [h27];exact DS.pick_size _ (by decide) (by decide)
  have:=aY (v9)
  have:=b8 y56
  have:=a7 y56
  refine oG fun z28=>?_
  have:=bV v9 ([y56]:List ByteArray)
  have:=aA.wt_mk v10 v11 v12
  have:=DS.below_lt v34 (n:=4) (by decide)
  have:=aA.wt_mk v36 v37 v38
  have:eO.size=1:=rfl
  have:eK.size=1:=rfl
  have:=b8 eK
  have:=a7 eK
  have:=aP.wt_mk eO ([eK]:List ByteArray) x8
  have:=b8 (aP.mk eO ([eK]:List ByteArray) x8)
  have:=aH.wt_mk y3 (v9++([y56]:List ByteArray)) (aA.mk v10 v11 v12) v13 (decide (v34.below 4=0)) v35 (aA.mk v36 v37 v38) ([(aP.mk eO ([eK]:List ByteArray) x8)]:List aP)
  exact oS
 refine oC (fun g29=>?_) fun g29=>?_
 ·refine tR (k7 d47 1 bO) fun x61 x62 h30=>?_
  dsimp only at h30
  have:=aY (v13)
  have:=aF.wt_mk uU x61
  have:=b8 (aF.mk uU x61)
  refine oG fun z31=>?_
  have:=aA.wt_mk v10 v11 v12
  have:=bV v13 ([(aF.mk uU x61)]:List aF)
  have:=DS.below_lt v34 (n:=4) (by decide)
  have:=aA.wt_mk v36 v37 v38
  have:eO.size=1:=rfl
  have:eK.size=1:=rfl
  have:=b8 eK
  have:=a7 eK
  have:=aP.wt_mk eO ([eK]:List ByteArray) x8
  have:=b8 (aP.mk eO ([eK]:List ByteArray) x8)
  have:=aH.wt_mk y3 v9 (aA.mk v10 v11 v12) (v13++([(aF.mk uU x61)]:List aF)) (decide (v34.below 4=0)) v35 (aA.mk v36 v37 v38) ([(aP.mk eO ([eK]:List ByteArray) x8)]:List aP)
  exact oS
 refine oC (fun g32=>?_) fun g32=>?_
 ·have:eK.size=1:=rfl
  have:pW.size=1:=rfl
  have:=jT eK pW
  have:=a7 eK
  have:=a7 pW
  refine tR (tH d47 ([eK,pW]:List ByteArray) 2 bO) fun x66 x67 h33=>?_
  dsimp only at h33
  have:=aA.wt_mk v10 v11 v12
  have:=DS.below_lt v34 (n:=4) (by decide)
  have:=aA.wt_mk v36 v37 v38
  have:eO.size=1:=rfl
  have:=b8 eK
  have:=aP.wt_mk eO ([eK]:List ByteArray) x66
  have:=b8 (aP.mk eO ([eK]:List ByteArray) x66)
  have:=aH.wt_mk y3 v9 (aA.mk v10 v11 v12) v13 (decide (v34.below 4=0)) v35 (aA.mk v36 v37 v38) ([(aP.mk eO ([eK]:List ByteArray) x66)]:List aP)
  exact oS
 refine oC (fun g34=>?_) fun g34=>?_
 ·refine oB (qP) fun x70 h35=>?_
  have:=aA.wt_mk v10 v11 v12
  have:=DS.below_lt v34 (n:=4) (by decide)
  have:eO.size=1:=rfl
  have:eK.size=1:=rfl
  have:=b8 eK
  have:=a7 eK
  have:=aP.wt_mk eO ([eK]:List ByteArray) x8
  have:=b8 (aP.mk eO ([eK]:List ByteArray) x8)
  have:=aH.wt_mk y3 v9 (aA.mk v10 v11 v12) v13 (decide (v34.below 4=0)) v35 x70 ([(aP.mk eO ([eK]:List ByteArray) x8)]:List aP)
  exact oS
 refine oC (fun g36=>?_) fun g36=>?_
 ·have:=aA.wt_mk v10 v11 v12
  have:=DS.below_lt v34 (n:=4) (by decide)
  have:=aA.wt_mk v36 v37 v38
  have:eO.size=1:=rfl
  have:=(aV:wl ([]:List ByteArray)=0∧_)
  have:=aP.wt_mk eO ([]) x8
  have:=b8 (aP.mk eO ([]) x8)
  have:=aH.wt_mk y3 v9 (aA.mk v10 v11 v12) v13 (decide (v34.below 4=0)) v35 (aA.mk v36 v37 v38) ([(aP.mk eO ([]) x8)]:List aP)
  exact oS
 have:=aA.wt_mk v10 v11 v12
 have:=DS.below_lt v34 (n:=4) (by decide)
 have:=aA.wt_mk v36 v37 v38
 have:eO.size=1:=rfl
 have:eK.size=1:=rfl
 have:=b8 eK
 have:=a7 eK
 have:=aP.wt_mk eO ([eK]:List ByteArray) x8
 have:=b8 (aP.mk eO ([eK]:List ByteArray) x8)
 have:=aH.wt_mk y3 v9 (aA.mk v10 v11 v12) v13 (decide (v34.below 4=0)) v35 (aA.mk v36 v37 v38) ([(aP.mk eO ([eK]:List ByteArray) x8)]:List aP)
 exact oS
def ajY(fu:Nat):Prop:= ∀(pc:DS),Ok (SM fu pc) (fun r=>wt r.1≤2000000)
theorem Q9:bY ajY:=((((((bY.ge 2147483648).and dX).and qP).and fD).and k7).and tH).imp fun fu ⟨⟨⟨⟨⟨hfu,dX⟩,qP⟩,fD⟩,k7⟩,tH⟩ pc=>by
 have:=QO
 have:=ad4
 have:=amZ 3 (by decide)
 have:s_f.size=1:=rfl
 have:s_g.size=1:=rfl
 have:=jT s_f s_g
 have:=a7 s_f
 have:=a7 s_g
 refine Ok.lt fun d1 h1=>Ok.lt fun y3 h2=>?_
 have:=congrArg wt h2
 simp only [a7] at this
 have:y3.size≤1:=by rw [h2];exact DS.pick_size _ (by decide) (by decide)
 have:f7.size=1:=rfl
 refine oB (dX f7) fun x6 h3=>oB (qP) fun x8 h4=>?_
 have:eK.size=1:=rfl
 refine N6 (fD eK) fun x10 h5 h5B=>Ok.lt fun d11 h6=>?_;refine oC (fun g7=>?_) fun g7=>?_
 ·refine tR (k7 d11 2 bO) fun x15 x16 h8=>?_
  dsimp only at h8
  have:=b8 f7
  have:=a7 f7
  have:bF.size=4:=rfl
  have:=aF.wt_mk bF x6
  have:=b8 (aF.mk bF x6)
  have:=aU.wt_mk eK x6
  have:=b8 (aU.mk eK x6)
  have:eO.size=1:=rfl
  have:s_.size=0:=rfl
  have:=(aV:wl ([]:List aA)=0∧_)
  have:=aA.wt_mk 0 s_ []
  have:=b8 x10
  have:=(aV:wl ([]:List bK)=0∧_)
  have:=aG.wt_mk 5 bF eO 0 (aA.mk 0 s_ []) ([x10]:List aG) []
  have:=aM.wt_mk y3 ([f7]:List ByteArray) ([(aF.mk bF x6)]:List aF) ([(aU.mk eK x6)]:List aU) x15 (aG.mk 5 bF eO 0 (aA.mk 0 s_ []) ([x10]:List aG) [])
  exact oS
 refine oC (fun g9=>?_) fun g9=>?_
 ·have:pW.size=1:=rfl
  have:=jT eK pW
  have:=a7 eK
  have:=a7 pW
  refine Ok.lt fun d18 h10=>Ok.lt fun y20 h11=>?_
  have:=congrArg wt h11
  simp only [a7] at this
  have:y20.size≤1:=by rw [h11];exact DS.pick_size _ (by decide) (by decide)
  have:=aU.wt_mk eK x6
  have:=b8 (aU.mk eK x6)
  have:=aU.wt_mk y20 x8
  have:=b8 (aU.mk y20 x8)
  refine oG fun z12=>?_
  have:=b8 f7
  have:=a7 f7
  have:bF.size=4:=rfl
  have:=aF.wt_mk bF x6
  have:=b8 (aF.mk bF x6)
  have:=bV ([(aU.mk eK x6)]:List aU) ([(aU.mk y20 x8)]:List aU)
  have:eO.size=1:=rfl
  have:s_.size=0:=rfl
  have:=(aV:wl ([]:List aA)=0∧_)
  have:=aA.wt_mk 0 s_ []
  have:=b8 x10
  have:=(aV:wl ([]:List bK)=0∧_)
  have:=aG.wt_mk 5 bF eO 0 (aA.mk 0 s_ []) ([x10]:List aG) []
  have:=aM.wt_mk y3 ([f7]:List ByteArray) ([(aF.mk bF x6)]:List aF) (([(aU.mk eK x6)]:List aU)++([(aU.mk y20 x8)]:List aU)) x8 (aG.mk 5 bF eO 0 (aA.mk 0 s_ []) ([x10]:List aG) [])
  exact oS
 refine oC (fun g13=>?_) fun g13=>?_
 ·have:pW.size=1:=rfl
  have:=jT eK pW
  have:=a7 eK
  have:=a7 pW
  refine tR (tH d11 ([eK,pW]:List ByteArray) 3 bO) fun x25 x26 h14=>?_
  dsimp only at h14
  have:=b8 f7
  have:=a7 f7
  have:bF.size=4:=rfl
  have:=aF.wt_mk bF x6
  have:=b8 (aF.mk bF x6)
  have:=aU.wt_mk eK x6
  have:=b8 (aU.mk eK x6)
  have:=aM.wt_mk y3 ([f7]:List ByteArray) ([(aF.mk bF x6)]:List aF) ([(aU.mk eK x6)]:List aU) x8 x25
  exact oS
 refine oC (fun g15=>?_) fun g15=>?_
 ·refine tR (k7 d11 1 bO) fun x29 x30 h16=>?_
  dsimp only at h16
  have:=b8 f7
  have:=a7 f7
  have:bF.size=4:=rfl
  have:=aF.wt_mk bF x29
  have:=b8 (aF.mk bF x29)
  have:=aU.wt_mk eK x6
  have:=b8 (aU.mk eK x6)
  have:eO.size=1:=rfl
  have:s_.size=0:=rfl
  have:=(aV:wl ([]:List aA)=0∧_)
  have:=aA.wt_mk 0 s_ []
  have:=b8 x10
  have:=(aV:wl ([]:List bK)=0∧_)
  have:=aG.wt_mk 5 bF eO 0 (aA.mk 0 s_ []) ([x10]:List aG) []
  have:=aM.wt_mk y3 ([f7]:List ByteArray) ([(aF.mk bF x29)]:List aF) ([(aU.mk eK x6)]:List aU) x8 (aG.mk 5 bF eO 0 (aA.mk 0 s_ []) ([x10]:List aG) [])
  exact oS
 refine oC (fun g17=>?_) fun g17=>?_
 ·have:s_.size=0:=rfl
  have:BS.size=2:=rfl
  have:=jT s_ BS
  have:=a7 s_
  have:=a7 BS
  refine Ok.lt fun d32 h18=>Ok.lt fun y34 h19=>?_
  have:=congrArg wt h19
  simp only [a7] at this
  have:y34.size≤2:=by rw [h19];exact DS.pick_size _ (by decide) (by decide)
  have:=b8 f7
  have:=a7 f7
  have:bF.size=4:=rfl
  have:=aF.wt_mk bF x6
  have:=b8 (aF.mk bF x6)
  have:=aU.wt_mk eK x6
  have:=b8 (aU.mk eK x6)
  have:eO.size=1:=rfl
  have:=(aV:wl ([]:List aA)=0∧_)
  have:=aA.wt_mk 0 s_ []
  have:=b8 x10
  have:=(aV:wl ([]:List bK)=0∧_)
  have:=aG.wt_mk 5 bF eO 0 (aA.mk 0 s_ []) ([x10]:List aG) []
  have:=aM.wt_mk y34 ([f7]:List ByteArray) ([(aF.mk bF x6)]:List aF) ([(aU.mk eK x6)]:List aU) x8 (aG.mk 5 bF eO 0 (aA.mk 0 s_ []) ([x10]:List aG) [])
  exact oS
 have:=b8 f7
 have:=a7 f7
 have:bF.size=4:=rfl
 have:=aF.wt_mk bF x6
 have:=b8 (aF.mk bF x6)
 have:=aU.wt_mk eK x6
 have:=b8 (aU.mk eK x6)
 have:eO.size=1:=rfl
 have:s_.size=0:=rfl
 have:=(aV:wl ([]:List aA)=0∧_)
 have:=aA.wt_mk 0 s_ []
 have:=b8 x10
 have:=(aV:wl ([]:List bK)=0∧_)
 have:=aG.wt_mk 5 bF eO 0 (aA.mk 0 s_ []) ([x10]:List aG) []
 have:=aM.wt_mk y3 ([f7]:List ByteArray) ([(aF.mk bF x6)]:List aF) ([(aU.mk eK x6)]:List aU) x8 (aG.mk 5 bF eO 0 (aA.mk 0 s_ []) ([x10]:List aG) [])
 exact oS
def ZQ(fu:Nat):Prop:= ∀(pq0:DS),Ok (D7 fu pq0) (fun r=>wt r.1≤10000)
theorem DL:bY ZQ:=((((((bY.ge 2147483648).and dX).and qP).and fD).and eY).and mH).imp fun fu ⟨⟨⟨⟨⟨hfu,dX⟩,qP⟩,fD⟩,eY⟩,mH⟩ pq0=>by
 have:iS.size=4:=rfl
 refine oB (dX iS) fun x2 h1=>?_
 have:bF.size=4:=rfl
 have:uU.size=2:=rfl
 have:hQ.size=3:=rfl
 have:=CR bF uU hQ
 have:=a7 bF
 have:=a7 uU
 have:=a7 hQ
 refine Ok.lt fun d3 h2=>Ok.lt fun y5 h3=>?_
 have:=congrArg wt h3
 simp only [a7] at this
 have:y5.size≤4:=by rw [h3];exact DS.pick_size _ (by decide) (by decide)
 refine Ok.lt fun d7 h4=>oB (qP) fun x10 h5=>?_;refine oC (fun g6=>?_) fun g6=>?_
 ·refine oC (fun g7=>?_) fun g7=>?_
  ·refine Ok.lt fun d13 h8=>?_
   have:eK.size=1:=rfl
   refine N6 (fD eK) fun x17 h9 h9B=>N6 (eY 1 bO) fun x19 h10 h10B=>?_
   have:yA.size=1:=rfl
   have:eO.size=1:=rfl
   have:s_.size=0:=rfl
   have:=(aV:wl ([]:List aA)=0∧_)
   have:=aA.wt_mk 0 s_ []
   have:=b8 x17
   have:=(aV:wl ([]:List bK)=0∧_)
   have:=aG.wt_mk 5 y5 eO 0 (aA.mk 0 s_ []) ([x17]:List aG) []
   have:=jT (aG.mk 5 y5 eO 0 (aA.mk 0 s_ []) ([x17]:List aG) []) x19
   refine oB (mH 10 yA ([(aG.mk 5 y5 eO 0 (aA.mk 0 s_ []) ([x17]:List aG) []),x19]:List aG) bO) fun x21 h11=>?_
   have:=(aV:wl ([]:List aG)=0∧_)
   have:=aG.wt_mk 0 s_ s_ 0 (aA.mk 0 s_ []) [] []
   have:=(aV:wl ([]:List ByteArray)=0∧_)
   have:=aD.wt_mk eO [] x10 false [] (aG.mk 0 s_ s_ 0 (aA.mk 0 s_ []) [] [])
   have:=b8 (aD.mk eO [] x10 false [] (aG.mk 0 s_ s_ 0 (aA.mk 0 s_ []) [] []))
   have:fC.size=5:=rfl
   have:=b8 x2
   have:pW.size=1:=rfl
   have:=jT eK pW
   have:=a7 eK
   have:=a7 pW
   have:=aD.wt_mk fC ([x2]:List aA) x10 true ([eK,pW]:List ByteArray) x21
   have:=b8 (aD.mk fC ([x2]:List aA) x10 true ([eK,pW]:List ByteArray) x21)
   refine oG fun z12=>?_;refine Ok.sok (E:=fun v23=>wl v23≤10) ?_ ?_
   ·refine Ok.lt fun d24 h14=>?_;refine oC (fun g15=>?_) fun g15=>?_
    ·have:iE.size=3:=rfl
     have:=b8 iE
     have:=a7 iE
     exact oI
    exact oI
   intro v23 h13
   refine Ok.lt fun d28 h16=>?_;refine oC (fun g17=>?_) fun g17=>?_
   ·have:zL.size=1:=rfl
    have:=jT iS zL
    have:=a7 iS
    have:=a7 zL
    refine Ok.lt fun d31 h18=>Ok.lt fun y33 h19=>?_
    have:=congrArg wt h19
    simp only [a7] at this
    have:y33.size≤4:=by rw [h19];exact DS.pick_size _ (by decide) (by decide)
    refine oB (dX y33) fun x36 h20=>?_
    have:=DS.below_lt d3 (n:=3) (by decide)
    have:=aA.wt_mk 0 s_ ([])
    have:=aG.wt_mk 0 s_ s_ 0 (aA.mk 0 s_ ([])) ([]) ([])
    have:=aD.wt_mk eO ([]) x36 false ([]) (aG.mk 0 s_ s_ 0 (aA.mk 0 s_ ([])) ([]) ([]))
    have:=jT (aD.mk eO ([]) x36 false ([]) (aG.mk 0 s_ s_ 0 (aA.mk 0 s_ ([])) ([]) ([]))) (aD.mk fC ([x2]:List aA) x10 true ([eK,pW]:List ByteArray) x21)
    have:=aT.wt_mk y5 v23 false (decide (d3.below 3=0)) ([(aD.mk eO ([]) x36 false ([]) (aG.mk 0 s_ s_ 0 (aA.mk 0 s_ ([])) ([]) ([]))),(aD.mk fC ([x2]:List aA) x10 true ([eK,pW]:List ByteArray) x21)]:List aD)
    exact oS
   have:=DS.below_lt d3 (n:=3) (by decide)
   have:=aA.wt_mk 0 s_ ([])
   have:=aG.wt_mk 0 s_ s_ 0 (aA.mk 0 s_ ([])) ([]) ([])
   have:=aD.wt_mk eO ([]) x10 true ([]) (aG.mk 0 s_ s_ 0 (aA.mk 0 s_ ([])) ([]) ([]))
   have:=jT (aD.mk eO ([]) x10 true ([]) (aG.mk 0 s_ s_ 0 (aA.mk 0 s_ ([])) ([]) ([]))) (aD.mk fC ([x2]:List aA) x10 true ([eK,pW]:List ByteArray) x21)
   have:=aT.wt_mk y5 v23 false (decide (d3.below 3=0)) ([(aD.mk eO ([]) x10 true ([]) (aG.mk 0 s_ s_ 0 (aA.mk 0 s_ ([])) ([]) ([]))),(aD.mk fC ([x2]:List aA) x10 true ([eK,pW]:List ByteArray) x21)]:List aD)
   exact oS
  refine Ok.lt fun d37 h21=>?_;refine Ok.sok (E:=fun v40=>wl v40≤10) ?_ ?_
  ·refine Ok.lt fun d41 h23=>?_;refine oC (fun g24=>?_) fun g24=>?_
   ·have:iE.size=3:=rfl
    have:=b8 iE
    have:=a7 iE
    exact oI
   have:=(aV:wl ([]:List ByteArray)=0∧_)
   exact oI
  intro v40 h22
  refine Ok.lt fun d45 h25=>?_;refine oC (fun g26=>?_) fun g26=>?_
  ·have:zL.size=1:=rfl
   have:=jT iS zL
   have:=a7 iS
   have:=a7 zL
   refine Ok.lt fun d48 h27=>Ok.lt fun y50 h28=>?_
   have:=congrArg wt h28
   simp only [a7] at this
   have:y50.size≤4:=by rw [h28];exact DS.pick_size _ (by decide) (by decide)
   refine oB (dX y50) fun x53 h29=>?_
   have:=DS.below_lt d3 (n:=3) (by decide)
   have:eO.size=1:=rfl
   have:s_.size=0:=rfl
   have:=(aV:wl ([]:List aA)=0∧_)
   have:=aA.wt_mk 0 s_ []
   have:=(aV:wl ([]:List aG)=0∧_)
   have:=(aV:wl ([]:List bK)=0∧_)
   have:=aG.wt_mk 0 s_ s_ 0 (aA.mk 0 s_ []) [] []
   have:=(aV:wl ([]:List ByteArray)=0∧_)
   have:=aD.wt_mk eO [] x53 false [] (aG.mk 0 s_ s_ 0 (aA.mk 0 s_ []) [] [])
   have:=b8 (aD.mk eO [] x53 false [] (aG.mk 0 s_ s_ 0 (aA.mk 0 s_ []) [] []))
   have:=aT.wt_mk y5 v40 false (decide (d3.below 3=0)) ([(aD.mk eO [] x53 false [] (aG.mk 0 s_ s_ 0 (aA.mk 0 s_ []) [] []))]:List aD)
   exact oS
  have:=DS.below_lt d3 (n:=3) (by decide)
  have:eO.size=1:=rfl
  have:s_.size=0:=rfl
  have:=(aV:wl ([]:List aA)=0∧_)
  have:=aA.wt_mk 0 s_ []
  have:=(aV:wl ([]:List aG)=0∧_)
  have:=(aV:wl ([]:List bK)=0∧_)
  have:=aG.wt_mk 0 s_ s_ 0 (aA.mk 0 s_ []) [] []
  have:=(aV:wl ([]:List ByteArray)=0∧_)
  have:=aD.wt_mk eO [] x10 true [] (aG.mk 0 s_ s_ 0 (aA.mk 0 s_ []) [] [])
  have:=b8 (aD.mk eO [] x10 true [] (aG.mk 0 s_ s_ 0 (aA.mk 0 s_ []) [] []))
  have:=aT.wt_mk y5 v40 false (decide (d3.below 3=0)) ([(aD.mk eO [] x10 true [] (aG.mk 0 s_ s_ 0 (aA.mk 0 s_ []) [] []))]:List aD)
  exact oS
 refine Ok.sok (E:=fun v55=>wl v55≤1000∧0<v55.length) ?_ ?_
 ·refine Ok.lt fun d56 h31=>?_;refine oC (fun g32=>?_) fun g32=>?_
  ·have:eK.size=1:=rfl
   refine N6 (fD eK) fun x61 h33 h33B=>N6 (eY 1 bO) fun x63 h34 h34B=>?_
   have:yA.size=1:=rfl
   have:eO.size=1:=rfl
   have:s_.size=0:=rfl
   have:=(aV:wl ([]:List aA)=0∧_)
   have:=aA.wt_mk 0 s_ []
   have:=b8 x61
   have:=(aV:wl ([]:List bK)=0∧_)
   have:=aG.wt_mk 5 y5 eO 0 (aA.mk 0 s_ []) ([x61]:List aG) []
   have:=jT (aG.mk 5 y5 eO 0 (aA.mk 0 s_ []) ([x61]:List aG) []) x63
   refine oB (mH 10 yA ([(aG.mk 5 y5 eO 0 (aA.mk 0 s_ []) ([x61]:List aG) []),x63]:List aG) bO) fun x65 h35=>?_
   have:=(aV:wl ([]:List aG)=0∧_)
   have:=aG.wt_mk 0 s_ s_ 0 (aA.mk 0 s_ []) [] []
   have:=(aV:wl ([]:List ByteArray)=0∧_)
   have:=aD.wt_mk eO [] x10 false [] (aG.mk 0 s_ s_ 0 (aA.mk 0 s_ []) [] [])
   have:=b8 (aD.mk eO [] x10 false [] (aG.mk 0 s_ s_ 0 (aA.mk 0 s_ []) [] []))
   have:fC.size=5:=rfl
   have:=b8 x2
   have:pW.size=1:=rfl
   have:=jT eK pW
   have:=a7 eK
   have:=a7 pW
   have:=aD.wt_mk fC ([x2]:List aA) x10 true ([eK,pW]:List ByteArray) x65
   have:=b8 (aD.mk fC ([x2]:List aA) x10 true ([eK,pW]:List ByteArray) x65)
   refine oG fun z36=>?_
   have:=bV ([(aD.mk eO [] x10 false [] (aG.mk 0 s_ s_ 0 (aA.mk 0 s_ []) [] []))]:List aD) ([(aD.mk fC ([x2]:List aA) x10 true ([eK,pW]:List ByteArray) x65)]:List aD)
   exact oI
  have:eO.size=1:=rfl
  have:s_.size=0:=rfl
  have:=(aV:wl ([]:List aA)=0∧_)
  have:=aA.wt_mk 0 s_ []
  have:=(aV:wl ([]:List aG)=0∧_)
  have:=(aV:wl ([]:List bK)=0∧_)
  have:=aG.wt_mk 0 s_ s_ 0 (aA.mk 0 s_ []) [] []
  have:=(aV:wl ([]:List ByteArray)=0∧_)
  have:=aD.wt_mk eO [] x10 false [] (aG.mk 0 s_ s_ 0 (aA.mk 0 s_ []) [] [])
  have:=b8 (aD.mk eO [] x10 false [] (aG.mk 0 s_ s_ 0 (aA.mk 0 s_ []) [] []))
  exact oI
 intro v55 h30
 refine Ok.sok (E:=fun v67=>wl v67≤10) ?_ ?_
 ·refine Ok.lt fun d68 h38=>?_;refine oC (fun g39=>?_) fun g39=>?_
  ·have:iE.size=3:=rfl
   have:=b8 iE
   have:=a7 iE
   exact oI
  have:=(aV:wl ([]:List ByteArray)=0∧_)
  exact oI
 intro v67 h37
 refine Ok.lt fun d72 h40=>?_;refine oC (fun g41=>?_) fun g41=>?_
 ·have:=DS.below_lt d3 (n:=3) (by decide)
  have:=aT.wt_mk y5 v67 true (decide (d3.below 3=0)) v55
  exact oS
 refine oC (fun g42=>?_) fun g42=>?_
 ·have:s_.size=0:=rfl
  have:fW.size=3:=rfl
  have:s_A.size=1:=rfl
  have:=CR s_ fW s_A
  have:=a7 s_
  have:=a7 fW
  have:=a7 s_A
  refine Ok.lt fun d76 h43=>Ok.lt fun y78 h44=>?_
  have:=congrArg wt h44
  simp only [a7] at this
  have:y78.size≤3:=by rw [h44];exact DS.pick_size _ (by decide) (by decide)
  have:=DS.below_lt d3 (n:=3) (by decide)
  have:=aT.wt_mk y78 v67 false (decide (d3.below 3=0)) v55
  exact oS
 refine oC (fun g45=>?_) fun g45=>?_
 ·have:=aY (v67)
  have:iE.size=3:=rfl
  have:=b8 iE
  have:=a7 iE
  refine oG fun z46=>?_
  have:=bV v67 ([iE]:List ByteArray)
  have:=DS.below_lt d3 (n:=3) (by decide)
  have:=aT.wt_mk y5 (v67++([iE]:List ByteArray)) false (decide (d3.below 3=0)) v55
  exact oS
 refine oC (fun g47=>?_) fun g47=>?_
 ·have:=aY (v55)
  refine oG fun z48=>?_
  have:=cI v55 0 z48
  have:wl (List.take 1 v55)=wl (List.take 0 v55)+wt (aW v55 0)+1:=G4 v55 0 z48
  refine Ok.lt fun y84 h49=>?_
  have:=congrArg wt h49
  have:=b8 y84
  refine oG fun z50=>?_
  have:=DS.below_lt d3 (n:=3) (by decide)
  have:=bV v55 ([y84]:List aD)
  have:=aT.wt_mk y5 v67 false (decide (d3.below 3=0)) (v55++([y84]:List aD))
  exact oS
 have:=DS.below_lt d3 (n:=3) (by decide)
 have:=aT.wt_mk y5 v67 false (decide (d3.below 3=0)) v55
 exact oS
def adT(fu:Nat):Prop:= ∀(pc:DS),Ok (I8 fu pc) (fun r=>wt r.1≤10000)
theorem H3:bY adT:=((((bY.ge 2147483648).and dX).and dR).and k7).imp fun fu ⟨⟨⟨hfu,dX⟩,dR⟩,k7⟩ pc=>by
 have:=QO
 have:=ad4
 have:f7.size=1:=rfl
 refine oB (dX f7) fun x2 h1=>?_
 have:cH.size=4:=rfl
 have:=b8 x2
 refine oB (dR cH ([x2]:List aA) bO) fun x4 h2=>Ok.lt fun d5 h3=>?_;refine oC (fun g4=>?_) fun g4=>?_
 ·have:zL.size=1:=rfl
  have:=jT f7 zL
  have:=a7 f7
  have:=a7 zL
  refine Ok.lt fun d8 h5=>Ok.lt fun y10 h6=>?_
  have:=congrArg wt h6
  simp only [a7] at this
  have:y10.size≤1:=by rw [h6];exact DS.pick_size _ (by decide) (by decide)
  have:=b8 f7
  have:=b8 y10
  have:=a7 y10
  refine oG fun z7=>?_
  have:=bV ([f7]:List ByteArray) ([y10]:List ByteArray)
  have:fL.size=3:=rfl
  have:=(aV:wl ([]:List aA)=0∧_)
  have:=aC.wt_mk fL []
  have:cF.size=4:=rfl
  have:=jT x2 x4
  have:=aC.wt_mk cF ([x2,x4]:List aA)
  have:=jT (aC.mk fL []) (aC.mk cF ([x2,x4]:List aA))
  have:=aN.wt_mk cH (([f7]:List ByteArray)++([y10]:List ByteArray)) ([(aC.mk fL []),(aC.mk cF ([x2,x4]:List aA))]:List aC)
  exact oS
 refine oC (fun g8=>?_) fun g8=>?_
 ·refine Ok.lt fun d14 h9=>?_
  have:=DS.below_lt d5 (n:=2) (by decide)
  have:fL.size=3:=rfl
  have:=(aV:wl ([]:List aA)=0∧_)
  have:=aC.wt_mk fL []
  have:cF.size=4:=rfl
  have:=jT x2 x4
  have:=aC.wt_mk cF ([x2,x4]:List aA)
  have:=jT (aC.mk fL []) (aC.mk cF ([x2,x4]:List aA))
  refine oG fun z10=>?_
  have:=b8 f7
  have:=a7 f7
  have:=QA (0:Int).toNat (d5.below 2:Int).toNat ([(aC.mk fL []),(aC.mk cF ([x2,x4]:List aA))]:List aC)
  have:=aN.wt_mk cH ([f7]:List ByteArray) (List.drop (0:Int).toNat (List.take (d5.below 2:Int).toNat ([(aC.mk fL []),(aC.mk cF ([x2,x4]:List aA))]:List aC)))
  exact oS
 refine oC (fun g11=>?_) fun g11=>?_
 ·refine tR (k7 d5 2 bO) fun x19 x20 h12=>?_
  dsimp only at h12
  have:=b8 f7
  have:=a7 f7
  have:fL.size=3:=rfl
  have:=b8 x19
  have:=aC.wt_mk fL ([x19]:List aA)
  have:cF.size=4:=rfl
  have:=jT x2 x4
  have:=aC.wt_mk cF ([x2,x4]:List aA)
  have:=jT (aC.mk fL ([x19]:List aA)) (aC.mk cF ([x2,x4]:List aA))
  have:=aN.wt_mk cH ([f7]:List ByteArray) ([(aC.mk fL ([x19]:List aA)),(aC.mk cF ([x2,x4]:List aA))]:List aC)
  exact oS
 refine oC (fun g13=>?_) fun g13=>?_
 ·have:cF.size=4:=rfl
  have:s_.size=0:=rfl
  have:SG.size=3:=rfl
  have:=CR cF s_ SG
  have:=a7 cF
  have:=a7 s_
  have:=a7 SG
  refine Ok.lt fun d22 h14=>Ok.lt fun y24 h15=>?_
  have:=congrArg wt h15
  simp only [a7] at this
  have:y24.size≤4:=by rw [h15];exact DS.pick_size _ (by decide) (by decide)
  have:=b8 f7
  have:=a7 f7
  have:=(aV:wl ([]:List aA)=0∧_)
  have:=aC.wt_mk y24 []
  have:=jT x2 x4
  have:=aC.wt_mk cF ([x2,x4]:List aA)
  have:=jT (aC.mk y24 []) (aC.mk cF ([x2,x4]:List aA))
  have:=aN.wt_mk cH ([f7]:List ByteArray) ([(aC.mk y24 []),(aC.mk cF ([x2,x4]:List aA))]:List aC)
  exact oS
 have:=b8 f7
 have:=a7 f7
 have:fL.size=3:=rfl
 have:=(aV:wl ([]:List aA)=0∧_)
 have:=aC.wt_mk fL []
 have:cF.size=4:=rfl
 have:=jT x2 x4
 have:=aC.wt_mk cF ([x2,x4]:List aA)
 have:=jT (aC.mk fL []) (aC.mk cF ([x2,x4]:List aA))
 have:=aN.wt_mk cH ([f7]:List ByteArray) ([(aC.mk fL []),(aC.mk cF ([x2,x4]:List aA))]:List aC)
 exact oS
def ahV(fu:Nat):Prop:= ∀(pq0:DS),Ok (NF fu pq0) (fun r=>wt r.1≤12000000)
theorem MC:bY ahV:=(((((bY.ge 2147483648).and DL).and H3).and H4).and Q9).imp fun fu ⟨⟨⟨⟨hfu,DL⟩,H3⟩,H4⟩,Q9⟩ pq0=>by
 refine Ok.lt fun d1 h1=>?_
 have:=DS.below_lt pq0 (n:=5) (by decide)
 have:=(aV:wl ([]:List aT)=0∧_)
 have:=(aV:wl ([]:List aN)=0∧_)
 have:=(aV:wl ([]:List aH)=0∧_)
 have:=(aV:wl ([]:List aM)=0∧_)
 refine Ok.sok (E:=fun(v9,v10,v11,v12,v4)=>wl v9+wl v10+wl v11+wl v12≤10000005) ?_ ?_
 ·refine Ok.loop0 (fun i3 (v9,v10,v11,v12,v4)=>wl v9+wl v10+wl v11+wl v12≤2000001*i3∧i3≤5) (by exact bO) (by rintro i3 ⟨v9,v10,v11,v12,v4⟩-hI;(try dsimp only at hI ⊢);omega) ?_;rintro i3 ⟨v9,v10,v11,v12,v4⟩ hl3 hI4
  dsimp only at hI4
  refine Ok.lt fun d15 h5=>?_;refine oC (fun g6=>?_) fun g6=>?_
  ·refine tR (DL d15) fun x19 x20 h7=>?_
   dsimp only at h7
   have:=aY (v9)
   have:=b8 x19
   refine oG fun z8=>?_
   have:=bV v9 ([x19]:List aT)
   exact mP
  refine oC (fun g9=>?_) fun g9=>?_
  ·refine tR (H3 d15) fun x24 x25 h10=>?_
   dsimp only at h10
   have:=aY (v10)
   have:=b8 x24
   refine oG fun z11=>?_
   have:=bV v10 ([x24]:List aN)
   exact mP
  refine oC (fun g12=>?_) fun g12=>?_
  ·refine tR (H4 d15) fun x29 x30 h13=>?_
   dsimp only at h13
   have:=aY (v11)
   have:=b8 x29
   refine oG fun z14=>?_
   have:=bV v11 ([x29]:List aH)
   exact mP
  refine tR (Q9 d15) fun x33 x34 h15=>?_
  dsimp only at h15
  have:=aY (v12)
  have:=b8 x33
  refine oG fun z16=>?_
  have:=bV v12 ([x33]:List aM)
  exact mP
 rintro⟨v9,v10,v11,v12,v4⟩ h2
 dsimp only at h2
 refine Ok.lt fun d36 h17=>?_;refine oC (fun g18=>?_) fun g18=>?_
 ·have:s_.size=0:=rfl
  have:fV.size=4:=rfl
  have:=jT s_ fV
  have:=a7 s_
  have:=a7 fV
  refine Ok.lt fun d39 h19=>Ok.lt fun y41 h20=>?_
  have:=congrArg wt h20
  simp only [a7] at this
  have:y41.size≤4:=by rw [h20];exact DS.pick_size _ (by decide) (by decide)
  have:=b8 fV
  have:=aL.wt_mk y41 ([fV]:List ByteArray) v9 v10 v11 v12
  exact oS
 refine oC (fun g21=>?_) fun g21=>?_
 ·have:fV.size=4:=rfl
  have:s_q.size=1:=rfl
  have:s_p.size=1:=rfl
  have:=CR fV s_q s_p
  have:=a7 fV
  have:=a7 s_q
  have:=a7 s_p
  refine Ok.lt fun d44 h22=>Ok.lt fun y46 h23=>?_
  have:=congrArg wt h23
  simp only [a7] at this
  have:y46.size≤4:=by rw [h23];exact DS.pick_size _ (by decide) (by decide)
  have:=b8 fV
  have:=b8 y46
  have:=a7 y46
  refine oG fun z24=>?_
  have:=bV ([fV]:List ByteArray) ([y46]:List ByteArray)
  have:=aL.wt_mk s_p (([fV]:List ByteArray)++([y46]:List ByteArray)) v9 v10 v11 v12
  exact oS
 have:s_p.size=1:=rfl
 have:fV.size=4:=rfl
 have:=b8 fV
 have:=a7 fV
 have:=aL.wt_mk s_p ([fV]:List ByteArray) v9 v10 v11 v12
 exact oS
def Z0(fu:Nat):Prop:= ∀(pc:DS),Ok (uX fu pc) (fun r=>wt r.1≤13000000)
theorem NX:bY Z0:=(((bY.ge 2147483648).and H8).and MC).imp fun fu ⟨⟨hfu,H8⟩,MC⟩ pc=>by
 refine tR (H8 pc) fun x2 x3 h1=>?_
 dsimp only at h1
 refine Ok.lt fun d4 h2=>?_;refine oC (fun g3=>?_) fun g3=>?_
 ·refine tR (MC d4) fun x8 x9 h4=>?_
  dsimp only at h4
  have:=aI.wt_eq x2
  have:=aY (x2.gPackages)
  have:=b8 x8
  refine oG fun z5=>?_
  have:=bV x2.gPackages ([x8]:List aL)
  have:=aI.wt_mk (x2.gPackages++([x8]:List aL))
  exact oS
 have:=aI.wt_eq x2
 have:=aI.wt_mk x2.gPackages
 exact oS
end Go.Proofs.YtpioomclpaiomaaGreat.W

namespace Go.Proofs.YtpioomclpaiomaaGreat.W
set_option linter.unusedSimpArgs false
set_option linter.unusedVariables false
open Go.RowKit Go.WalkArith Go.Proofs
attribute [local irreducible] lt
theorem QB{x:Int}(h0: -1≤x)(h1:x<9223372036854775807):aR x=x:=by
 unfold aR IntKind.wrap
 simp [IntKind.bits,IntKind.signed]
 omega
section
variable {β γ σ:Type}
theorem tL{f:Nat→σ→Option (LR σ β)}{q:Nat→Option γ}(g:γ→β){s:σ}{n:Nat}(hs: ∀i,i<n→f i s=some (match q i with|some r=> .ret (g r)|none=> .next s)):
 ∀k j,n-j=k→loopN f k j s=some (match(List.range' j k).findSome? q with|some r=> .inl (g r)|none=> .inr s)
 |0,j,hk=>by rw [loopN];rfl
 |k+1,j,hk=>by
  rw [loopN,hs j (by omega),List.range'_succ,List.findSome?_cons]
  cases q j with
  |some r=>rfl
  |none=>exact tL g hs k (j+1) (by omega)
theorem RE{f:Int→Option (LR Int β)}{q:Nat→Option γ}(g:γ→β){n:Nat}(hs: ∀i:Nat,i<n→f (i:Int)=some (match q i with|some r=> .ret (g r)|none=> .next ((i+1:Nat):Int)))(he:f (n:Int)=some (.brk (n:Int))):
 ∀k j fu,n-j=k→j≤n→k<fu→loopW f fu (j:Int)=some (match(List.range' j k).findSome? q with|some r=> .inl (g r)|none=> .inr (n:Int))
 |0,j,fu,hk,hj,hf=>by
  obtain⟨m,rfl⟩: ∃m,fu=m+1:=⟨fu-1,by omega⟩
  obtain rfl:j=n:=by omega
  rw [loopW,he]
  rfl
 |k+1,j,fu,hk,hj,hf=>by
  obtain⟨m,rfl⟩: ∃m,fu=m+1:=⟨fu-1,by omega⟩
  rw [loopW,hs j (by omega),List.range'_succ,List.findSome?_cons]
  cases q j with
  |some r=>rfl
  |none=>exact RE g hs he k (j+1) m (by omega) (by omega) (by omega)
end
def tQ(w:aI)(s:ByteArray)(i:Nat):Option (aT×Int×Bool):=(List.range' 0 (aW w.gPackages i).gTraits.length).findSome? fun k=>if(aW (aW w.gPackages i).gTraits k).gName=s then some (aW (aW w.gPackages i).gTraits k,(i:Int),true) else none
def xV(w:aI)(s:ByteArray):aT×Int×Bool:=((List.range' 0 w.gPackages.length).findSome? (tQ w s)).getD (aT.mk s_ [] false false [],0,false)
theorem VH(fu:Nat)(w:aI)(s:ByteArray):AI fu w s=some (xV w s):=by
 have h:=tL (f:=L8 fu w s) (q:=tQ w s) (fun r=>r) (s:=()) (n:=w.gPackages.length) (fun i hi=>by
  have h2:=tL (f:=L9 fu w s i (aW w.gPackages i)) (q:=fun k=>if(aW (aW w.gPackages i).gTraits k).gName=s then some (aW (aW w.gPackages i).gTraits k,(i:Int),true) else none) (fun r=>LR.ret r) (s:=()) (n:=(aW w.gPackages i).gTraits.length) (fun k hk=>by
   unfold L9
   by_cases hs:(aW (aW w.gPackages i).gTraits k).gName=s
   ·rw [if_pos hs];exact uG (decide_eq_true hs) rfl
   ·rw [if_neg hs];exact oO (decide_eq_false hs) rfl) _ 0 rfl
  unfold L8 VG
  refine ltE rfl ?_
  rw [h2]
  unfold tQ
  cases(List.range' 0 (aW w.gPackages i).gTraits.length).findSome? _<;>rfl) _ 0 rfl
 unfold AI VF xV
 rw [h]
 cases(List.range' 0 w.gPackages.length).findSome? (tQ w s)<;>rfl
def aI.small(w:aI)(N:Nat):Prop:= ∀i,i<w.gPackages.length→(aW w.gPackages i).gTraits.length<N∧(aW w.gPackages i).gDataTypes.length<N∧(aW w.gPackages i).gInstances.length<N
theorem D0(fu:Nat)(w:aI)(s:ByteArray)(hw:aI.small w fu):qT fu w s=some (xV w s):=by
 have h:=tL (f:=xR fu w s) (q:=tQ w s) (fun r=>r) (s:=()) (n:=w.gPackages.length) (fun i hi=>by
  have h2:=RE (f:=s5 fu w s i) (q:=fun k=>if(aW (aW w.gPackages i).gTraits k).gName=s then some (aW (aW w.gPackages i).gTraits k,(i:Int),true) else none) (fun r=>LR.ret r) (n:=(aW w.gPackages i).gTraits.length) (fun k hk=>by
   unfold s5
   refine ltE rfl (uG (decide_eq_true (by omega)) (qX (by omega) ?_))
   rw [Int.toNat_natCast]
   by_cases hs:(aW (aW w.gPackages i).gTraits k).gName=s
   ·rw [if_pos hs];exact uG (decide_eq_true hs) rfl
   ·rw [if_neg hs];exact oO (decide_eq_false hs) rfl) (by
   unfold s5
   exact ltE rfl (oO (decide_eq_false (by omega)) rfl)) _ 0 fu rfl (Nat.zero_le _) (hw i hi).1
  unfold xR EE
  refine(congrArg (fun o=>so o _) h2).trans ?_
  unfold tQ
  simp only [Nat.sub_zero]
  cases(List.range' 0 (aW w.gPackages i).gTraits.length).findSome? _<;>rfl) _ 0 rfl
 unfold qT ED xV
 rw [h]
 cases(List.range' 0 w.gPackages.length).findSome? (tQ w s)<;>rfl
def GU(w:aI)(o:aO):Prop:= ∃i k:Nat,o=aO.mk (i:Int) (k:Int)∧i<w.gPackages.length∧k<(aW w.gPackages i).gInstances.length
def lT(w:aI)(o:aO):aH:=aW (aW w.gPackages o.gPackage.toNat).gInstances o.gAt.toNat
theorem akK(fu:Nat)(w:aI)(o:aO)(ho:GU w o):o5 fu w o=some (lT w o,true):=by
 obtain⟨i,k,rfl,hi,hk⟩:=ho
 unfold o5
 refine oO (decide_eq_false (by show ¬((i:Int)<0);omega)) (oO (decide_eq_false (by show ¬((i:Int)≥_);omega)) (oO (decide_eq_false (by show ¬((k:Int)<0);omega)) (qX (by show 0≤(i:Int)∧(i:Int).toNat<_;omega) (ltE rfl (oO (decide_eq_false (by show ¬((k:Int)≥((aW w.gPackages i).gInstances.length:Int));omega)) (qX (by show 0≤(k:Int)∧(k:Int).toNat<(aW w.gPackages i).gInstances.length;omega) (ltE rfl rfl)))))))
theorem aa6(fu:Nat)(w:aI)(o:aO)(ho:GU w o)(h1:w.gPackages.length≤13000000)(h2: ∀i,i<w.gPackages.length→(aW w.gPackages i).gInstances.length≤13000000):nH fu w o=some (lT w o,true):=by
 obtain⟨i,k,rfl,hi,hk⟩:=ho
 have h3:=h2 i hi
 have e1: ∀(x n:Nat),x<n→n≤13000000→lO fu (x:Int) 0 (aR ((n:Int)-1))=some true:=fun x n hx hn=>by
  unfold lO
  rw [QB (by omega) (by omega)]
  exact uG (decide_eq_true (by omega)) (by rw [decide_eq_true (by omega)])
 unfold nH
 rw [show lO fu (aO.mk (i:Int) (k:Int)).gPackage 0 (aR ((w.gPackages.length:Int)-1))=some true from e1 i _ hi h1]
 refine qX (by show 0≤(i:Int)∧(i:Int).toNat<_;omega) (ltE rfl ?_)
 rw [show lO fu (aO.mk (i:Int) (k:Int)).gAt 0 (aR (((aW w.gPackages (aO.mk (i:Int) (k:Int)).gPackage.toNat).gInstances.length:Int)-1))=some true from e1 k _ hk h3]
 exact qX (by show 0≤(k:Int)∧(k:Int).toNat<(aW w.gPackages i).gInstances.length;omega) (ltE rfl rfl)
section
variable {α β:Type}
theorem MI{F:Nat→List α→Option (LR (List α) β)}{n M:Nat}{g:Nat→α}(hs: ∀j v,j<n→v.length+1≤M→F j v=some (.next (v++ [g j]))):
 ∀k j (v:List α),n-j=k→v.length+k≤M→loopN F k j v=some (.inr (v++(List.range' j k).map g))
 |0,j,v,hk,_=>by rw [loopN];simp
 |k+1,j,v,hk,hl=>by
  rw [loopN,hs j v (by omega) (by omega)]
  have h:=MI hs k (j+1) (v++ [g j]) (by omega) (by rw [List.length_append];simp only [List.length_singleton];omega)
  rw [List.append_assoc] at h
  rw [List.range'_succ,List.map_cons]
  exact h
theorem IF{F:Nat→List α→Option (LR (List α) β)}{n M:Nat}{g:Nat→List α}(hs: ∀j v,j<n→v.length+(g j).length≤M→F j v=some (.next (v++g j))):
 ∀k j (v:List α),n-j=k→v.length+((List.range' j k).flatMap g).length≤M→loopN F k j v=some (.inr (v++(List.range' j k).flatMap g))
 |0,j,v,hk,_=>by rw [loopN];simp
 |k+1,j,v,hk,hl=>by
  rw [List.range'_succ,List.flatMap_cons,List.length_append] at hl
  rw [loopN,hs j v (by omega) (by omega)]
  have h:=IF hs k (j+1) (v++g j) (by omega) (by rw [List.length_append];omega)
  rw [List.range'_succ,List.flatMap_cons,← List.append_assoc]
  exact h
end
theorem aI.len_wt{w:aI}(hw:wt w≤13000000):w.gPackages.length≤13000000:=by
 have:=aI.wt_eq w
 have:=aY w.gPackages
 omega
theorem aI.len_at{w:aI}(hw:wt w≤13000000)(i:Nat)(hi:i<w.gPackages.length):(aW w.gPackages i).gTraits.length≤13000000∧(aW w.gPackages i).gDataTypes.length≤13000000∧(aW w.gPackages i).gInstances.length≤13000000:=by
 have:=aI.wt_eq w
 have:=cI w.gPackages i hi
 have:=aL.wt_eq (aW w.gPackages i)
 have:=aY (aW w.gPackages i).gTraits
 have:=aY (aW w.gPackages i).gDataTypes
 have:=aY (aW w.gPackages i).gInstances
 omega
theorem aI.small_wt{w:aI}{fu:Nat}(hw:wt w≤13000000)(hf:13000000<fu):aI.small w fu:=fun i hi=>by
 have:=aI.len_at hw i hi
 omega
end Go.Proofs.YtpioomclpaiomaaGreat.W

namespace Go.Proofs.YtpioomclpaiomaaGreat.W
set_option maxRecDepth 100000
set_option maxHeartbeats 40000000
noncomputable section
open Go.RowKit Go.Proofs
set_option linter.unusedSimpArgs false
set_option linter.unusedVariables false
attribute [local irreducible] lt
abbrev mU:=aA→aA→Option Bool
abbrev c6:=(List aA)→(List aA)→Option Bool
def sN(m:mU):Prop:= ∀(pa:aA) (pb:aA) (r:Bool),m pa pb=some r→b4 Tryz.prog 124 [(aA.pv pa),(aA.pv pb)] (pB r:PV)
def gI(m:c6):Prop:= ∀(ps1:List aA) (ps2:List aA) (r:Bool),m ps1 ps2=some r→b4 Tryz.prog 172 [a3 ps1,a3 ps2,.fn 124 []] (pB r:PV)
def BD(fu:Nat)(r_iEqualType:mU)(r_gEqualFunc_Type__iEqualType:c6)(pa pb:aA):Option Bool:=
 sw (decide (pa.gKind=pb.gKind))
 (sw (decide (pa.gName=pb.gName))
 (bd (r_gEqualFunc_Type__iEqualType pa.gArgs pb.gArgs) (fun x4=>
 some x4))
 (some false))
 (some false)
theorem OS(fu:Nat)(r_iEqualType:mU)(r_gEqualFunc_Type__iEqualType:c6)(h_iEqualType:sN r_iEqualType)(h_gEqualFunc_Type__iEqualType:gI r_gEqualFunc_Type__iEqualType):sN (BD fu r_iEqualType r_gEqualFunc_Type__iEqualType):=by
 intro pa pb r H
 have H:=eF H
 refine qI Tryz.func124 (fun C hC=>?_)
 refine qS (qR (q1 (jP (dU pa)) (q1 (jP (dU pb)) (q1 aE (qN (qS (qR (q1 (a6 iF) (q1 (bD jN) (q1 (a6 iF) (q1 (bD jN) (q1 eG (q1 aE ?_)))))))))))))
 refine dY 10 H (fun g1 H=>?_) fun g1 H=>?_
 ·refine qg g1 (a6 gR) (qg g1 (bD eE) (qg g1 (a6 gR) (qg g1 (bD eE) (qg g1 E6 (q1 (bS g1) (q1 aE ?_))))))
  refine dY 17 H (fun g2 H=>?_) fun g2 H=>?_
  ·refine qg g2 (a6 eZ) (qg g2 (bD kT) (qg g2 (a6 eZ) (qg g2 (bD kT) (bN H fun x4 z3 H=>(qg g2 (bG Tryz.func172 (h_gEqualFunc_Type__iEqualType pa.gArgs pb.gArgs _ z3)) (q1 (bS g2) (q1 aE (qN (aQ.ret ?_)))))))))
   cases aZ H
   exact bL
  iterate 5 refine qk g2 ?_
  refine q1 (b6 g2) (q1 aE (qN (aQ.ret ?_)))
  cases aZ H
  exact bL
 iterate 5 refine qk g1 ?_
 refine q1 (b6 g1) (q1 aE ?_)
 iterate 5 refine qk rfl ?_
 refine q1 (b6 rfl) (q1 aE (qN (aQ.ret ?_)))
 cases aZ H
 exact bL
def iL(fu:Nat)(r_iEqualType:mU)(r_gEqualFunc_Type__iEqualType:c6)(ps1 ps2:List aA):Nat→Unit→Option (LR Unit Bool):=
 fun i2 _=>gd (i2<(ps2).length)
 (bd (r_iEqualType (aW ps1 i2) (aW ps2 i2)) (fun x7=>
 sw (!(x7))
 (some (.ret false))
 (some (.next ()))))
def iM(fu:Nat)(r_iEqualType:mU)(r_gEqualFunc_Type__iEqualType:c6)(ps1 ps2:List aA):Option (Bool⊕Unit):=
 loopN (iL fu r_iEqualType r_gEqualFunc_Type__iEqualType ps1 ps2) (ps1.length-0) 0 ()
def gH(fu:Nat)(r_iEqualType:mU)(r_gEqualFunc_Type__iEqualType:c6)(ps1 ps2:List aA):Option Bool:=
 sw (!decide ((ps1.length:Int)=(ps2.length:Int)))
 (some false)
 (so (iM fu r_iEqualType r_gEqualFunc_Type__iEqualType ps1 ps2) (fun _=>
 some true))
theorem sM(fu:Nat)(r_iEqualType:mU)(r_gEqualFunc_Type__iEqualType:c6)(h_iEqualType:sN r_iEqualType)(h_gEqualFunc_Type__iEqualType:gI r_gEqualFunc_Type__iEqualType):gI (gH fu r_iEqualType r_gEqualFunc_Type__iEqualType):=by
 intro ps1 ps2 r H
 have H:=eF H
 refine qI Tryz.func172 (fun C hC=>?_)
 refine qS (qR (q1 aE (qN ?_)))
 iterate 2 refine qS ?_
 refine qR (q1 aE (q1 (eB c8 (aA.trs_len _)) (q1 aE (q1 (eB c8 (aA.trs_len _)) (q1 P5 (qN ?_))))))
 refine bA H (fun h1 H=>?_) (fun h1 H=>?_)
 ·refine qS (qR (q1 aE (qN (aQ.ret ?_))))
  cases aZ H
  exact bL
 refine aQ.skip ?_
 iterate 2 refine qS ?_
 refine qR (q1 aE (q1 (eB c8 (aA.trs_len _)) (q1 aE (qN ?_))))
 refine j8 0 (aA.trs_len _) (fun hl3=>?_)
 refine b9 (σ:=Unit) (fun i2 _=>⟨[(1,a3 ps2),(2,.fn 124 []),(6,pB false),(15,a3 ps1),(16,pN ps1.length),(17,pN i2)],⟨[],[]⟩⟩) (fun _=>⟨[(6,pB false)],⟨[],[]⟩⟩) (f8 H) ?_ ?_
 ·rintro i2 ⟨⟩ H
  refine qS (qR (q1 gP (qN (qS ?_))))
  refine dT H (fun h4 h4l H=>?_) (fun h4 H=>?_)
  ·have h4n:=a8 h4
   refine aQ.skip (qS (aQ.block (qS (qR (q1 aE (q1 (gV h4n c8) (q1 (jW (aA.cs (aW ps1 i2)) bZ) (q1 (gM eP) (q1 aE (q1 (bR eS) (qN (qS (qR ?_)))))))))))))
   iterate 2 refine q1 aE ?_
   refine cX H fun z5 H=>(q1 (gV z5 c8) (q1 (jW (aA.cs (aW ps2 i2)) bZ) (q1 (gM eP) (q1 (bR eS) (qN (qS (qR (q1 aE (q1 (cU [pI ((aW ps1 i2).gKind),pS ((aW ps1 i2).gName),a3 ((aW ps1 i2).gArgs)] bZ) (q1 (cU [pI ((aW ps2 i2).gKind),pS ((aW ps2 i2).gName),a3 ((aW ps2 i2).gArgs)] bZ) (bN H fun x7 z6 H=>(q1 (rCv Tryz.func124 (h_iEqualType (aW ps1 i2) (aW ps2 i2) _ z6)) (q1 gW ?_)))))))))))))
   refine qN ?_;refine bA H (fun h8 H=>?_) (fun h8 H=>?_)
   ·refine qS (qR (q1 aE (qN (aQ.ret ?_))))
    obtain rfl:_=r:=(p8 (aZ H):)
    exact bL
   refine aQ.skip (qR (q1 (aX.addI rfl rfl rfl rfl (c:=((i2+1:Nat):Int)) (by omega) (by omega)) (q1 aE (qN ?_))))
   exact iK h4l ⟨_,(aZ H:),b0⟩
  refine aQ.exit ?_;exact j0 ⟨_,H,b0⟩
 rintro⟨⟩ H
 refine qS (qR (q1 aE (qN (aQ.ret ?_))))
 cases aZ H
 exact bL
mutual
def gA:Nat→aA→aA→Option Bool
 |0,_,_=>none
 |fu+1,pa,pb=>BD fu (gA fu) (bW fu) pa pb
def bW:Nat→(List aA)→(List aA)→Option Bool
 |0,_,_=>none
 |fu+1,ps1,ps2=>gH fu (gA fu) (bW fu) ps1 ps2
end
theorem QX(fu:Nat):sN (gA fu)∧gI (bW fu):=by
 induction fu with
 |zero=>exact⟨(fun pa pb r H=>by simp only [gA] at H;cases H),(fun ps1 ps2 r H=>by simp only [bW] at H;cases H)⟩
 |succ fu ih=>exact⟨(fun pa pb r H=>by simp only [gA] at H;exact OS fu (gA fu) (bW fu) ih.1 ih.2 pa pb r H),(fun ps1 ps2 r H=>by simp only [bW] at H;exact sM fu (gA fu) (bW fu) ih.1 ih.2 ps1 ps2 r H)⟩
theorem TT(fu:Nat):sN (gA fu):=(QX fu).1
abbrev o4:=aA→Option aA
abbrev mV:=(List aA)→Option ((List aA))
def uM(m:o4):Prop:= ∀(pt:aA) (r:aA),m pt=some r→b4 Tryz.prog 57 [(aA.pv pt)] ((aA.pv r):PV)
def wG(m:mV):Prop:= ∀(pl:List aA) (r:(List aA)),m pl=some r→b4 Tryz.prog 119 [a3 pl] (a3 r:PV)
def DI(fu:Nat)(r_icopyType:o4)(r_icopyTypes:mV)(pt:aA):Option aA:=
 bd (r_icopyTypes pt.gArgs) (fun x2=>
 some (aA.mk pt.gKind pt.gName x2))
theorem Q5(fu:Nat)(r_icopyType:o4)(r_icopyTypes:mV)(h_icopyType:uM r_icopyType)(h_icopyTypes:wG r_icopyTypes):uM (DI fu r_icopyType r_icopyTypes):=by
 intro pt r H
 have H:=eF H
 refine qI Tryz.func57 (fun C hC=>?_)
 refine qS (qR (q1 (jP (dU pt)) (q1 (gM eP) (qN (qS (qR (q1 (a6 eZ) (q1 (bD kT) (bN H fun x2 z1 H=>(q1 (bG Tryz.func119 (h_icopyTypes pt.gArgs _ z1)) (q1 (a6 eZ) (q1 (bR ao5) (qN ?_)))))))))))))
 refine qS (qR (q1 (cU [pI pt.gKind,pS pt.gName,a3 x2] bZ) (q1 (bR eS) (qN (aQ.ret ?_)))))
 cases aZ H
 exact bL (hr:=⟨⟨_,_,_,rfl,rfl,bZ,rfl,rfl⟩,trivial⟩)
def GT(fu:Nat)(r_icopyType:o4)(r_icopyTypes:mV)(pl:List aA):Nat→((List aA))→Option (LR ((List aA)) ((List aA))):=
 fun i2 v3=>bd (r_icopyType (aW pl i2)) (fun x7=>
 gd (i2=(v3).length)
 (some (.next (v3++([x7]:List aA)))))
def zC(fu:Nat)(r_icopyType:o4)(r_icopyTypes:mV)(pl:List aA):Option (((List aA))⊕((List aA))):=
 loopN (GT fu r_icopyType r_icopyTypes pl) (pl.length-0) 0 ([])
def BE(fu:Nat)(r_icopyType:o4)(r_icopyTypes:mV)(pl:List aA):Option ((List aA)):=
 gd (pl.length≤68719476736)
 (so (zC fu r_icopyType r_icopyTypes pl) (fun v3=>
 gd ((v3).length=pl.length)
 (some v3)))
theorem OT(fu:Nat)(r_icopyType:o4)(r_icopyTypes:mV)(h_icopyType:uM r_icopyType)(h_icopyTypes:wG r_icopyTypes):wG (BE fu r_icopyType r_icopyTypes):=by
 intro pl r H
 have H:=eF H
 refine qI Tryz.func119 (fun C hC=>?_)
 refine qS (qR (q1 aE (qN (qS (qR (q1 aE (q1 (eB c8 (aA.trs_len _)) (cX H fun z1 H=>(q1 (aX.makeSlice (N:=pl.length) rfl rfl rfl rfl c8 agY (by decide) (Nat.le_trans (Nat.mul_le_mul_left _ z1) (by decide)) (Nat.le_trans z1 (by decide))) (q1 aE (qN ?_)))))))))))
 iterate 2 refine qS ?_
 refine qR (q1 aE (q1 (eB c8 (aA.trs_len _)) (q1 aE (qN ?_))))
 refine j8 0 (aA.trs_len _) (fun hl4=>?_)
 refine b9 (σ:=(List aA)) (fun i2 v3=>⟨[(2,.nil),(3,.full 3 (pl.length) 0),(9,a3 pl),(10,pN pl.length),(11,pN i2)],⟨[],[⟨35,3,aA.trs (v3),true⟩]⟩⟩) (fun v3=>⟨[(2,.nil),(3,.full 3 (pl.length) 0)],⟨[],[⟨35,3,aA.trs (v3),true⟩]⟩⟩) (f8 H) ?_ ?_
 ·rintro i2 v3 H
  refine qS (qR (q1 gP (qN (qS ?_))))
  refine dT H (fun h5 h5l H=>?_) (fun h5 H=>?_)
  ·have h5n:=a8 h5
   refine aQ.skip (qS (aQ.block (qS (qR (q1 aE (q1 (gV h5n c8) (q1 (jW (aA.cs (aW pl i2)) bZ) (q1 (gM eP) (q1 aE (q1 (bR eS) (qN (qR ?_))))))))))))
   iterate 2 refine q1 aE ?_
   refine q1 (cU [pI ((aW pl i2).gKind),pS ((aW pl i2).gName),a3 ((aW pl i2).gArgs)] bZ) (bN H fun x7 z6 H=>(q1 (bG Tryz.func57 (h_icopyType (aW pl i2) _ z6)) (q1 (aX.indexFull (k:=i2) rfl rfl rfl rfl h5n c8) (cX H fun z8 H=>?_))))
   refine q1 (aX.storeRptr (e:=aA.cs x7) (es2:=aA.trs (v3++([x7]:List aA))) 16 rfl rfl rfl rfl rfl rfl kP rfl rfl eS (by rw [aA.trs_len];exact z8) h5n (by rw [aA.trs_map,aA.trs_map,List.map_append];simp [aA.tr_cs])) ?_;refine qN (qR (q1 (aX.addI rfl rfl rfl rfl (c:=((i2+1:Nat):Int)) (by omega) (by omega)) (q1 aE (qN ?_))))
   exact iK h5l ⟨_,(aZ H:),b0⟩
  refine aQ.exit ?_;exact j0 ⟨_,H,b0⟩
 rintro v3 H
 refine qS (qR (q1 aE (cX H fun z9 H=>?_)))
 refine AL.weak (Wk.full (i:=22) rfl rfl (by rw [aA.trs_len];exact z9)) ?_;refine q1 aE (qN (aQ.ret ?_))
 cases aZ H
 exact bL
mutual
def iC:Nat→aA→Option aA
 |0,_=>none
 |fu+1,pt=>DI fu (iC fu) (iY fu) pt
def iY:Nat→(List aA)→Option ((List aA))
 |0,_=>none
 |fu+1,pl=>BE fu (iC fu) (iY fu) pl
end
theorem TU(fu:Nat):uM (iC fu)∧wG (iY fu):=by
 induction fu with
 |zero=>exact⟨(fun pt r H=>by simp only [iC] at H;cases H),(fun pl r H=>by simp only [iY] at H;cases H)⟩
 |succ fu ih=>exact⟨(fun pt r H=>by simp only [iC] at H;exact Q5 fu (iC fu) (iY fu) ih.1 ih.2 pt r H),(fun pl r H=>by simp only [iY] at H;exact OT fu (iC fu) (iY fu) ih.1 ih.2 pl r H)⟩
theorem W3(fu:Nat):uM (iC fu):=(TU fu).1
end
end Go.Proofs.YtpioomclpaiomaaGreat.W

namespace Go.Proofs.YtpioomclpaiomaaGreat
open Go.RowKit Go.Proofs
end Go.Proofs.YtpioomclpaiomaaGreat

namespace Go.Proofs.YtpioomclpaiomaaGreat
end Go.Proofs.YtpioomclpaiomaaGreat

namespace Go.Proofs.YtpioomclpaiomaaGreat
open Go.RowKit Go.Proofs
end Go.Proofs.YtpioomclpaiomaaGreat

namespace Go.Proofs.YtpioomclpaiomaaGreat
open Go.RowKit Go.Proofs
theorem w7(a:ByteArray):(a==a)=true:=by
 obtain⟨x⟩:=a
 show(x==x)=true
 simp
theorem A7{a b:ByteArray}(h: ¬a=b):(a==b)=false:=by
 obtain⟨x⟩:=a
 obtain⟨y⟩:=b
 show(x==y)=false
 simp only [beq_eq_false_iff_ne,ne_eq]
 rintro rfl
 exact h rfl
mutual
def aA.eq:aA→aA→Bool
 | .mk k n xs,.mk l m ys=>k==l&&(n==m&&aA.eqs xs ys)
def aA.eqs:List aA→List aA→Bool
 | [],[]=>true
 |a::l,b::r=>aA.eq a b&&aA.eqs l r
 |_,_=>false
end
def aF.eq:aF→aF→Bool
 | .mk n x,.mk m y=>n==m&&aA.eq x y
end Go.Proofs.YtpioomclpaiomaaGreat

namespace Go.Proofs.YtpioomclpaiomaaGreat.W
set_option linter.unusedSimpArgs false
set_option linter.unusedVariables false
open Go.RowKit Go.Proofs
theorem VA{n i:Nat}(h:i<n):aW (List.range n) i=i:=by rw [jF (by simpa using h)];simp
theorem WL: ∀ {l r:List aA},aA.eqs l r=true→l.length=r.length
 | [],[],_=>rfl
 | [],_::_,h=>by simp [aA.eqs] at h
 |_::_,[],h=>by simp [aA.eqs] at h
 |a::l,b::r,h=>by
  simp only [aA.eqs,Bool.and_eq_true] at h
  simp [WL h.2]
theorem LU: ∀ {l r:List aA},l.length=r.length→aA.eqs l r=(List.range l.length).all fun i=>aA.eq (aW l i) (aW r i)
 | [],[],_=>rfl
 | [],_::_,h=>by simp at h
 |_::_,[],h=>by simp at h
 |a::l,b::r,h=>by
  rw [aA.eqs,List.length_cons,List.range_succ_eq_map,List.all_cons,List.all_map,LU (l:=l) (r:=r) (by simpa using h)]
  rfl
theorem agK{xs ys:List aA}(h: ∀i,i<xs.length→i<ys.length→bY fun fu=>e8 fu (aW xs i) (aW ys i)=some (aA.eq (aW xs i) (aW ys i))):bY fun fu=>jR fu xs ys=some (aA.eqs xs ys):=by
 refine bY.succ ?_
 by_cases hl:xs.length=ys.length
 ·refine(bY.below (k:=xs.length) fun i hi=>h i hi (by omega)).imp fun fu hf=>?_
  simp only [jR,AW]
  have hd:(!decide ((((xs.length:Nat):Int):Int)=((ys.length:Nat):Int)))=false:=by simp [hl]
  rw [hd]
  have hr: ∀fu',∀(r1:aA→aA→Option Bool),(∀i,i<xs.length→r1 (aW xs i) (aW ys i)=some (aA.eq (aW xs i) (aW ys i)))→JG fu' r1 (jR fu) xs ys=some (if(List.range xs.length).all (fun i=>aA.eq (aW xs i) (aW ys i)) then .inr () else .inl false):=by
   intro fu' r1 h1
   unfold JG
   have:=N2 (l:=List.range xs.length) (f:=JF fu' r1 (jR fu) xs ys) (p:=fun i=>aA.eq (aW xs i) (aW ys i)) (r:=false) (s:=()) fun i hi=>by
    have hi':i<xs.length:=by simpa using hi
    rw [VA hi',JF]
    rw [qX (by omega) rfl,zR (h1 i hi') rfl]
    cases aA.eq (aW xs i) (aW ys i)<;>rfl
   rwa [List.length_range] at this
  rw [hr fu _ hf,LU hl]
  cases(List.range xs.length).all fun i=>aA.eq (aW xs i) (aW ys i)<;>rfl
 ·refine .all fun fu=>?_
  simp only [jR,AW]
  have hd:(!decide ((((xs.length:Nat):Int):Int)=((ys.length:Nat):Int)))=true:=by simp;omega
  rw [hd]
  cases hq:aA.eqs xs ys
  ·rfl
  ·exact absurd (WL hq) hl
theorem T8: ∀a b:aA,bY fun fu=>e8 fu a b=some (aA.eq a b):=by
 refine aA.ind fun k n xs ih=>?_;rintro⟨l,m,ys⟩
 refine bY.succ ((agK (xs:=xs) (ys:=ys) fun i hi hj=>ih _ (iX hi) _).imp fun fu hf=>?_)
 simp only [e8,wK,aA.gKind_mk,aA.gName_mk,aA.gArgs_mk,hf,aA.eq]
 by_cases h1:k=l
 ·subst h1
  by_cases h2:n=m
  ·subst h2
   simp [sw,bd,w7]
  ·simp [sw,h2,A7]
 ·have:(k==l)=false:=by simpa using h1
  simp [sw,h1,this]
theorem lY(a b:aA):b4 Tryz.prog 16 [(aA.pv a),(aA.pv b)] (.t (.leaf (.bool (aA.eq a b)))):=by
 obtain⟨fu,h⟩:=(T8 a b).get
 exact GW fu a b _ h
theorem TQ{xs ys:List aA}(h: ∀i,i<xs.length→i<ys.length→bY fun fu=>gA fu (aW xs i) (aW ys i)=some (aA.eq (aW xs i) (aW ys i))):bY fun fu=>bW fu xs ys=some (aA.eqs xs ys):=by
 refine bY.succ ?_
 by_cases hl:xs.length=ys.length
 ·refine(bY.below (k:=xs.length) fun i hi=>h i hi (by omega)).imp fun fu hf=>?_
  simp only [bW,gH]
  have hd:(!decide ((((xs.length:Nat):Int):Int)=((ys.length:Nat):Int)))=false:=by simp [hl]
  rw [hd]
  have hr:iM fu (gA fu) (bW fu) xs ys=some (if(List.range xs.length).all (fun i=>aA.eq (aW xs i) (aW ys i)) then .inr () else .inl false):=by
   unfold iM
   have:=N2 (l:=List.range xs.length) (f:=iL fu (gA fu) (bW fu) xs ys) (p:=fun i=>aA.eq (aW xs i) (aW ys i)) (r:=false) (s:=()) fun i hi=>by
    have hi':i<xs.length:=by simpa using hi
    rw [VA hi',iL]
    rw [qX (by omega) rfl,zR (hf i hi') rfl]
    cases aA.eq (aW xs i) (aW ys i)<;>rfl
   rwa [List.length_range] at this
  rw [hr,LU hl]
  cases(List.range xs.length).all fun i=>aA.eq (aW xs i) (aW ys i)<;>rfl
 ·refine .all fun fu=>?_
  simp only [bW,gH]
  have hd:(!decide ((((xs.length:Nat):Int):Int)=((ys.length:Nat):Int)))=true:=by simp;omega
  rw [hd]
  cases hq:aA.eqs xs ys
  ·rfl
  ·exact absurd (WL hq) hl
theorem TS: ∀a b:aA,bY fun fu=>gA fu a b=some (aA.eq a b):=by
 refine aA.ind fun k n xs ih=>?_;rintro⟨l,m,ys⟩
 refine bY.succ ((TQ (xs:=xs) (ys:=ys) fun i hi hj=>ih _ (iX hi) _).imp fun fu hf=>?_)
 simp only [gA,BD,aA.gKind_mk,aA.gName_mk,aA.gArgs_mk,hf,aA.eq]
 by_cases h1:k=l
 ·subst h1
  by_cases h2:n=m
  ·subst h2
   simp [sw,bd,w7]
  ·simp [sw,h2,A7]
 ·have:(k==l)=false:=by simpa using h1
  simp [sw,h1,this]
theorem GS(a b:aA):b4 Tryz.prog 124 [(aA.pv a),(aA.pv b)] (.t (.leaf (.bool (aA.eq a b)))):=by
 obtain⟨fu,h⟩:=(TS a b).get
 exact TT fu a b _ h
theorem QS{α:Type}: ∀(l a:List α),l.foldl (fun s x=>s++ [x]) a=a++l
 | [],a=>by simp
 |x::l,a=>by rw [List.foldl_cons,QS l];simp
theorem C6{xs:List aA}: ∀ {x:aA},x∈xs→Tr.bulkL x.tr≤Tr.bulkAll (aA.trs xs):=by
 induction xs with
 |nil=>intro x hx;simp at hx
 |cons a l ih=>
  intro x hx
  simp only [aA.trs,Tr.bulkAll]
  rcases List.mem_cons.1 hx with rfl|hx
  ·omega
  ·have:=ih hx;omega
theorem wQ(k:Int)(n:ByteArray)(xs:List aA):xs.length+Tr.bulkAll (aA.trs xs)≤Tr.bulkL (aA.mk k n xs).tr:=by
 simp only [aA.tr,Tr.bulkL_append,Tr.bulkL,Tr.bulk,aA.trs_len]
 omega
theorem Y7{xs:List aA}(hb:xs.length≤68719476735)(h: ∀x∈xs,bY fun fu=>fF fu x=some x):bY fun fu=>eX fu xs=some xs:=by
 refine bY.succ ((bY.list h).imp fun fu hf=>?_)
 simp only [eX,u0,B8]
 rw [yK (l:=xs) (g:=fun s x=>s++ [x]) (fun i s=>s.length=i) (fun i s hi hp=>⟨?_,by simp [hp]⟩) rfl,QS]
 ·rfl
 ·rw [B7,zR (hf _ (iX hi)) rfl,qX (by simp;omega) rfl]
theorem af8: ∀t:aA,Tr.bulkL t.tr≤68719476735→bY fun fu=>fF fu t=some t:=by
 refine aA.ind fun k n xs ih hb=>?_
 have h1:=wQ k n xs
 refine bY.succ ((Y7 (xs:=xs) (by omega) fun x hx=>ih x hx (by have:=C6 hx;omega)).imp fun fu hf=>?_)
 simp only [fF,AT,aA.gKind_mk,aA.gName_mk,aA.gArgs_mk,hf,bd]
theorem B9(t:aA)(hb:Tr.bulkL t.tr≤68719476735):b4 Tryz.prog 60 [(aA.pv t)] (aA.pv t):=by
 obtain⟨fu,h⟩:=(af8 t hb).get
 exact xT fu t _ h
theorem IE{α β:Type}[Inhabited α]{f:Nat→List α→Option (LR (List α) β)}{l:List α}{g:α→α}(hs: ∀i s,i<l.length→s.length=i→f i s=some (.next (s++ [g (aW l i)]))):loopN f (l.length-0) 0 []=some (.inr (l.map g)):=by
 rw [yK (l:=l) (g:=fun s x=>s++ [g x]) (fun i s=>s.length=i) (fun i s hi hp=>⟨hs i s hi hp,by simp [hp]⟩) rfl]
 have key: ∀(l a:List α),l.foldl (fun s x=>s++ [g x]) a=a++l.map g:=by
  intro l
  induction l with
  |nil=>intro a;simp
  |cons x l ih=>intro a;rw [List.foldl_cons,ih];simp
 rw [key,List.nil_append]
theorem TV{xs:List aA}(hb:xs.length≤68719476735)(h: ∀x∈xs,bY fun fu=>iC fu x=some x):bY fun fu=>iY fu xs=some xs:=by
 refine bY.succ ((bY.list h).imp fun fu hf=>?_)
 simp only [iY,BE]
 rw [qX (by omega) rfl]
 have hR:zC fu (iC fu) (iY fu) xs=some (.inr xs):=by
  unfold zC
  rw [IE (l:=xs) (g:=id) fun i s hi hp=>?_,List.map_id]
  rw [GT,zR (hf _ (iX hi)) rfl,qX (by omega) rfl]
  rfl
 rw [soR hR rfl,qX rfl rfl]
theorem W2: ∀t:aA,Tr.bulkL t.tr≤68719476735→bY fun fu=>iC fu t=some t:=by
 refine aA.ind fun k n xs ih hb=>?_
 have h1:=wQ k n xs
 refine bY.succ ((TV (xs:=xs) (by omega) fun x hx=>ih x hx (by have:=C6 hx;omega)).imp fun fu hf=>?_)
 simp only [iC,DI,aA.gKind_mk,aA.gName_mk,aA.gArgs_mk,hf,bd]
theorem wF(t:aA)(hb:Tr.bulkL t.tr≤68719476735):b4 Tryz.prog 57 [(aA.pv t)] (aA.pv t):=by
 obtain⟨fu,h⟩:=(W2 t hb).get
 exact W3 fu t _ h
end Go.Proofs.YtpioomclpaiomaaGreat.W

namespace Go.Proofs.YtpioomclpaiomaaGreat.W
set_option maxRecDepth 100000
set_option maxHeartbeats 40000000
noncomputable section
open Go.RowKit Go.Proofs
set_option linter.unusedSimpArgs false
set_option linter.unusedVariables false
attribute [local irreducible] lt
def aiW(m:(List aK)→ByteArray→Option (aA×Bool)):Prop:= ∀(plist:List aK) (pv:ByteArray) (r:aA×Bool),m plist pv=some r→b4 Tryz.prog 133 [jG plist,pS pv] (.tup [(aA.pv r.1),pB r.2]:PV)
def R5(fu:Nat)(plist:List aK)(pv:ByteArray):Nat→Unit→Option (LR Unit (aA×Bool)):=
 fun i1 _=>sw (decide ((aW plist i1).gVar=pv))
 (gd (Tr.bulkL (aA.tr ((aW plist i1).gType))≤68719476735)
 (some (.ret (((aW plist i1).gType),true))))
 (some (.next ()))
def R6(fu:Nat)(plist:List aK)(pv:ByteArray):Option ((aA×Bool)⊕Unit):=
 loopN (R5 fu plist pv) (plist.length-0) 0 ()
def E7(fu:Nat)(plist:List aK)(pv:ByteArray):Option (aA×Bool):=
 so (R6 fu plist pv) (fun _=>
 some ((aA.mk 0 s_ []),false))
theorem R8(fu:Nat):aiW (E7 fu):=by
 intro plist pv r H
 have H:=eF H
 refine qI Tryz.func133 (fun C hC=>?_)
 refine qS (qR (q1 (gM eP) (q1 aE (qN ?_))))
 iterate 2 refine qS ?_
 refine qR (q1 aE (qN ?_))
 refine j8 0 (aK.trs_len _) (fun hl2=>?_)
 refine b9 (σ:=Unit) (fun i1 _=>⟨[(0,jG plist),(1,pS pv),(4,.ptr 0 0),(5,pB false),(6,pN i1)],⟨[some ⟨35,[pI 0,pS s_,.nil]⟩],[]⟩⟩) (fun _=>⟨[(4,.ptr 0 0),(5,pB false)],⟨[some ⟨35,[pI 0,pS s_,.nil]⟩],[]⟩⟩) (f8 H) ?_ ?_
 ·rintro i1 ⟨⟩ H
  iterate 2 refine qS ?_
  refine qR ?_
  iterate 2 refine q1 aE ?_
  refine q1 (eB OM (aK.trs_len _)) (q1 gP (qN ?_))
  refine dT H (fun h3 h3l H=>?_) (fun h3 H=>?_)
  ·have h3n:=a8 h3
   refine aQ.skip (qS (aQ.block (qS (qR ?_))))
   iterate 2 refine q1 aE ?_
   refine q1 (gV h3n OM) (q1 (nK ag5) (q1 (mC eE) (q1 aE (q1 E6 (qN ?_)))))
   refine bA H (fun h4 H=>?_) (fun h4 H=>?_)
   ·refine qS (qR ?_)
    iterate 2 refine q1 aE ?_
    refine q1 (gV h3n OM) (q1 (nK ag6) (q1 (jW (aA.cs ((aW plist i1).gType)) bZ) (cX H fun z5 H=>(q1 (bG Tryz.func60 (B9 ((aW plist i1).gType) z5)) (q1 (bR eS) (q1 aE (qN (aQ.ret ?_))))))))
    obtain rfl:_=r:=(p8 (aZ H):)
    exact jM (hr:=⟨⟨_,_,_,rfl,rfl,bZ,rfl,rfl⟩,rfl,trivial⟩)
   refine aQ.skip (qR (q1 aE (q1 (aX.addI rfl rfl rfl rfl (c:=((i1+1:Nat):Int)) (by omega) (by omega)) (q1 aE (qN ?_)))))
   exact iK h3l ⟨_,(aZ H:),b0⟩
  refine aQ.exit ?_;exact j0 ⟨_,H,b0⟩
 rintro⟨⟩ H
 refine qS (qR (q1 (eU eP sF) (q1 (bR eS) (q1 aE (qN (aQ.ret ?_))))))
 cases aZ H
 exact jM (hr:=⟨⟨_,_,_,rfl,rfl,bZ,rfl,rfl⟩,rfl,trivial⟩)
abbrev xU:=(List aA)→(List aA)→(List aK)→Option ((List aK)×Bool×(List aK))
abbrev rW:=aA→aA→(List aK)→Option ((List aK)×Bool×(List aK))
def EI(m:xU):Prop:= ∀(pp:List aA) (pall:List aA) (plist:List aK) (r:(List aK)×Bool×(List aK)),m pp pall plist=some r→cP Tryz.prog 135 [a3 pp,a3 pall,uL plist 0] ⟨[],[⟨171,4,aK.trs (plist),false⟩]⟩ (fun q t=>q=(.tup [(bif r.2.1 then .acc 4 (aK.trs (r.1)) 0 else .t (.row 4 (aK.trs (r.1)))),pB r.2.1]:PV)∧t=⟨[],[⟨171,4,aK.trs (r.2.2),false⟩]⟩)
def CB(m:rW):Prop:= ∀(pp:aA) (pt:aA) (plist:List aK) (r:(List aK)×Bool×(List aK)),m pp pt plist=some r→cP Tryz.prog 175 [(aA.pv pp),(aA.pv pt),uL plist 0] ⟨[],[⟨171,4,aK.trs (plist),false⟩]⟩ (fun q t=>q=(.tup [(bif r.2.1 then .acc 4 (aK.trs (r.1)) 0 else .t (.row 4 (aK.trs (r.1)))),pB r.2.1]:PV)∧t=⟨[],[⟨171,4,aK.trs (r.2.2),false⟩]⟩)
def NN(fu:Nat)(r_sl7All:xU)(r_sl7Match:rW)(pp pall:List aA)(plist:List aK):Nat→((List aK))→Option (LR ((List aK)) ((List aK)×Bool×(List aK))):=
 fun i1 v3=>gd (i1<(pall).length)
 (bd (r_sl7Match (aW pp i1) (aW pall i1) v3) (fun(x8,x9,x10)=>
 sw (x9)
 (gd (x8=x10)
 (some (.next x8)))
 (some (.ret (v3,false,x10)))))
def VY(fu:Nat)(r_sl7All:xU)(r_sl7Match:rW)(pp pall:List aA)(plist:List aK):Option (((List aK)×Bool×(List aK))⊕((List aK))):=
 loopN (NN fu r_sl7All r_sl7Match pp pall plist) (pp.length-0) 0 plist
def S7(fu:Nat)(r_sl7All:xU)(r_sl7Match:rW)(pp pall:List aA)(plist:List aK):Option ((List aK)×Bool×(List aK)):=
 so (VY fu r_sl7All r_sl7Match pp pall plist) (fun v3=>
 some (v3,true,v3))
theorem adD(fu:Nat)(r_sl7All:xU)(r_sl7Match:rW)(h_sl7All:EI r_sl7All)(h_sl7Match:CB r_sl7Match):EI (S7 fu r_sl7All r_sl7Match):=by
 intro pp pall plist r H
 have H:=eF H
 refine qI Tryz.func135 (fun C hC=>?_)
 refine qS (qR ?_)
 iterate 2 refine q1 aE ?_
 refine qN ?_
 iterate 2 refine qS ?_
 refine qR (q1 aE (qN ?_))
 refine j8 0 (aA.trs_len _) (fun hl4=>?_)
 refine b9 (σ:=(List aK)) (fun i1 v3=>⟨[(0,a3 pp),(1,a3 pall),(2,uL v3 0),(6,.nil),(7,pB false),(8,pN i1)],⟨[],[⟨171,4,aK.trs (v3),false⟩]⟩⟩) (fun v3=>⟨[(2,uL v3 0),(6,.nil),(7,pB false)],⟨[],[⟨171,4,aK.trs (v3),false⟩]⟩⟩) (f8 H) ?_ ?_
 ·rintro i1 v3 H
  iterate 2 refine qS ?_
  refine qR ?_
  iterate 2 refine q1 aE ?_
  refine q1 (eB c8 (aA.trs_len _)) (q1 gP (qN ?_))
  refine dT H (fun h5 h5l H=>?_) (fun h5 H=>?_)
  ·have h5n:=a8 h5
   refine aQ.skip (qS (aQ.block (qS (cX H fun z6 H=>(QP H fun x8 x9 x10 z7 H=>?_)))))
   cases x9
   ·have H:=oA H rfl
    refine dW (dI [0] aE (dI [8] aE (dI [18,19] (gV h5n c8) (dI [20] (jW (aA.cs (aW pp i1)) bZ) (dI [1] aE (dI [8] aE (dI [22,23] (gV z6 c8) (dI [24] (jW (aA.cs (aW pall i1)) bZ) (dI [2] aE (dE [21,25,26] (fM [] [0] Tryz.func175 (h_sl7Match (aW pp i1) (aW pall i1) v3 _ z7)) (dI [27] aE ?_)))))))))))
    iterate 2 refine dI [17] uB ?_
    refine dI [28] aE (dI [29] aE (dN ?_))
    iterate 2 refine qS ?_
    refine qR (q1 aE (q1 gW (qN (dM (congrArg (fun b=> !b) (rfl:false=false)) (qS (qR ?_))))))
    iterate 3 refine q1 aE ?_
    refine qN (aQ.ret ?_)
    obtain rfl:_=r:=(p8 (aZ H):)
    exact jM
   have H:=oE H rfl
   obtain⟨z11,H1⟩:=gdI H
   subst z11
   have H:=H1
   refine dW (dI [0] aE (dI [8] aE (dI [18,19] (gV h5n c8) (dI [20] (jW (aA.cs (aW pp i1)) bZ) (dI [1] aE (dI [8] aE (dI [22,23] (gV z6 c8) (dI [24] (jW (aA.cs (aW pall i1)) bZ) (dI [2] aE (dE [21,25,26] (fM [] [0] Tryz.func175 (h_sl7Match (aW pp i1) (aW pall i1) v3 _ z7)) (dI [27] aE ?_)))))))))))
   iterate 2 refine dI [17] uB ?_
   refine dI [28] aE (dI [29] aE (dN ?_))
   iterate 2 refine qS ?_
   refine qR (q1 aE (q1 gW (qN (kJ (congrArg (fun b=> !b) (rfl:true=true)) (aQ.skip (qR ?_))))))
   iterate 2 refine q1 aE ?_
   refine qN (qR (q1 aE (q1 (aX.addI rfl rfl rfl rfl (c:=((i1+1:Nat):Int)) (by omega) (by omega)) (q1 aE (qN ?_)))))
   exact iK h5l ⟨_,(aZ H:),b0⟩
  refine aQ.exit ?_;exact j0 ⟨_,H,b0⟩
 rintro v3 H
 refine qS (qR ?_)
 iterate 3 refine q1 aE ?_
 refine qN (aQ.ret ?_)
 cases aZ H
 exact jM
def JH(fu:Nat)(r_sl7All:xU)(r_sl7Match:rW)(pp pt:aA)(plist:List aK):Option ((List aK)×Bool×(List aK)):=
 sw (decide (pp.gKind=1))
 (bd (E7 fu plist pp.gName) (fun(x3,x4)=>
 sw (x4)
 (sw (aA.eq x3 pt)
 (some (plist,(aA.eq x3 pt),plist))
 (some (plist,(aA.eq x3 pt),plist)))
 (gd (Tr.bulkL (aA.tr pt)≤68719476735)
 (gd ((plist).length+(([(aK.mk pp.gName pt)]:List aK)).length≤68719476736)
 (some ((plist++([(aK.mk pp.gName pt)]:List aK)),true,(plist++([(aK.mk pp.gName pt)]:List aK))))))))
 (sw (!decide (pp.gKind=pt.gKind))
 (some (plist,false,plist))
 (sw (!decide (pp.gName=pt.gName))
 (some (plist,false,plist))
 (sw (!decide ((pp.gArgs.length:Int)=(pt.gArgs.length:Int)))
 (some (plist,false,plist))
 (bd (r_sl7All pp.gArgs pt.gArgs plist) (fun(x13,x14,x15)=>
 sw (x14)
 (gd (x13=x15)
 (some (x13,true,x13)))
 (some (x13,false,x15)))))))
theorem U0(fu:Nat)(r_sl7All:xU)(r_sl7Match:rW)(h_sl7All:EI r_sl7All)(h_sl7Match:CB r_sl7Match):CB (JH fu r_sl7All r_sl7Match):=by
 intro pp pt plist r H
 have H:=eF H
 refine qI Tryz.func175 (fun C hC=>?_)
 refine qS (qR (q1 (jP (dU pp)) (q1 (jP (dU pt)) ?_)))
 iterate 2 refine q1 aE ?_
 refine qN ?_
 iterate 2 refine qS ?_
 refine qR (q1 (a6 iF) (q1 (bD jN) (q1 eG (qN ?_))))
 refine bA H (fun h1 H=>?_) (fun h1 H=>?_)
 ·refine qS (qR (q1 aE (q1 (a6 gR) (q1 (bD eE) (eT H fun x3 x4 z2 H=>(q1 (bG Tryz.func133 (R8 fu plist pp.gName _ z2)) (q1 aE ?_)))))))
  iterate 2 refine q1 uB ?_
  refine q1 (gM eP) (q1 (bR eS) (q1 aE (qN ?_)))
  iterate 2 refine qS ?_
  refine qR (q1 aE (qN ?_))
  refine bA H (fun h5 H=>?_) (fun h5 H=>?_)
  ·refine qS (qR (q1 aE (q1 (cU [pI x3.gKind,pS x3.gName,a3 x3.gArgs] bZ) (q1 (cU [pI pt.gKind,pS pt.gName,a3 pt.gArgs] bZ) (q1 (bG Tryz.func16 (lY x3 pt)) ?_)))))
   iterate 2 refine q1 aE ?_
   refine qN (aQ.ret ?_)
   rcases lC (aA.eq x3 pt) with g6|g6
   ·have H:=oE H g6
    cases aZ H
    exact jM (hle:=by rw [g6];exact kP) (hk:=by rw [g6];rfl)
   have H:=oA H g6
   cases aZ H
   exact jM (hle:=by rw [g6];exact kP) (hk:=by rw [g6];rfl)
  refine aQ.skip (qS (cX H fun z7 H=>(cX H fun z8 H=>(dW (dI [2] aE (dI [3] (a6 gR) (dD [26] (bD eE) (dD [4] (cU [pI pt.gKind,pS pt.gName,a3 pt.gArgs] bZ) (dI [28] (bG Tryz.func60 (B9 pt z7)) (dI [27,29] (eU OD am5) (dI [30] (hH ([(aK.mk pp.gName pt)]:List aK) OM OD) (dE [25,31] (kX z8 OM apF) (dI [32] aE ?_)))))))))))))
  refine dI [] aE (dN (aQ.ret ?_))
  cases aZ H
  exact jM
 refine aQ.skip ?_
 iterate 2 refine qS ?_
 refine qR (q1 (a6 iF) (q1 (bD jN) (q1 (a6 iF) (q1 (bD jN) (q1 P5 (q1 aE ?_))))))
 refine dY 38 H (fun g9 H=>?_) fun g9 H=>?_
 ·refine qk g9 ?_
  iterate 4 refine qk g9 ?_
  refine q1 (bS g9) (q1 aE ?_)
  iterate 7 refine qk rfl ?_
  refine q1 (bS rfl) (qN (dM rfl (qS (qR ?_))))
  iterate 3 refine q1 aE ?_
  refine qN (aQ.ret ?_)
  cases aZ H
  exact jM
 refine qg g9 (a6 gR) (qg g9 (bD eE) (qg g9 (a6 gR) (qg g9 (bD eE) (qg g9 RL (q1 (b6 g9) (q1 aE ?_))))))
 refine dY 45 H (fun g10 H=>?_) fun g10 H=>?_
 ·refine qk g10 ?_
  iterate 6 refine qk g10 ?_
  refine q1 (bS g10) (qN (dM rfl (qS (qR ?_))))
  iterate 3 refine q1 aE ?_
  refine qN (aQ.ret ?_)
  cases aZ H
  exact jM
 refine qg g10 (a6 eZ) (qg g10 (bD kT) (qg g10 (eB c8 (aA.trs_len _)) (qg g10 (a6 eZ) (qg g10 (bD kT) (qg g10 (eB c8 (aA.trs_len _)) (qg g10 P5 (q1 (b6 g10) (qN ?_))))))))
 refine bA H (fun h11 H=>?_) (fun h11 H=>?_)
 ·refine qS (qR ?_)
  iterate 3 refine q1 aE ?_
  refine qN (aQ.ret ?_)
  cases aZ H
  exact jM
 refine aQ.skip (qS (qR (q1 (a6 eZ) (q1 (bD kT) (q1 (a6 eZ) (q1 (bD kT) (q1 aE (QP H fun x13 x14 x15 z12 H=>?_))))))))
 cases x14
 ·have H:=oA H rfl
  refine q1 (fM [] [0] Tryz.func135 (h_sl7All pp.gArgs pt.gArgs plist _ z12)) ?_
  iterate 2 refine q1 uB ?_
  iterate 2 refine q1 aE ?_
  refine qN (aQ.ret ?_)
  cases aZ H
  exact jM
 have H:=oE H rfl
 obtain⟨z16,H1⟩:=gdI H
 subst z16
 have H:=H1
 refine q1 (fM [] [0] Tryz.func135 (h_sl7All pp.gArgs pt.gArgs plist _ z12)) ?_
 iterate 2 refine q1 uB ?_
 iterate 2 refine q1 aE ?_
 refine qN (aQ.ret ?_)
 cases aZ H
 exact jM
mutual
def nS:Nat→(List aA)→(List aA)→(List aK)→Option ((List aK)×Bool×(List aK))
 |0,_,_,_=>none
 |fu+1,pp,pall,plist=>S7 fu (nS fu) (l8 fu) pp pall plist
def l8:Nat→aA→aA→(List aK)→Option ((List aK)×Bool×(List aK))
 |0,_,_,_=>none
 |fu+1,pp,pt,plist=>JH fu (nS fu) (l8 fu) pp pt plist
end
theorem agU(fu:Nat):EI (nS fu)∧CB (l8 fu):=by
 induction fu with
 |zero=>exact⟨(fun pp pall plist r H=>by simp only [nS] at H;cases H),(fun pp pt plist r H=>by simp only [l8] at H;cases H)⟩
 |succ fu ih=>exact⟨(fun pp pall plist r H=>by simp only [nS] at H;exact adD fu (nS fu) (l8 fu) ih.1 ih.2 pp pall plist r H),(fun pp pt plist r H=>by simp only [l8] at H;exact U0 fu (nS fu) (l8 fu) ih.1 ih.2 pp pt plist r H)⟩
theorem VZ(fu:Nat):EI (nS fu):=(agU fu).1
def aaZ(m:(List aA)→(List aA)→Option ((List aK)×Bool)):Prop:= ∀(pp:List aA) (pall:List aA) (r:(List aK)×Bool),m pp pall=some r→b4 Tryz.prog 90 [a3 pp,a3 pall] (.tup [jG r.1,pB r.2]:PV)
def DY(fu:Nat)(pp pall:List aA):Option ((List aK)×Bool):=
 sw (!decide ((pp.length:Int)=(pall.length:Int)))
 (some (([]),false))
 (bd (nS fu pp pall ([])) (fun(x3,x4,x5)=>
 sw (x4)
 (gd (x3=x5)
 (some (x3,true)))
 (some (([]),false))))
theorem XH(fu:Nat):aaZ (DY fu):=by
 intro pp pall r H
 have H:=eF H
 refine qI Tryz.func90 (fun C hC=>?_)
 refine qS (qR ?_)
 iterate 2 refine q1 aE ?_
 refine qN ?_
 iterate 2 refine qS ?_
 refine qR (q1 aE (q1 (eB c8 (aA.trs_len _)) (q1 aE (q1 (eB c8 (aA.trs_len _)) (q1 P5 (qN ?_))))))
 refine bA H (fun h1 H=>?_) (fun h1 H=>?_)
 ·refine qS (qR (q1 (qZ ([]:List aK) OM OD) ?_))
  iterate 2 refine q1 aE ?_
  refine qN (aQ.ret ?_)
  cases aZ H
  exact jM
 refine aQ.skip (qS (qR ?_))
 iterate 2 refine q1 aE ?_
 refine q1 (qZ ([]:List aK) OM OD) (QP H fun x3 x4 x5 z2 H=>?_)
 cases x4
 ·have H:=oA H rfl
  refine q1 (fM [] [0] Tryz.func135 (VZ fu pp pall ([]) _ z2)) (q1 aE ?_)
  iterate 2 refine q1 uB ?_
  iterate 2 refine q1 aE ?_
  refine qN ?_
  iterate 2 refine qS ?_
  refine qR (q1 aE (q1 gW (qN (dM (congrArg (fun b=> !b) (rfl:false=false)) (qS (qR (q1 (qZ ([]:List aK) OM OD) ?_)))))))
  iterate 2 refine q1 aE ?_
  refine qN (aQ.ret ?_)
  cases aZ H
  exact jM
 have H:=oE H rfl
 obtain⟨z6,H1⟩:=gdI H
 subst z6
 have H:=H1
 refine q1 (fM [] [0] Tryz.func135 (VZ fu pp pall ([]) _ z2)) (q1 aE ?_)
 iterate 2 refine q1 uB ?_
 iterate 2 refine q1 aE ?_
 refine qN ?_
 iterate 2 refine qS ?_
 refine qR (q1 aE (q1 gW (qN (kJ (congrArg (fun b=> !b) (rfl:true=true)) (aQ.skip (qS (qR ?_)))))))
 iterate 3 refine q1 aE ?_
 refine qN (aQ.ret ?_)
 cases aZ H
 exact jM
def akZ(m:aA→aA→Option ((List aK)×Bool)):Prop:= ∀(pp:aA) (pt:aA) (r:(List aK)×Bool),m pp pt=some r→b4 Tryz.prog 33 [(aA.pv pp),(aA.pv pt)] (.tup [jG r.1,pB r.2]:PV)
def aa0(fu:Nat)(pp pt:aA):Option ((List aK)×Bool):=
 bd (DY fu ([pp]:List aA) ([pt]:List aA)) (fun(x2,x3)=>
 some (x2,x3))
theorem aiY(fu:Nat):akZ (aa0 fu):=by
 intro pp pt r H
 have H:=eF H
 refine qI Tryz.func33 (fun C hC=>?_)
 refine qS (qR (q1 (jP (dU pp)) (q1 (jP (dU pt)) ?_)))
 iterate 2 refine q1 aE ?_
 refine qN (qS (qR (q1 (cU [pI pp.gKind,pS pp.gName,a3 pp.gArgs] bZ) (q1 (hH ([pp]:List aA) c8 eP) (q1 (cU [pI pt.gKind,pS pt.gName,a3 pt.gArgs] bZ) (q1 (hH ([pt]:List aA) c8 eP) (eT H fun x2 x3 z1 H=>(q1 (bG Tryz.func90 (XH fu ([pp]:List aA) ([pt]:List aA) _ z1)) ?_))))))))
 iterate 2 refine q1 uB ?_
 iterate 2 refine q1 aE ?_
 refine qN (aQ.ret ?_)
 cases aZ H
 exact jM
def aiF(m:(List aK)→ByteArray→Option (aA×Bool)):Prop:= ∀(plist:List aK) (pv:ByteArray) (r:aA×Bool),m plist pv=some r→b4 Tryz.prog 91 [jG plist,pS pv] (.tup [(aA.pv r.1),pB r.2]:PV)
def QY(fu:Nat)(plist:List aK)(pv:ByteArray):Nat→Unit→Option (LR Unit (aA×Bool)):=
 fun i1 _=>sw (decide ((aW plist i1).gVar=pv))
 (gd (Tr.bulkL (aA.tr ((aW plist i1).gType))≤68719476735)
 (some (.ret (((aW plist i1).gType),true))))
 (some (.next ()))
def QZ(fu:Nat)(plist:List aK)(pv:ByteArray):Option ((aA×Bool)⊕Unit):=
 loopN (QY fu plist pv) (plist.length-0) 0 ()
def AG(fu:Nat)(plist:List aK)(pv:ByteArray):Option (aA×Bool):=
 so (QZ fu plist pv) (fun _=>
 some ((aA.mk 0 s_ []),false))
theorem Q3(fu:Nat):aiF (AG fu):=by
 intro plist pv r H
 have H:=eF H
 refine qI Tryz.func91 (fun C hC=>?_)
 refine qS (qR (q1 (gM eP) (q1 aE (qN ?_))))
 iterate 2 refine qS ?_
 refine qR (q1 aE (q1 (eB OM (aK.trs_len _)) (q1 aE (qN ?_))))
 refine j8 0 (aK.trs_len _) (fun hl2=>?_)
 refine b9 (σ:=Unit) (fun i1 _=>⟨[(1,pS pv),(4,.ptr 0 0),(5,pB false),(8,jG plist),(9,pN plist.length),(10,pN i1)],⟨[some ⟨35,[pI 0,pS s_,.nil]⟩],[]⟩⟩) (fun _=>⟨[(4,.ptr 0 0),(5,pB false)],⟨[some ⟨35,[pI 0,pS s_,.nil]⟩],[]⟩⟩) (f8 H) ?_ ?_
 ·rintro i1 ⟨⟩ H
  refine qS (qR (q1 gP (qN (qS ?_))))
  refine dT H (fun h3 h3l H=>?_) (fun h3 H=>?_)
  ·have h3n:=a8 h3
   refine aQ.skip (qS (aQ.block (qS (qR (q1 (gV h3n OM) (q1 (jW (aK.cs (aW plist i1)) ao1) (q1 (gM OD) (q1 (bR ao3) (qN (qS (qR (q1 (a6 ag5) (q1 (bD eE) ?_)))))))))))))
   refine q1 aE (q1 E6 (qN ?_))
   refine bA H (fun h4 H=>?_) (fun h4 H=>?_)
   ·refine qS (qR (q1 (a6 ag6) (q1 (cU [pI (((aW plist i1).gType).gKind),pS (((aW plist i1).gType).gName),a3 (((aW plist i1).gType).gArgs)] bZ) (cX H fun z5 H=>(q1 (bG Tryz.func57 (wF ((aW plist i1).gType) z5)) (q1 (bR eS) (q1 aE (qN (aQ.ret ?_)))))))))
    obtain rfl:_=r:=(p8 (aZ H):)
    exact jM (hr:=⟨⟨_,_,_,rfl,rfl,bZ,rfl,rfl⟩,rfl,trivial⟩)
   refine aQ.skip (qR (q1 (aX.addI rfl rfl rfl rfl (c:=((i1+1:Nat):Int)) (by omega) (by omega)) (q1 aE (qN ?_))))
   exact iK h3l ⟨_,(aZ H:),b0⟩
  refine aQ.exit ?_;exact j0 ⟨_,H,b0⟩
 rintro⟨⟩ H
 refine qS (qR (q1 (eU eP sF) (q1 (bR eS) (q1 aE (qN (aQ.ret ?_))))))
 cases aZ H
 exact jM (hr:=⟨⟨_,_,_,rfl,rfl,bZ,rfl,rfl⟩,rfl,trivial⟩)
abbrev o6:=(List aK)→(List aA)→(List aA)→Option ((List aK)×Bool×(List aK))
abbrev xC:=(List aK)→aA→aA→Option ((List aK)×Bool×(List aK))
def uO(m:o6):Prop:= ∀(ps:List aK) (pp:List aA) (pall:List aA) (r:(List aK)×Bool×(List aK)),m ps pp pall=some r→cP Tryz.prog 132 [uL ps 0,a3 pp,a3 pall] ⟨[],[⟨171,4,aK.trs (ps),false⟩]⟩ (fun q t=>q=(.tup [(bif r.2.1 then .acc 4 (aK.trs (r.1)) 0 else .t (.row 4 (aK.trs (r.1)))),pB r.2.1]:PV)∧t=⟨[],[⟨171,4,aK.trs (r.2.2),false⟩]⟩)
def KI(m:xC):Prop:= ∀(ps:List aK) (pp:aA) (pt:aA) (r:(List aK)×Bool×(List aK)),m ps pp pt=some r→cP Tryz.prog 174 [uL ps 0,(aA.pv pp),(aA.pv pt)] ⟨[],[⟨171,4,aK.trs (ps),false⟩]⟩ (fun q t=>q=(.tup [(bif r.2.1 then .acc 4 (aK.trs (r.1)) 0 else .t (.row 4 (aK.trs (r.1)))),pB r.2.1]:PV)∧t=⟨[],[⟨171,4,aK.trs (r.2.2),false⟩]⟩)
def wH(fu:Nat)(r_imatchAll:o6)(r_imatch:xC)(ps:List aK)(pp pall:List aA):Nat→((List aK))→Option (LR ((List aK)) ((List aK)×Bool×(List aK))):=
 fun i2 v4=>gd (i2<(pall).length)
 (bd (r_imatch v4 (aW pp i2) (aW pall i2)) (fun(x9,x10,x11)=>
 sw (x10)
 (gd (x9=x11)
 (some (.next x9)))
 (some (.ret ([],false,x11)))))
def BF(fu:Nat)(r_imatchAll:o6)(r_imatch:xC)(ps:List aK)(pp pall:List aA):Option (((List aK)×Bool×(List aK))⊕((List aK))):=
 loopN (wH fu r_imatchAll r_imatch ps pp pall) (pp.length-0) 0 ps
def uN(fu:Nat)(r_imatchAll:o6)(r_imatch:xC)(ps:List aK)(pp pall:List aA):Option ((List aK)×Bool×(List aK)):=
 sw (!decide ((pp.length:Int)=(pall.length:Int)))
 (some ([],false,ps))
 (so (BF fu r_imatchAll r_imatch ps pp pall) (fun v4=>
 some (v4,true,v4)))
theorem Q6(fu:Nat)(r_imatchAll:o6)(r_imatch:xC)(h_imatchAll:uO r_imatchAll)(h_imatch:KI r_imatch):uO (uN fu r_imatchAll r_imatch):=by
 intro ps pp pall r H
 have H:=eF H
 refine qI Tryz.func132 (fun C hC=>?_)
 refine qS (qR ?_)
 iterate 2 refine q1 aE ?_
 refine qN ?_
 iterate 2 refine qS ?_
 refine qR (q1 aE (q1 (eB c8 (aA.trs_len _)) (q1 aE (q1 (eB c8 (aA.trs_len _)) (q1 P5 (qN ?_))))))
 refine bA H (fun h1 H=>?_) (fun h1 H=>?_)
 ·refine qS (qR ?_)
  iterate 2 refine q1 aE ?_
  refine qN (aQ.ret ?_)
  cases aZ H
  exact jM
 refine aQ.skip ?_
 iterate 2 refine qS ?_
 refine qR (q1 aE (q1 (eB c8 (aA.trs_len _)) (q1 aE (qN ?_))))
 refine j8 1 (aA.trs_len _) (fun hl5=>?_)
 refine b9 (σ:=(List aK)) (fun i2 v4=>⟨[(0,uL v4 0),(1,a3 pp),(2,a3 pall),(6,.nil),(7,pB false),(17,pN pp.length),(18,pN i2)],⟨[],[⟨171,4,aK.trs (v4),false⟩]⟩⟩) (fun v4=>⟨[(0,uL v4 0),(6,.nil),(7,pB false)],⟨[],[⟨171,4,aK.trs (v4),false⟩]⟩⟩) (f8 H) ?_ ?_
 ·rintro i2 v4 H
  refine qS (qR (q1 gP (qN (qS ?_))))
  refine dT H (fun h6 h6l H=>?_) (fun h6 H=>?_)
  ·have h6n:=a8 h6
   refine aQ.skip (qS (aQ.block (qS (qR ?_))))
   iterate 2 refine q1 aE ?_
   refine qN (qS (cX H fun z7 H=>(QP H fun x9 x10 x11 z8 H=>?_)))
   cases x10
   ·have H:=oA H rfl
    refine dW (dI [0] aE (dI [1] aE (dI [8] aE (dI [23,24] (gV h6n c8) (dI [25] (jW (aA.cs (aW pp i2)) bZ) (dI [2] aE (dI [8] aE (dI [27,28] (gV z7 c8) (dI [29] (jW (aA.cs (aW pall i2)) bZ) (dE [22,26,30] (fM [] [0] Tryz.func174 (h_imatch v4 (aW pp i2) (aW pall i2) _ z8)) (dI [31] aE ?_)))))))))))
    iterate 2 refine dI [21] uB ?_
    refine dI [32] aE (dI [33] aE (dN ?_))
    iterate 2 refine qS ?_
    refine qR (q1 aE (q1 gW (qN (dM (congrArg (fun b=> !b) (rfl:false=false)) (qS (qR ?_))))))
    iterate 2 refine q1 aE ?_
    refine qN (aQ.ret ?_)
    obtain rfl:_=r:=(p8 (aZ H):)
    exact jM
   have H:=oE H rfl
   obtain⟨z12,H1⟩:=gdI H
   subst z12
   have H:=H1
   refine dW (dI [0] aE (dI [1] aE (dI [8] aE (dI [23,24] (gV h6n c8) (dI [25] (jW (aA.cs (aW pp i2)) bZ) (dI [2] aE (dI [8] aE (dI [27,28] (gV z7 c8) (dI [29] (jW (aA.cs (aW pall i2)) bZ) (dE [22,26,30] (fM [] [0] Tryz.func174 (h_imatch v4 (aW pp i2) (aW pall i2) _ z8)) (dI [31] aE ?_)))))))))))
   iterate 2 refine dI [21] uB ?_
   refine dI [32] aE (dI [33] aE (dN ?_))
   iterate 2 refine qS ?_
   refine qR (q1 aE (q1 gW (qN (kJ (congrArg (fun b=> !b) (rfl:true=true)) (aQ.skip (qR ?_))))))
   iterate 2 refine q1 aE ?_
   refine qN (qR (q1 (aX.addI rfl rfl rfl rfl (c:=((i2+1:Nat):Int)) (by omega) (by omega)) (q1 aE (qN ?_))))
   exact iK h6l ⟨_,(aZ H:),b0⟩
  refine aQ.exit ?_;exact j0 ⟨_,H,b0⟩
 rintro v4 H
 refine qS (qR ?_)
 iterate 3 refine q1 aE ?_
 refine qN (aQ.ret ?_)
 cases aZ H
 exact jM
def Q7(fu:Nat)(r_imatchAll:o6)(r_imatch:xC)(ps:List aK)(pp pt:aA):Option ((List aK)×Bool×(List aK)):=
 sw (decide (pp.gKind=1))
 (bd (AG fu ps pp.gName) (fun(x3,x4)=>
 sw (x4)
 (sw (aA.eq x3 pt)
 (some (ps,(aA.eq x3 pt),ps))
 (some (ps,(aA.eq x3 pt),ps)))
 (gd (Tr.bulkL (aA.tr pt)≤68719476735)
 (gd ((ps).length+(([(aK.mk pp.gName pt)]:List aK)).length≤68719476736)
 (some ((ps++([(aK.mk pp.gName pt)]:List aK)),true,(ps++([(aK.mk pp.gName pt)]:List aK))))))))
 (sw (!decide (pp.gKind=pt.gKind))
 (some ([],false,ps))
 (sw (!decide (pp.gName=pt.gName))
 (some ([],false,ps))
 (bd (r_imatchAll ps pp.gArgs pt.gArgs) (fun(x12,x13,x14)=>
 sw (x13)
 (gd (x12=x14)
 (some (x12,true,x12)))
 (some (x12,false,x14))))))
theorem aaI(fu:Nat)(r_imatchAll:o6)(r_imatch:xC)(h_imatchAll:uO r_imatchAll)(h_imatch:KI r_imatch):KI (Q7 fu r_imatchAll r_imatch):=by
 intro ps pp pt r H
 have H:=eF H
 refine qI Tryz.func174 (fun C hC=>?_)
 refine qS (qR (q1 (jP (dU pp)) (q1 (jP (dU pt)) ?_)))
 iterate 2 refine q1 aE ?_
 refine qN ?_
 iterate 2 refine qS ?_
 refine qR (q1 (a6 iF) (q1 (bD jN) (q1 eG (qN ?_))))
 refine bA H (fun h1 H=>?_) (fun h1 H=>?_)
 ·refine qS (qS (qR (q1 aE (q1 (a6 gR) (q1 (bD eE) (eT H fun x3 x4 z2 H=>(q1 (bG Tryz.func91 (Q3 fu ps pp.gName _ z2)) (q1 aE ?_))))))))
  iterate 2 refine q1 uB ?_
  refine q1 (gM eP) (q1 (bR eS) (q1 aE (qN (qS (qR (q1 aE (qN ?_)))))))
  refine bA H (fun h5 H=>?_) (fun h5 H=>?_)
  ·refine qS (qR (q1 aE (q1 (cU [pI x3.gKind,pS x3.gName,a3 x3.gArgs] bZ) (q1 (cU [pI pt.gKind,pS pt.gName,a3 pt.gArgs] bZ) (q1 (bG Tryz.func124 (GS x3 pt)) ?_)))))
   iterate 2 refine q1 aE ?_
   refine qN (aQ.ret ?_)
   rcases lC (aA.eq x3 pt) with g6|g6
   ·have H:=oE H g6
    cases aZ H
    exact jM (hle:=by rw [g6];exact kP) (hk:=by rw [g6];rfl)
   have H:=oA H g6
   cases aZ H
   exact jM (hle:=by rw [g6];exact kP) (hk:=by rw [g6];rfl)
  refine aQ.skip (qS (cX H fun z7 H=>(cX H fun z8 H=>(dW (dI [0] aE (dI [4] (a6 gR) (dD [26] (bD eE) (dD [5] (cU [pI pt.gKind,pS pt.gName,a3 pt.gArgs] bZ) (dI [28] (bG Tryz.func57 (wF pt z7)) (dI [27,29] (eU OD am5) (dI [30] (hH ([(aK.mk pp.gName pt)]:List aK) OM OD) (dE [25,31] (kX z8 OM apF) (dI [32] aE ?_)))))))))))))
  refine dI [] aE (dN (aQ.ret ?_))
  cases aZ H
  exact jM
 refine aQ.skip ?_
 iterate 2 refine qS ?_
 refine qR (q1 (a6 iF) (q1 (bD jN) (q1 (a6 iF) (q1 (bD jN) (q1 P5 (q1 aE ?_))))))
 refine dY 38 H (fun g9 H=>?_) fun g9 H=>?_
 ·refine qk g9 ?_
  iterate 4 refine qk g9 ?_
  refine q1 (bS g9) (qN (dM rfl (qS (qR ?_))))
  iterate 2 refine q1 aE ?_
  refine qN (aQ.ret ?_)
  cases aZ H
  exact jM
 refine qg g9 (a6 gR) (qg g9 (bD eE) (qg g9 (a6 gR) (qg g9 (bD eE) (qg g9 RL (q1 (b6 g9) (qN ?_))))))
 refine bA H (fun h10 H=>?_) (fun h10 H=>?_)
 ·refine qS (qR ?_)
  iterate 2 refine q1 aE ?_
  refine qN (aQ.ret ?_)
  cases aZ H
  exact jM
 refine aQ.skip (qS (qR (q1 aE (q1 (a6 eZ) (q1 (bD kT) (q1 (a6 eZ) (q1 (bD kT) (QP H fun x12 x13 x14 z11 H=>?_))))))))
 cases x13
 ·have H:=oA H rfl
  refine q1 (fM [] [0] Tryz.func132 (h_imatchAll ps pp.gArgs pt.gArgs _ z11)) ?_
  iterate 2 refine q1 uB ?_
  iterate 2 refine q1 aE ?_
  refine qN (aQ.ret ?_)
  cases aZ H
  exact jM
 have H:=oE H rfl
 obtain⟨z15,H1⟩:=gdI H
 subst z15
 have H:=H1
 refine q1 (fM [] [0] Tryz.func132 (h_imatchAll ps pp.gArgs pt.gArgs _ z11)) ?_
 iterate 2 refine q1 uB ?_
 iterate 2 refine q1 aE ?_
 refine qN (aQ.ret ?_)
 cases aZ H
 exact jM
mutual
def eV:Nat→(List aK)→(List aA)→(List aA)→Option ((List aK)×Bool×(List aK))
 |0,_,_,_=>none
 |fu+1,ps,pp,pall=>uN fu (eV fu) (qM fu) ps pp pall
def qM:Nat→(List aK)→aA→aA→Option ((List aK)×Bool×(List aK))
 |0,_,_,_=>none
 |fu+1,ps,pp,pt=>Q7 fu (eV fu) (qM fu) ps pp pt
end
theorem TW(fu:Nat):uO (eV fu)∧KI (qM fu):=by
 induction fu with
 |zero=>exact⟨(fun ps pp pall r H=>by simp only [eV] at H;cases H),(fun ps pp pt r H=>by simp only [qM] at H;cases H)⟩
 |succ fu ih=>exact⟨(fun ps pp pall r H=>by simp only [eV] at H;exact Q6 fu (eV fu) (qM fu) ih.1 ih.2 ps pp pall r H),(fun ps pp pt r H=>by simp only [qM] at H;exact aaI fu (eV fu) (qM fu) ih.1 ih.2 ps pp pt r H)⟩
theorem KH(fu:Nat):uO (eV fu):=(TW fu).1
def akE(m:aA→aA→Option ((List aK)×Bool)):Prop:= ∀(pp:aA) (pt:aA) (r:(List aK)×Bool),m pp pt=some r→b4 Tryz.prog 88 [(aA.pv pp),(aA.pv pt)] (.tup [jG r.1,pB r.2]:PV)
def aaF(fu:Nat)(pp pt:aA):Option ((List aK)×Bool):=
 bd (eV fu ([]) ([pp]:List aA) ([pt]:List aA)) (fun(x2,x3,x4)=>
 sw (x3)
 (gd (x2=x4)
 (some (x2,true)))
 (some (x2,false)))
theorem aiI(fu:Nat):akE (aaF fu):=by
 intro pp pt r H
 have H:=eF H
 refine qI Tryz.func88 (fun C hC=>?_)
 refine qS (qR (q1 (jP (dU pp)) (q1 (jP (dU pt)) ?_)))
 iterate 2 refine q1 aE ?_
 refine qN (qS (qR (q1 (cU [pI pp.gKind,pS pp.gName,a3 pp.gArgs] bZ) (q1 (hH ([pp]:List aA) c8 eP) (q1 (cU [pI pt.gKind,pS pt.gName,a3 pt.gArgs] bZ) (q1 (hH ([pt]:List aA) c8 eP) (QP H fun x2 x3 x4 z1 H=>?_)))))))
 cases x3
 ·have H:=oA H rfl
  refine q1 (aX.callF (res:= .tup [jG x2,pB false]) (ps:= [_,_,_]) (qs:= [.nil,a3 ([pp]:List aA),a3 ([pt]:List aA)]) rfl rfl Tryz.func132 (by kernel_rfl) rfl rfl kP rfl rfl (cP.regNil (l1:= []) (l2:= [a3 ([pp]:List aA),a3 ([pt]:List aA)]) (E:=171) (sz:=4) (q:= .tup [jG x2,pB false]) (by decide) (KH fu ([]) ([pp]:List aA) ([pt]:List aA) _ z1) kP rfl)) ?_
  iterate 2 refine q1 uB ?_
  iterate 2 refine q1 aE ?_
  refine qN (aQ.ret ?_)
  cases aZ H
  exact jM
 have H:=oE H rfl
 obtain⟨z5,H1⟩:=gdI H
 subst z5
 have H:=H1
 refine q1 (aX.callF (res:= .tup [jG x2,pB true]) (ps:= [_,_,_]) (qs:= [.nil,a3 ([pp]:List aA),a3 ([pt]:List aA)]) rfl rfl Tryz.func132 (by kernel_rfl) rfl rfl kP rfl rfl (cP.regNil (l1:= []) (l2:= [a3 ([pp]:List aA),a3 ([pt]:List aA)]) (E:=171) (sz:=4) (q:= .tup [jG x2,pB true]) (by decide) (KH fu ([]) ([pp]:List aA) ([pt]:List aA) _ z1) kP rfl)) ?_
 iterate 2 refine q1 uB ?_
 iterate 2 refine q1 aE ?_
 refine qN (aQ.ret ?_)
 cases aZ H
 exact jM
end
end Go.Proofs.YtpioomclpaiomaaGreat.W

namespace Go.Proofs.YtpioomclpaiomaaGreat.W
set_option linter.unusedSimpArgs false
set_option linter.unusedVariables false
open Go.RowKit Go.WalkArith
def C4(l:List aK)(v:ByteArray):Option aK:=l.find? (fun b=>decide (b.gVar=v))
mutual
def lW:aA→aA→List aK→Option (List aK)
 | .mk k n ps,t,s=>
  if k=1 then(match C4 s n with
   |some b=>if aA.eq b.gType t=true then some s else none
   |none=>some (s++ [aK.mk n t]))
  else if k=t.gKind then(if n=t.gName then(if ps.length=t.gArgs.length then mY ps t.gArgs s else none) else none) else none
def mY:List aA→List aA→List aK→Option (List aK)
 | [],_,s=>some s
 |p::ps,ts,s=>match ts with
  | []=>none
  |t::ts=>match lW p t s with
   |none=>none
   |some s'=>mY ps ts s'
end
theorem nd{p:Prop}[Decidable p](h: ¬p):(!decide p)=true:=by simp [h]
def wtl(l:List aA):Nat:=l.length+Tr.bulkAll (aA.trs l)
theorem TI(x:aA)(l:List aA):wtl (x::l)=1+Tr.bulkL x.tr+wtl l:=by simp only [wtl,aA.trs,Tr.bulkAll,List.length_cons];omega
theorem TH(k:Int)(n:ByteArray)(ps:List aA):wtl ps≤Tr.bulkL (aA.mk k n ps).tr:=wQ k n ps
def qJ(s:List aK):Prop:= ∀b∈s,Tr.bulkL b.gType.tr≤68719476735
theorem QQ{t x:aA}(h:x∈t.gArgs)(ht:Tr.bulkL t.tr≤68719476735):Tr.bulkL x.tr≤68719476735:=by
 obtain⟨k,n,ps⟩:=t
 have h1:=C6 (show x∈ps from h)
 have h2:=wQ k n ps
 omega
theorem N5: ∀(ps:List aA),(∀x∈ps,∀t s s',lW x t s=some s'→qJ s→Tr.bulkL t.tr≤68719476735→qJ s'∧s'.length≤s.length+1+Tr.bulkL x.tr)→
 ∀ts s s',mY ps ts s=some s'→qJ s→(∀t∈ts,Tr.bulkL t.tr≤68719476735)→qJ s'∧s'.length≤s.length+wtl ps
 | [],_,ts,s,s',h,hb,_=>by
  rw [mY] at h
  obtain rfl:=Option.some.inj h
  exact⟨hb,by omega⟩
 |p::ps,hp,ts,s,s',h,hb,ht=>by
  cases ts with
  |nil=>simp [mY] at h
  |cons t ts=>
   rw [mY] at h
   cases hq:lW p t s with
   |none=>rw [hq] at h;cases h
   |some s1=>
    rw [hq] at h
    have h1:=hp p (by simp) t s s1 hq hb (ht t (by simp))
    have h2:=N5 ps (fun x hx=>hp x (List.mem_cons_of_mem _ hx)) ts s1 s' h h1.1 (fun x hx=>ht x (List.mem_cons_of_mem _ hx))
    have h3:=TI p ps
    exact⟨h2.1,by omega⟩
theorem VP: ∀(p t:aA) (s s':List aK),lW p t s=some s'→qJ s→Tr.bulkL t.tr≤68719476735→qJ s'∧s'.length≤s.length+1+Tr.bulkL p.tr:=by
 refine aA.ind fun k n ps ih t s s' h hb ht=>?_
 have hw:=TH k n ps
 rw [lW] at h
 split at h
 ·split at h
  ·split at h
   ·obtain rfl:=Option.some.inj h
    exact⟨hb,by omega⟩
   ·cases h
  ·obtain rfl:=Option.some.inj h
   refine⟨fun b hb'=>?_,by simp only [List.length_append,List.length_singleton];omega⟩
   rcases List.mem_append.1 hb' with h1|h1
   ·exact hb b h1
   ·obtain rfl:=List.mem_singleton.1 h1
    exact ht
 ·split at h
  ·split at h
   ·split at h
    ·have h1:=N5 ps ih _ _ _ h hb (fun x hx=>QQ hx ht)
     exact⟨h1.1,by omega⟩
    ·cases h
   ·cases h
  ·cases h
def Res(o:Option (List aK))(m:Option (List aK×Bool×List aK)):Prop:=match o with
 |some s'=>m=some (s',true,s')
 |none=> ∃a b,m=some (a,false,b)
def aoF(o:Option (List aK))(m:Option ((List aK×Bool×List aK)⊕List aK)):Prop:=match o with
 |some s'=>m=some (.inr s')
 |none=> ∃a b,m=some (.inl (a,false,b))
def aoE(o:Option (List aK))(m:Option (LR (List aK) (List aK×Bool×List aK))):Prop:=match o with
 |some s'=>m=some (.next s')
 |none=> ∃a b,m=some (.ret (a,false,b))
theorem VO{F:Nat→List aK→Option (LR (List aK) (List aK×Bool×List aK))}{ps ts:List aA}(hlen:ps.length=ts.length)(ht: ∀t∈ts,Tr.bulkL t.tr≤68719476735)
 (hs: ∀i s,i<ps.length→qJ s→s.length+1+Tr.bulkL (aW ps i).tr≤68719476736→aoE (lW (aW ps i) (aW ts i) s) (F i s)):
 ∀(k i:Nat) (s:List aK),ps.length-i=k→qJ s→s.length+wtl (ps.drop i)≤68719476736→aoF (mY (ps.drop i) (ts.drop i) s) (loopN F (ps.length-i) i s)
 |0,i,s,hk,_,_=>by
  rw [List.drop_of_length_le (show ps.length≤i by omega),mY]
  exact AM (by omega)
 |k+1,i,s,hk,hb,hw=>by
  have hi:i<ps.length:=by omega
  have hi2:i<ts.length:=by omega
  rw [zS hi,TI] at hw
  have h1:=hs i s hi hb (by omega)
  rw [zS hi,zS hi2,mY]
  cases hq:lW (aW ps i) (aW ts i) s with
  |none=>
   rw [hq] at h1
   obtain⟨a,b,h1⟩:=h1
   exact⟨a,b,EZ hi h1⟩
  |some s'=>
   rw [hq] at h1
   have h2:=VP _ _ _ _ hq hb (ht _ (iX hi2))
   have h3:=VO hlen ht hs k (i+1) s' (by omega) h2.1 (by omega)
   rw [xH hi h1]
   exact h3
theorem RG{F:Nat→List aK→Option (LR (List aK) (List aK×Bool×List aK))}{ps ts:List aA}(hlen:ps.length=ts.length)(ht: ∀t∈ts,Tr.bulkL t.tr≤68719476735)
 (hs: ∀i s,i<ps.length→qJ s→s.length+1+Tr.bulkL (aW ps i).tr≤68719476736→aoE (lW (aW ps i) (aW ts i) s) (F i s)) {s:List aK} (hb:qJ s) (hw:s.length+wtl ps≤68719476736):aoF (mY ps ts s) (loopN F (ps.length-0) 0 s):=by
 have:=VO hlen ht hs ps.length 0 s (by omega) hb (by rwa [List.drop_zero])
 rwa [List.drop_zero,List.drop_zero] at this
theorem R7(fu:Nat)(l:List aK)(v:ByteArray)(hb:qJ l):E7 fu l v=some (match C4 l v with
 |some b=>(b.gType,true)
 |none=>(aA.mk 0 (⟨#[]⟩) [],false)):=by
 unfold E7 R6
 rw [yJ (p:=fun b=>decide (b.gVar=v)) (r:=fun b=>(b.gType,true)) (fun i hi=>by
  unfold R5
  cases h:decide ((aW l i).gVar=v)
  ·simp [sw,h]
  ·simp only [sw,h]
   rw [qX (hb _ (iX hi)) rfl]
   simp)]
 unfold C4
 cases l.find? (fun b=>decide (b.gVar=v))<;>rfl
def SMS(fu:Nat)(p:aA):Prop:= ∀(t:aA) (s:List aK),Tr.bulkL t.tr≤68719476735→qJ s→s.length+1+Tr.bulkL p.tr≤68719476736→Res (lW p t s) (l8 fu p t s)
theorem ahI{fu:Nat}{ps:List aA}(hf: ∀x∈ps,SMS fu x){ts:List aA}{s:List aK}(hlen:ps.length=ts.length)(ht: ∀t∈ts,Tr.bulkL t.tr≤68719476735)(hb:qJ s)(hw:s.length+wtl ps≤68719476736):Res (mY ps ts s) (nS (fu+1) ps ts s):=by
 have hl:=RG (F:=NN fu (nS fu) (l8 fu) ps ts s) hlen ht (fun i s hi hb hw=>by
  have h1:=hf (aW ps i) (iX hi) (aW ts i) s (ht _ (iX (by omega))) hb hw
  unfold NN
  cases hq:lW (aW ps i) (aW ts i) s with
  |none=>
   rw [hq] at h1
   obtain⟨a,b,h1⟩:=h1
   exact⟨_,b,qX (by omega) (zR h1 rfl)⟩
  |some s'=>
   rw [hq] at h1
   exact qX (by omega) (zR h1 (uG rfl (qX rfl rfl)))) hb hw
 rw [nS,S7]
 unfold VY
 cases hq:mY ps ts s with
 |none=>
  rw [hq] at hl
  obtain⟨a,b,hl⟩:=hl
  exact⟨a,b,soL hl⟩
 |some s'=>
  rw [hq] at hl
  exact soR hl rfl
theorem aiX: ∀p:aA,bY fun fu=>SMS fu p:=by
 refine aA.ind fun k n ps ih=>?_;refine bY.succ (bY.succ ((bY.list ih).imp fun fu hf t s ht hb hw=>?_))
 have hwa:=TH k n ps
 rw [l8,JH,lW]
 simp only [aA.gKind_mk,aA.gName_mk,aA.gArgs_mk]
 by_cases hk:k=1
 ·rw [if_pos hk,R7 _ s n hb]
  cases hq:C4 s n with
  |some b=>
   cases he:aA.eq b.gType t with
   |true=>
    show Res (if aA.eq b.gType t=true then some s else none) _
    rw [if_pos he]
    show _=some (s,true,s)
    refine uG (decide_eq_true hk) (zR rfl (uG rfl (uG he ?_)))
    simp only [he]
   |false=>
    show Res (if aA.eq b.gType t=true then some s else none) _
    rw [if_neg (by simp [he])]
    refine⟨s,s,?_⟩
    refine uG (decide_eq_true hk) (zR rfl (uG rfl (oO he ?_)))
    simp only [he]
  |none=>
   show _=some (s++ [aK.mk n t],true,s++ [aK.mk n t])
   exact uG (decide_eq_true hk) (zR rfl (oO rfl (qX ht (qX (by simp only [List.length_singleton];omega) rfl))))
 ·rw [if_neg hk]
  by_cases h1:k=t.gKind
  ·rw [if_pos h1]
   by_cases h2:n=t.gName
   ·rw [if_pos h2]
    by_cases h3:ps.length=t.gArgs.length
    ·rw [if_pos h3]
     have ha:=ahI hf (s:=s) h3 (fun x hx=>QQ hx ht) hb (by omega)
     cases hq:mY ps t.gArgs s with
     |none=>
      rw [hq] at ha
      obtain⟨a,b,ha⟩:=ha
      exact⟨_,_,oO (by simp [hk]) (oO (by simp [h1]) (oO (by simp [h2]) (oO (by simp [h3])<|zR ha (oO rfl rfl))))⟩
     |some s'=>
      rw [hq] at ha
      exact oO (by simp [hk]) (oO (by simp [h1]) (oO (by simp [h2]) (oO (by simp [h3])<|zR ha (uG rfl (qX rfl rfl)))))
    ·rw [if_neg h3]
     exact⟨_,_,oO (by simp [hk]) (oO (by simp [h1]) (oO (by simp [h2]) (uG (nd (fun h=>h3 (Int.ofNat_inj.1 h))) rfl)))⟩
   ·rw [if_neg h2]
    exact⟨_,_,oO (by simp [hk]) (oO (by simp [h1]) (uG (by simp [h2]) rfl))⟩
  ·rw [if_neg h1]
   exact⟨_,_,oO (by simp [hk]) (uG (by simp [h1]) rfl)⟩
theorem Q0(fu:Nat)(l:List aK)(v:ByteArray)(hb:qJ l):AG fu l v=some (match C4 l v with
 |some b=>(b.gType,true)
 |none=>(aA.mk 0 (⟨#[]⟩) [],false)):=by
 unfold AG QZ
 rw [yJ (p:=fun b=>decide (b.gVar=v)) (r:=fun b=>(b.gType,true)) (fun i hi=>by
  unfold QY
  cases h:decide ((aW l i).gVar=v)
  ·simp [sw,h]
  ·simp only [sw,h]
   rw [qX (hb _ (iX hi)) rfl]
   simp)]
 unfold C4
 cases l.find? (fun b=>decide (b.gVar=v))<;>rfl
def IMS(fu:Nat)(p:aA):Prop:= ∀(t:aA) (s:List aK),Tr.bulkL t.tr≤68719476735→qJ s→s.length+1+Tr.bulkL p.tr≤68719476736→Res (lW p t s) (qM fu s p t)
theorem ag9{fu:Nat}{ps:List aA}(hf: ∀x∈ps,IMS fu x){ts:List aA}{s:List aK}(hlen:ps.length=ts.length)(ht: ∀t∈ts,Tr.bulkL t.tr≤68719476735)(hb:qJ s)(hw:s.length+wtl ps≤68719476736):Res (mY ps ts s) (eV (fu+1) s ps ts):=by
 have hl:=RG (F:=wH fu (eV fu) (qM fu) s ps ts) hlen ht (fun i s hi hb hw=>by
  have h1:=hf (aW ps i) (iX hi) (aW ts i) s (ht _ (iX (by omega))) hb hw
  unfold wH
  cases hq:lW (aW ps i) (aW ts i) s with
  |none=>
   rw [hq] at h1
   obtain⟨a,b,h1⟩:=h1
   exact⟨_,b,qX (by omega) (zR h1 rfl)⟩
  |some s'=>
   rw [hq] at h1
   exact qX (by omega) (zR h1 (uG rfl (qX rfl rfl)))) hb hw
 rw [eV,uN]
 rw [show sw (!decide (((ps.length:Nat):Int)=((ts.length:Nat):Int)))=fun(x y:Option (List aK×Bool×List aK))=>y by funext x y;exact oO (by simp [hlen]) rfl]
 unfold BF
 cases hq:mY ps ts s with
 |none=>
  rw [hq] at hl
  obtain⟨a,b,hl⟩:=hl
  exact⟨a,b,soL hl⟩
 |some s'=>
  rw [hq] at hl
  exact soR hl rfl
theorem aiG: ∀p:aA,bY fun fu=>IMS fu p:=by
 refine aA.ind fun k n ps ih=>?_;refine bY.succ (bY.succ ((bY.list ih).imp fun fu hf t s ht hb hw=>?_))
 have hwa:=TH k n ps
 rw [qM,Q7,lW]
 simp only [aA.gKind_mk,aA.gName_mk,aA.gArgs_mk]
 by_cases hk:k=1
 ·rw [if_pos hk,Q0 _ s n hb]
  cases hq:C4 s n with
  |some b=>
   cases he:aA.eq b.gType t with
   |true=>
    show Res (if aA.eq b.gType t=true then some s else none) _
    rw [if_pos he]
    show _=some (s,true,s)
    refine uG (decide_eq_true hk) (zR rfl (uG rfl (uG he ?_)))
    simp only [he]
   |false=>
    show Res (if aA.eq b.gType t=true then some s else none) _
    rw [if_neg (by simp [he])]
    refine⟨s,s,?_⟩
    refine uG (decide_eq_true hk) (zR rfl (uG rfl (oO he ?_)))
    simp only [he]
  |none=>
   show _=some (s++ [aK.mk n t],true,s++ [aK.mk n t])
   exact uG (decide_eq_true hk) (zR rfl (oO rfl (qX ht (qX (by simp only [List.length_singleton];omega) rfl))))
 ·rw [if_neg hk]
  by_cases h1:k=t.gKind
  ·rw [if_pos h1]
   by_cases h2:n=t.gName
   ·rw [if_pos h2]
    by_cases h3:ps.length=t.gArgs.length
    ·rw [if_pos h3]
     have ha:=ag9 hf (s:=s) h3 (fun x hx=>QQ hx ht) hb (by omega)
     cases hq:mY ps t.gArgs s with
     |none=>
      rw [hq] at ha
      obtain⟨a,b,ha⟩:=ha
      exact⟨_,_,oO (by simp [hk]) (oO (by simp [h1]) (oO (by simp [h2]) (zR ha (oO rfl rfl))))⟩
     |some s'=>
      rw [hq] at ha
      exact oO (by simp [hk]) (oO (by simp [h1]) (oO (by simp [h2]) (zR ha (uG rfl (qX rfl rfl)))))
    ·rw [if_neg h3]
     have ha:eV (fu+1) s ps t.gArgs=some ([],false,s):=by
      rw [eV,uN]
      exact uG (nd (fun h=>h3 (Int.ofNat_inj.1 h))) rfl
     exact⟨_,_,oO (by simp [hk]) (oO (by simp [h1]) (oO (by simp [h2]) (zR ha (oO rfl rfl))))⟩
   ·rw [if_neg h2]
    exact⟨_,_,oO (by simp [hk]) (oO (by simp [h1]) (uG (by simp [h2]) rfl))⟩
  ·rw [if_neg h1]
   exact⟨_,_,oO (by simp [hk]) (uG (by simp [h1]) rfl)⟩
def tM(p t:aA):Bool:=(lW p t []).isSome
theorem qJ.nil:qJ []:=fun b hb=>by simp at hb
theorem RF(p t:aA):mY [p] [t] []=lW p t []:=by
 rw [mY]
 cases hq:lW p t [] with
 |none=>simp [hq]
 |some s=>simp [hq,mY]
theorem ahO(p:aA):wtl [p]=1+Tr.bulkL p.tr:=by rw [TI];simp [wtl,aA.trs,Tr.bulkAll]
end Go.Proofs.YtpioomclpaiomaaGreat.W

namespace Go.Proofs.YtpioomclpaiomaaGreat.W
set_option linter.unusedSimpArgs false
set_option linter.unusedVariables false
open Go.RowKit Go.Proofs
attribute [local irreducible] lt wt wl
theorem xG{σ β:Type}{f:Nat→σ→Option (LR σ β)}{s:σ}{n:Nat}(hs: ∀i,i<n→f i s=some (.next s)): ∀k j,n-j=k→loopN f k j s=some (.inr s)
 |0,j,hk=>by rw [loopN]
 |k+1,j,hk=>by
  rw [loopN,hs j (by omega)]
  exact xG hs k (j+1) (by omega)
theorem W6{w:aI}{o:aO}(hw:wt w≤13000000)(hR:GU w o):wt (lT w o)≤13000000:=by
 obtain⟨i,k,rfl,hi,hk⟩:=hR
 have:=aI.wt_eq w
 have:=cI w.gPackages i hi
 have:=aL.wt_eq (aW w.gPackages i)
 have:=cI (aW w.gPackages i).gInstances k hk
 show wt (aW (aW w.gPackages i).gInstances k)≤13000000
 omega
theorem WY{w:aI}{o:aO}(hw:wt w≤13000000)(hR:GU w o):wt (lT w o).gHead≤13000000:=by
 have:=W6 hw hR
 have:=aH.wt_eq (lT w o)
 omega
end Go.Proofs.YtpioomclpaiomaaGreat.W

namespace Go.Proofs.YtpioomclpaiomaaGreat.W
set_option linter.unusedSimpArgs false
set_option linter.unusedVariables false
open Go.RowKit Go.Proofs
theorem LS(a b:ByteArray):(a==b)=decide (a=b):=by
 by_cases h:a=b
 ·subst h
  rw [w7]
  simp
 ·rw [A7 h]
  simp [h]
theorem aA.eq_iff: ∀a b:aA,aA.eq a b=true↔a=b:=by
 refine aA.ind fun k n xs ih b=>?_
 obtain⟨l,m,ys⟩:=b
 have hL: ∀(l r:List aA),(∀x∈l,∀y,aA.eq x y=true↔x=y)→(aA.eqs l r=true↔l=r):=by
  intro l
  induction l with
  |nil=>intro r _;cases r<;>simp [aA.eqs]
  |cons x l ihl=>
   intro r hx
   cases r with
   |nil=>simp [aA.eqs]
   |cons y r=>
    rw [aA.eqs,Bool.and_eq_true,hx x (by simp) y,ihl r (fun z hz=>hx z (List.mem_cons_of_mem _ hz)),List.cons.injEq]
 rw [aA.eq,Bool.and_eq_true,Bool.and_eq_true,hL xs ys ih,LS,decide_eq_true_eq,beq_iff_eq]
 constructor
 ·rintro⟨rfl,rfl,rfl⟩;rfl
 ·intro h;cases h;exact⟨rfl,rfl,rfl⟩
theorem aA.eq_self(a:aA):aA.eq a a=true:=(aA.eq_iff a a).2 rfl
end Go.Proofs.YtpioomclpaiomaaGreat.W
