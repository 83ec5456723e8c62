/- Words, rules and walks of several kinds, laid together: MaLWfTy, OkF5, WLWfTy. No conditions but those that each theorem states. -/
import Derived.Test.YtpioomclpaiomaaGreatQh2d3bfa3c
import Derived.Test.YtpioomclpaiomaaGreatQhdfb59f61
import Derived.Test.YtpioomclpaiomaaGreatQh7b7fa178
import Derived.Test.YtpioomclpaiomaaGreatQh73782e98
import Derived.Test.YtpioomclpaiomaaGreatQh270167b8
import Derived.Test.YtpioomclpaiomaaGreatQh38b1491e
import Derived.Test.YtpioomclpaiomaaGreatQhcea472ae
set_option linter.unusedSimpArgs false
set_option linter.unusedVariables false
namespace Go.Proofs.YtpioomclpaiomaaGreat.W
set_option maxRecDepth 100000
set_option maxHeartbeats 40000000
noncomputable section
open Tryz Go.RowKit Go.Proofs
attribute [local irreducible] lt
def amC(m:Option aB):Prop:= ∀(r:aB),m=some r→b4 Tryz.prog 148 [] ((aB.pv r):PV)
def QH(fu:Nat):Option aB:=
 bd (jQ fu eX ([])) (fun x2=>
 some x2)
theorem aiO(fu:Nat):amC (QH fu):=by
 intro r H
 have H:=eE H
 refine qI func148 (fun C hC=>?_)
 refine qW (q1 (fO jN) (qN (qW (bI H fun x2 z1 H=>(q1 (bG func85 (yO (jI fu) eX ([]) _ z1)) (q1 (bR jE) (qZ ?_)))))))
 cases aX H
 exact bE (hr:=⟨⟨_,_,_,rfl,rfl,cU,rfl,rfl⟩,trivial⟩)
def amB(m:DS→Option (aB×DS)):Prop:= ∀(pc:DS) (r:aB×DS),m pc=some r→c6 Tryz.prog 104 [.ptr 0 0] ⟨[some ⟨151,dC pc⟩],[]⟩ (fun q t=>q=((aB.pv r.1):PV)∧t=⟨[some ⟨151,dC r.2⟩],[]⟩)
def aiL(fu:Nat)(pc:DS)(x2:aB)(x3 d4:DS):Nat→(Int×ByteArray×(List aB))→Option (LR (Int×ByteArray×(List aB)) (aB×DS)):=
 fun i21 (v22,v23,v24)=>bd (jQ fu cS ([(aB.mk v22 v23 v24)]:List aB)) (fun x27=>
 some (.next (x27.gKind,x27.gName,x27.gArgs)))
def aiM(fu:Nat)(pc:DS)(x2:aB)(x3 d4:DS):Option ((aB×DS)⊕(Int×ByteArray×(List aB))):=
 loopN (aiL fu pc x2 x3 d4) (6-0) 0 (x2.gKind,x2.gName,x2.gArgs)
def QG(fu:Nat)(pc:DS):Option (aB×DS):=
 bd (tO fu pc 3) (fun(x2,x3)=>
 lt (x3.after 12) (fun d4=>
 sw (decide ((x3.below 12:Int)=0))
 (lt (d4.after 7) (fun d7=>
 some ((aB.mk (aQ ((d4.below 7:Int)-1)) x2.gName x2.gArgs),d7)))
 (sw (decide ((x3.below 12:Int)=1))
 (lt (d4.after ([s_,fC,s_A,fX,qC]:LB).length) (fun d10=>
 lt (d4.pick ([s_,fC,s_A,fX,qC]:LB)) (fun y12=>
 some ((aB.mk x2.gKind y12 x2.gArgs),d10))))
 (sw (decide ((x3.below 12:Int)=2))
 (bd (zY fu) (fun x16=>
 bd (QH fu) (fun x18=>
 gd ((x2.gArgs).length+(([x16,x18,x16]:List aB)).length≤68719476736)
 (some ((aB.mk x2.gKind x2.gName (x2.gArgs++([x16,x18,x16]:List aB))),d4)))))
 (sw (decide ((x3.below 12:Int)=3))
 (so (aiM fu pc x2 x3 d4) (fun(v22,v23,v24)=>
 some ((aB.mk v22 v23 v24),d4)))
 (some ((aB.mk x2.gKind x2.gName x2.gArgs),d4)))))))
theorem aiN(fu:Nat):amB (QG fu):=by
 intro pc r H
 have H:=eE H
 refine qI func104 (fun C hC=>?_)
 refine qW (q1 (fO jN) (qN (qW (q1 aE (fZ H fun x2 x3 z1 H=>(q1 (a3.callOwn (pre:=⟨[some ⟨151,dC pc⟩],[]⟩) (B:= [some ⟨151,dC x3⟩]) (R:=fun k=> .agg [pI x2.gKind,pS x2.gName,jA x2.gArgs k]) (ps:= [_,_]) (qs:= [.ptr 0 0,pI 3]) [0] rfl rfl func87 (by kernel_rfl) rfl rfl rfl (gA.of ⟨⟨_,rfl,rfl,iX,rfl⟩,trivial⟩ trivial (by decide) (by decide)) rfl iX rfl rfl rfl (fun k k'=>(.agg (.cons (.free _ rfl) (.cons (.free _ rfl) (.cons Mv.acc CU.nil))))) (vF fu pc 3 _ z1)) (q1 (fO jN) (q1 (bR jE) (qN ?_)))))))))
 refine qS (qS (qR (q1 aE (fP H fun d4 h5 H=>(q1 (iF [0] [] func103 (BG h5 (eQ x3 12))) (qN (aR.block (qW (q1 dM (q1 aE (qN ?_)))))))))))
 refine a8 H (fun h6 H=>?_) (fun h6 H=>?_)
 ·refine qR (q1 aE (fP H fun d7 h8 H=>(q1 (iF [0] [] func103 (BG h8 (eQ d4 7))) (q1 EP (q1 (a5 pF) (q1 (bR sz3) (qN (qW (q1 (cJ [pI (aQ ((d4.below 7:Int)-1)),pS x2.gName,jA x2.gArgs 0] cU) (q1 (bR jE) (qZ ?_)))))))))))
  cases aX H
  exact bE (hr:=⟨⟨_,_,_,rfl,rfl,cU,rfl,rfl⟩,trivial⟩)
 refine qW (q1 dM (q1 aE (qN ?_)))
 refine a8 H (fun h9 H=>?_) (fun h9 H=>?_)
 ·refine qR (q1 aE (q1 (j9 ([s_,fC,s_A,fX,qC]:LB) b3 lU) (fP H fun d10 h11 H=>(fP H fun y12 h13 H=>(q1 (iF [0] [] func86 (Q7 h11 h13 (iE d4 ([s_,fC,s_A,fX,qC]:LB) (by decide)))) (q1 (a5 kU) (q1 (bR sz9) (qN (qW (q1 (cJ [pI x2.gKind,pS y12,jA x2.gArgs 0] cU) (q1 (bR jE) (qN ?_))))))))))))
  refine aR.ret ?_
  cases aX H
  exact bE (hr:=⟨⟨_,_,_,rfl,rfl,cU,rfl,rfl⟩,trivial⟩)
 refine qW (q1 dM (q1 aE (qN ?_)))
 refine a8 H (fun h14 H=>?_) (fun h14 H=>?_)
 ·refine bI H fun x16 z15 H=>(bI H fun x18 z17 H=>(dK H fun z19 H=>(dW (dI [3] (a5 gM) (dD [23] (bD kY) (dI [] (bG func147 (rL fu _ z15)) (dI [] (bG func148 (aiO fu _ z17)) (dI [] (bG func147 (rL fu _ z15)) (dI [25,26,27] (j9 ([x16,x18,x16]:List aB) eU jN) (dE [24,28] (nV z19 eU aoT) (dI [3] (a5 gM) (lH [30,29] (bR asL) (dN ?_)))))))))))))
  refine qW (q1 (cJ [pI x2.gKind,pS x2.gName,jA (x2.gArgs++([x16,x18,x16]:List aB)) 0] cU) (q1 (bR jE) (qZ ?_)))
  cases aX H
  exact bE (hr:=⟨⟨_,_,_,rfl,rfl,cU,rfl,rfl⟩,trivial⟩)
 refine qW (q1 dM (q1 aE (qN ?_)))
 refine a8 H (fun h20 H=>?_) (fun h20 H=>?_)
 ·refine qW (q1 aE (qN ?_))
  refine b0 (σ:=Int×ByteArray×(List aB)) (fun i21 (v22,v23,v24)=>⟨[(2,.ptr 1 0),(3,.ptr 2 0),(4,pN i21)],⟨[some ⟨151,dC d4⟩,some ⟨35,[pI 0,pS s_,.nil]⟩,some ⟨35,[pI v22,pS v23,a7 v24]⟩],[⟨35,3,aB.trs (x2.gArgs),false⟩]⟩⟩) (fun(v22,v23,v24)=>⟨[(2,.ptr 1 0),(3,.ptr 2 0)],⟨[some ⟨151,dC d4⟩,some ⟨35,[pI 0,pS s_,.nil]⟩,some ⟨35,[pI v22,pS v23,a7 v24]⟩],[⟨35,3,aB.trs (x2.gArgs),false⟩]⟩⟩) (fK H) ?_ ?_
  ·rintro i21 ⟨v22,v23,v24⟩ H
   refine qS (qS (qR (q1 aE (q1 gI (qN ?_)))))
   refine dG H (fun h25 h25l H=>?_) (fun h25 H=>?_)
   ·have h25n:i21<6:=by have:=of_decide_eq_true h25;omega
    refine aR.skip (qS (aR.block (qR (q1 (cJ [pI v22,pS v23,a7 v24] cU) (q1 (j9 ([(aB.mk v22 v23 v24)]:List aB) eU jN) (bI H fun x27 z26 H=>(q1 (a3.callOwn (pre:=⟨[],[]⟩) (B:= []) (R:=fun k=> .agg [pI x27.gKind,pS x27.gName,jA x27.gArgs k]) (ps:= [_,_]) (qs:= [pS cS,a7 ([(aB.mk v22 v23 v24)]:List aB)]) [] rfl rfl func85 (by kernel_rfl) rfl rfl rfl (gA.of trivial trivial (by decide) (by decide)) rfl iX rfl rfl rfl (fun k k'=>(.agg (.cons (.free _ rfl) (.cons (.free _ rfl) (.cons Mv.acc CU.nil))))) (jI fu cS ([(aB.mk v22 v23 v24)]:List aB) _ z26)) (q1 (bR jE) (qN (qR (q1 aE (q1 (rA (i21+1)) (q1 aE ?_)))))))))))))
    refine qN ?_;exact iI h25l ⟨_,(aX H:),bW⟩
   refine aR.exit ?_;exact jJ ⟨_,H,bW⟩
  rintro⟨v22,v23,v24⟩ H
  refine qW (q1 (cJ [pI v22,pS v23,a7 v24] cU) (q1 (bR jE) (qZ ?_)))
  cases aX H
  exact bE (hr:=⟨⟨_,_,_,rfl,rfl,cU,rfl,rfl⟩,trivial⟩)
 refine aR.skip (qW (q1 (cJ [pI x2.gKind,pS x2.gName,jA x2.gArgs 0] cU) (q1 (bR jE) (qZ ?_))))
 cases aX H
 exact bE (hr:=⟨⟨_,_,_,rfl,rfl,cU,rfl,rfl⟩,trivial⟩)
def PB(m:(List UInt8)→Option (aF×Int×aB)):Prop:= ∀(pcode:List UInt8) (r:aF×Int×aB),m pcode=some r→b4 Tryz.prog 44 [rU pcode] (.tup [(aF.pv r.1),pI r.2.1,(aB.pv r.2.2)]:PV)
def rC(fu:Nat)(pcode:List UInt8):Option (aF×Int×aB):=
 gd ((pcode).length≤1048576)
 (bd (AX fu (DS.start pcode)) (fun(x3,x4)=>
 lt (x4.after 4) (fun d5=>
 bd (QG fu d5) (fun(x8,x9)=>
 some (x3,(aQ ((x4.below 4:Int)-1)),x8)))))
theorem M1(fu:Nat):PB (rC fu):=by
 intro pcode r H
 have H:=eE H
 refine qI func44 (fun C hC=>?_)
 refine qW (q1 (fO NS) (q1 aE (q1 (fO jN) (qN (qW (q1 aE (dK H fun z1 H=>(q1 (a3.callNew (ps:= [_]) rfl rfl func54 (by kernel_rfl) rfl rfl iX rfl rfl (anP pcode z1)) (q1 aE (qN (qS ?_)))))))))))
 refine qR (q1 aE (fZ H fun x3 x4 z2 H=>(q1 (iF [2] [] func55 (NG fu (DS.start pcode) _ z2)) (q1 aE (fP H fun d5 h6 H=>(q1 (iF [2] [] func103 (BG h6 (eQ x4 4))) (q1 EP (q1 aE (fZ H fun x8 x9 z7 H=>(q1 (iF [2] [] func104 (aiN fu d5 _ z7)) (q1 (bR GJ) (q1 aE (q1 (bR jE) ?_)))))))))))))
 refine qN (aR.ret ?_)
 cases aX H
 exact NT (hr:=⟨⟨_,_,_,rfl,rfl,hZ,rfl,rfl⟩,rfl,⟨_,_,_,rfl,rfl,cU,rfl,rfl⟩,trivial⟩)
def OM(m:Int→Option ByteArray):Prop:= ∀(pcode:Int) (r:ByteArray),m pcode=some r→b4 Tryz.prog 47 [pI pcode] (pS r:PV)
def qY(fu:Nat)(pcode:Int):Option ByteArray:=
 sw (decide (pcode<0))
 (some arO)
 (sw (decide (pcode≥((([agY,y2,D0,zA,iS,zB,jD,y1,qD,u5]:LB).length:Nat):Int)))
 (some arO)
 (gd (0≤pcode∧(pcode).toNat<(([agY,y2,D0,zA,iS,zB,jD,y1,qD,u5]:LB)).length)
 (some (aW ([agY,y2,D0,zA,iS,zB,jD,y1,qD,u5]:LB) ((pcode).toNat)))))
theorem ME(fu:Nat):OM (qY fu):=by
 intro pcode r H
 have H:=eE H
 refine qI func47 (fun C hC=>?_)
 refine qW (q1 aE (qN (qW (q1 (j9 ([agY,y2,D0,zA,iS,zB,jD,y1,qD,u5]:LB) b3 lU) (q1 aE (qN ?_))))))
 refine qS (qS (qR (q1 aE (q1 gI (q1 aE ?_)))))
 refine eF 7 H (fun g1 H=>?_) fun g1 H=>?_
 ·refine qk g1 ?_
  iterate 3 refine qk g1 ?_
  refine q1 (bV g1) (qN (eL rfl (qW (q1 aE (qZ ?_)))))
  cases aX H
  exact bE
 iterate 2 refine qg g1 aE ?_
 refine qg g1 (dL b3 (bC _)) (qg g1 S8 (q1 (b9 g1) (qN ?_)))
 refine a8 H (fun h2 H=>?_) (fun h2 H=>?_)
 ·refine qW (q1 aE (qZ ?_))
  cases aX H
  exact bE
 refine aR.skip (qS (qR ?_))
 iterate 2 refine q1 aE ?_
 refine dK H fun z3 H=>(q1 (rIy z3 b3) (q1 (kQ eJ) (q1 aE (qZ ?_))))
 cases aX H
 exact bE
def PD(m:Int→Option ByteArray):Prop:= ∀(pcode:Int) (r:ByteArray),m pcode=some r→b4 Tryz.prog 48 [pI pcode] (pS r:PV)
def rD(fu:Nat)(pcode:Int):Option ByteArray:=
 bd (rG fu pcode 0 9) (fun x2=>
 sw (!(x2))
 (some arO)
 (gd (0≤pcode∧(pcode).toNat<(([agY,y2,D0,zA,iS,zB,jD,y1,qD,u5]:LB)).length)
 (some (aW ([agY,y2,D0,zA,iS,zB,jD,y1,qD,u5]:LB) ((pcode).toNat)))))
theorem M2(fu:Nat):PD (rD fu):=by
 intro pcode r H
 have H:=eE H
 refine qI func48 (fun C hC=>?_)
 refine qW (q1 aE (qN ?_))
 refine qS (qS (qR (q1 aE (bI H fun x2 z1 H=>(q1 (bG func108 (zV fu pcode 0 9 _ z1)) (q1 hQ (qN ?_)))))))
 refine a8 H (fun h3 H=>?_) (fun h3 H=>?_)
 ·refine qW (q1 aE (qZ ?_))
  cases aX H
  exact bE
 refine aR.skip (qW (q1 (j9 ([agY,y2,D0,zA,iS,zB,jD,y1,qD,u5]:LB) b3 lU) (q1 aE (dK H fun z4 H=>(q1 (rIy z4 b3) (q1 (kQ eJ) (q1 aE (qZ ?_))))))))
 cases aX H
 exact bE
def alA(m:(List UInt8)→Option Bool):Prop:= ∀(pa0:List UInt8) (r:Bool),m pa0=some r→b4 Tryz.prog 8 [rU pa0] (pB r:PV)
def UF(fu:Nat)(pa0:List UInt8)(x2:Bool)(x5:aF)(x6:Int)(x7:aB)(x9 x11:Int)(x14 x16:ByteArray):Nat→Unit→Option (LR Unit Bool):=
 fun i18 _=>sw (decide (x9=0))
 (bd (tY fu x5 x6 (aW x7.gArgs i18)) (fun x23=>
 sw (!decide (x23=0))
 (some (.ret false))
 (some (.next ()))))
 (some (.next ()))
def UG(fu:Nat)(pa0:List UInt8)(x2:Bool)(x5:aF)(x6:Int)(x7:aB)(x9 x11:Int)(x14 x16:ByteArray):Option (Bool⊕Unit):=
 loopN (UF fu pa0 x2 x5 x6 x7 x9 x11 x14 x16) (x7.gArgs.length-0) 0 ()
def O4(fu:Nat)(pa0:List UInt8):Option Bool:=
 bd (UH fu pa0) (fun x2=>
 sw (x2)
 (some true)
 (bd (rC fu pa0) (fun(x5,x6,x7)=>
 bd (tY fu x5 x6 x7) (fun x9=>
 bd (hL fu x5 x6 x7) (fun x11=>
 sw (!decide (x9=x11))
 (some false)
 (bd (qY fu x9) (fun x14=>
 bd (rD fu x9) (fun x16=>
 sw (!decide (x14=x16))
 (some false)
 (so (UG fu pa0 x2 x5 x6 x7 x9 x11 x14 x16) (fun _=>
 sw (!decide (x9=0))
 (some true)
 (bd (vI fu x5 x6 (aM.mk bH x7)) (fun x27=>
 bd (vL fu x5 x6 (aM.mk bH x7)) (fun x29=>
 some (decide (x27=x29)))))))))))))))
theorem agN(fu:Nat):alA (O4 fu):=by
 intro pa0 r H
 have H:=eE H
 refine qI func8 (fun C hC=>?_)
 refine qW (q1 aE (qN ?_))
 refine qS (qS (qR (q1 aE (bI H fun x2 z1 H=>(q1 (bG func10 (ajX fu pa0 _ z1)) (qN ?_))))))
 refine a8 H (fun h3 H=>?_) (fun h3 H=>?_)
 ·refine qW (q1 aE (qZ ?_))
  cases aX H
  exact bE
 refine aR.skip (qW (q1 aE (FA H fun x5 x6 x7 z4 H=>(q1 (bG func44 (M1 fu pa0 _ z4)) (q1 aE ?_)))))
 iterate 3 refine q1 AK ?_
 refine q1 (fO NS) (q1 (fO jN) (q1 (bR GJ) (q1 aE (q1 (bR jE) (qN (qW (q1 (cJ [aN x5.gPackages] hZ) (q1 aE (q1 (cJ [pI x7.gKind,pS x7.gName,a7 x7.gArgs] cU) (bI H fun x9 z8 H=>(q1 (bG func45 (IW fu x5 x6 x7 _ z8)) (q1 aE ?_))))))))))))
 refine qN ?_
 refine qS (qS (qR (q1 aE (q1 (cJ [aN x5.gPackages] hZ) (q1 aE (q1 (cJ [pI x7.gKind,pS x7.gName,a7 x7.gArgs] cU) (bI H fun x11 z10 H=>(q1 (bG func46 (BI fu x5 x6 x7 _ z10)) (q1 CI (q1 aE ?_))))))))))
 refine eF 26 H (fun g12 H=>?_) fun g12 H=>?_
 ·refine qk g12 ?_
  iterate 4 refine qk g12 ?_
  refine q1 (bV g12) (qN (eL rfl (qW (q1 aE (qZ ?_)))))
  cases aX H
  exact bE
 refine qg g12 aE (bI H fun x14 z13 H=>(qg g12 (bG func47 (ME fu x9 _ z13)) (qg g12 aE (bI H fun x16 z15 H=>(qg g12 (bG func48 (M2 fu x9 _ z15)) (qg g12 WA (q1 (b9 g12) (qN ?_))))))))
 refine a8 H (fun h17 H=>?_) (fun h17 H=>?_)
 ·refine qW (q1 aE (qZ ?_))
  cases aX H
  exact bE
 refine aR.skip ?_
 refine qS (qS (qR (q1 aE (qN ?_))))
 refine aR.fact (b5 1 2 rfl rfl rfl (aB.trs_len _)) (fun hl19=>?_)
 try dsimp only at hl19
 refine b0 (σ:=Unit) (fun i18 _=>⟨[(2,pB false),(3,.ptr 0 0),(4,pI x6),(5,.ptr 1 0),(6,pI x9),(7,pN i18)],⟨[some ⟨26,[aN x5.gPackages]⟩,some ⟨35,eD x7⟩],[]⟩⟩) (fun _=>⟨[(2,pB false),(3,.ptr 0 0),(4,pI x6),(5,.ptr 1 0),(6,pI x9)],⟨[some ⟨26,[aN x5.gPackages]⟩,some ⟨35,eD x7⟩],[]⟩⟩) (fK H) ?_ ?_
 ·rintro i18 ⟨⟩ H
  refine qS (qS (qR (q1 aE (q1 (a5 gM) (q1 (bD kY) (q1 (dL eU (aB.trs_len _)) (q1 gI (qN ?_))))))))
  refine dG H (fun h20 h20l H=>?_) (fun h20 H=>?_)
  ·have h20n:=a4 h20
   refine aR.skip (qS (aR.block (qS ?_)))
   rcases mA (decide (x9=0)) with g21|g21
   ·have H:=sE H g21
    refine bI H fun x23 z22 H=>(dW (dI [6] aE (dI [40] dM (dI [41] aE (dD (hg:=a6 g21) [3] (cJ [aN x5.gPackages] hZ) (dI (hg:=a6 g21) [4] aE (dI (hg:=a6 g21) [5] (a5 gM) (dD (hg:=a6 g21) [45] (bD kY) (dI (hg:=a6 g21) [7] aE (dI (hg:=a6 g21) [46,47] (kP h20n eU) (dI (hg:=a6 g21) [48] (kM (aB.cs (aW x7.gArgs i18)) cU) (dI (hg:=a6 g21) [43,44,49] (bG func45 (IW fu x5 x6 (aW x7.gArgs i18) _ z22)) (dI (hg:=a6 g21) [50] CI ?_)))))))))))))
    refine dI [42,51] (bV g21) (dN ?_)
    refine a8 H (fun h24 H=>?_) (fun h24 H=>?_)
    ·refine qW (q1 aE (qZ ?_))
     obtain rfl:_=r:=(mT (aX H):)
     exact bE
    refine aR.skip (qR (q1 aE (q1 (rA (i18+1)) (q1 aE (qN ?_)))))
    exact iI h20l ⟨_,(aX H:),bW⟩
   have H:=sD H g21
   refine dW (dI [6] aE (dI [40] dM (dI [41] aE ?_)))
   iterate 9 refine FE g21 ?_
   refine dI [42] (b9 g21) (dN (jR rfl (aR.skip (qR (q1 aE (q1 (rA (i18+1)) (q1 aE (qN ?_))))))))
   exact iI h20l ⟨_,(aX H:),bW⟩
  refine aR.exit ?_;exact jJ ⟨_,H,bW⟩
 rintro⟨⟩ H
 refine qS ?_
 rcases mA (!decide (x9=0)) with g25|g25
 ·have H:=sE H g25
  refine dW (dI [6] aE (dI [53] CI (dI [54] aE ?_)))
  iterate 11 refine FE g25 ?_
  refine dI [55] (bV g25) (dI [67] aE (dN (aR.ret ?_)))
  cases aX H
  exact bE
 have H:=sD H g25
 refine bI H fun x27 z26 H=>(bI H fun x29 z28 H=>(dW (dI [6] aE (dI [53] CI (dI [54] aE (dD (hg:=a6 g25) [3] (cJ [aN x5.gPackages] hZ) (dI (hg:=a6 g25) [4] aE (dD (hg:=a6 g25) [5] (cJ [pI x7.gKind,pS x7.gName,a7 x7.gArgs] cU) (dI (hg:=a6 g25) [58] (gW QP agS) (dI (hg:=a6 g25) [56,57,59] (bG func49 (T3 fu x5 x6 (aM.mk bH x7) _ z26)) (dD (hg:=a6 g25) [3] (cJ [aN x5.gPackages] hZ) (dI (hg:=a6 g25) [4] aE (dD (hg:=a6 g25) [5] (cJ [pI x7.gKind,pS x7.gName,a7 x7.gArgs] cU) ?_)))))))))))))
 refine dI (hg:=a6 g25) [63] (gW QP agS) (dI (hg:=a6 g25) [61,62,64] (bG func50 (US fu x5 x6 (aM.mk bH x7) _ z28)) (dI (hg:=a6 g25) [60,65] dM (dI [55,66] (b9 g25) (dI [67] aE (dN (aR.ret ?_))))))
 cases aX H
 exact bE
end
end Go.Proofs.YtpioomclpaiomaaGreat.W

namespace Go.Proofs.YtpioomclpaiomaaGreat.W
set_option maxRecDepth 20000
set_option maxHeartbeats 4000000
open Go.RowKit Go.WalkArith Go.IntWalk
attribute [local irreducible] wt wl lt
def akK(fu:Nat):Prop:=Ok (QH fu) (fun r=>wt r≤4)
theorem OZ:cH akK:=((cH.ge 2147483648).and dF).imp fun fu ⟨hfu,dF⟩=>by
 have:eX.size=4:=rfl
 have:=(aV:wl ([]:List aB)=0∧_)
 exact oB (dF eX ([]:List aB) bQ) fun x2 h1=>oS
def akJ(fu:Nat):Prop:= ∀(pc:DS),Ok (QG fu pc) (fun r=>wt r.1≤1000000)
theorem ak9:cH akJ:=(((((cH.ge 2147483648).and kO).and nJ).and OZ).and dF).imp fun fu ⟨⟨⟨⟨hfu,kO⟩,nJ⟩,OZ⟩,dF⟩ pc=>by
 have:=am2 3 (by decide)
 have:=acH (3:Int).toNat
 refine uM (kO pc 3 bQ) fun x2 x3 h1=>?_
 dsimp only at h1
 refine Ok.lt fun d4 h2=>?_;refine oC (fun g3=>?_) fun g3=>?_
 ·refine Ok.lt fun d7 h4=>?_
  have:=DS.below_lt d4 (n:=7) (by decide)
  have:=eT ((d4.below 7:Int)-1)
  have:=aB.wt_eq x2
  have:=aB.wt_mk (aQ ((d4.below 7:Int)-1)) x2.gName x2.gArgs
  exact oS
 refine oC (fun g5=>?_) fun g5=>?_
 ·have:s_.size=0:=rfl
  have:fC.size=3:=rfl
  have:s_A.size=1:=rfl
  have:fX.size=5:=rfl
  have:qC.size=9:=rfl
  have:=aq8 s_ fC s_A fX qC
  have:=a9 s_
  have:=a9 fC
  have:=a9 s_A
  have:=a9 fX
  have:=a9 qC
  refine Ok.lt fun d10 h6=>Ok.lt fun y12 h7=>?_
  have:=congrArg wt h7
  simp only [a9] at this
  have:y12.size≤9:=by rw [h7];exact DS.pick_size _ (by decide) (by decide)
  have:=aB.wt_eq x2
  have:=aB.wt_mk x2.gKind y12 x2.gArgs
  exact oS
 refine oC (fun g8=>?_) fun g8=>?_
 ·refine oB (nJ) fun x16 h9=>oB (OZ) fun x18 h10=>?_
  have:=aB.wt_eq x2
  have:=aY (x2.gArgs)
  have:=EV x16 x18 x16
  refine oG fun z11=>?_
  have:=b6 x2.gArgs ([x16,x18,x16]:List aB)
  have:=aB.wt_mk x2.gKind x2.gName (x2.gArgs++([x16,x18,x16]:List aB))
  exact oS
 refine oC (fun g12=>?_) fun g12=>?_
 ·refine Ok.sok (E:=fun(v22,v23,v24)=>v23.size+wl v24≤200000) ?_ ?_
  ·refine Ok.loop0 (fun i21 (v22,v23,v24)=>v23.size+wl v24≤100000+1000*i21∧i21≤6) (by have:=aB.wt_eq x2;exact bQ) (by rintro i21 ⟨v22,v23,v24⟩-hI;(try dsimp only at hI ⊢);omega) ?_;rintro i21 ⟨v22,v23,v24⟩ hl14 hI15
   dsimp only at hI15
   have:cS.size=4:=rfl
   have:=aB.wt_mk v22 v23 v24
   have:=cE (aB.mk v22 v23 v24)
   refine oB (dF cS ([(aB.mk v22 v23 v24)]:List aB) bQ) fun x27 h16=>?_
   have:=aB.wt_eq x27
   exact oO
  rintro⟨v22,v23,v24⟩ h13
  dsimp only at h13
  have:=aB.wt_mk v22 v23 v24
  exact oS
 have:=aB.wt_eq x2
 have:=aB.wt_mk x2.gKind x2.gName x2.gArgs
 exact oS
end Go.Proofs.YtpioomclpaiomaaGreat.W

namespace Go.Proofs.YtpioomclpaiomaaGreat.W
open Go.RowKit Go.Proofs
attribute [local irreducible] lt wl
theorem acM(fu:Nat)(c:Int): ∃s,qY fu c=some s∧rD fu c=some s:=by
 have e1:rG fu c 0 9=some (decide (0≤c∧c≤9)):=by
  unfold rG
  by_cases h:c≥0
  ·refine iG (decide_eq_true h) (congrArg some ?_)
   by_cases h':c≤9
   ·rw [decide_eq_true h',decide_eq_true (by omega)]
   ·rw [decide_eq_false h',decide_eq_false (by omega)]
  ·exact hY (decide_eq_false h) (by rw [decide_eq_false (by omega)])
 unfold qY rD
 by_cases h:c<0
 ·exact⟨_,iG (decide_eq_true h) rfl,jB e1 (iG (by rw [decide_eq_false (by omega)];rfl) rfl)⟩
 by_cases h2:c≥10
 ·exact⟨_,hY (decide_eq_false h) (iG (decide_eq_true h2) rfl),jB e1 (iG (by rw [decide_eq_false (by omega)];rfl) rfl)⟩
 have hg:0≤c∧c.toNat<10:=by omega
 exact⟨_,hY (decide_eq_false h) (hY (decide_eq_false h2) (xC hg rfl)),jB e1 (hY (by rw [decide_eq_true (by omega)];rfl) (xC hg rfl))⟩
theorem aoQ(code:List UInt8): ∃fu,O4 fu code=some true:=by
 obtain⟨fu,⟨hfu,kW⟩,kB⟩:=(((cH.ge 2147483648).and Q0).and ak9).get
 refine⟨fu,?_⟩
 unfold O4 UH
 by_cases hb:code.length≤1048576
 ·refine hY (decide_eq_false (by omega)) ?_
  obtain⟨⟨w,d⟩,hr,hw⟩:=kW (DS.start code)
  replace hw:wt w≤13000000:=hw
  obtain⟨⟨t,d2⟩,ht,ht2⟩:=kB (d.after 4)
  replace ht2:wt t≤1000000:=ht2
  have hd:rC fu code=some (w,aQ (((d.below 4:Nat):Int)-1),t):=by
   unfold rC
   exact xC hb (jB hr (zZ rfl (jB ht rfl)))
  refine jB hd ?_
  generalize aQ (((d.below 4:Nat):Int)-1)=i
  obtain⟨s,hs1,hs2⟩:=acM fu (yX w i t)
  refine jB (acP hw (by omega) i (by omega)) (jB (UW hw (by omega) i (by omega)) (hY (by simp) (jB hs1 (jB hs2 (hY (by simp) ?_)))))
  have hT:=aB.wt_eq t
  unfold UG
  refine(congrArg (fun x=>so x _) (u1 (n:=t.gArgs.length) (s:=()) (fun k hk=>?_) _ 0 rfl)).trans ?_
  ·unfold UF
   by_cases hz:yX w i t=0
   ·have hx:=b7 t.gArgs k hk
    refine iG (decide_eq_true hz) (jB (acP hw (by omega) i (by omega)) (hY ?_ rfl))
    rw [akV hz _ (GQ hk)]
    rfl
   ·exact hY (decide_eq_false hz) rfl
  ·refine soR rfl ?_
   by_cases hz:yX w i t=0
   ·refine hY (by rw [hz];rfl) (jB (anE hw (by omega) i (b:=aM.mk bH t) (by show wt t≤_;omega)) (jB (an0 hw (by omega) i (b:=aM.mk bH t) (by show wt t≤_;omega)) ?_))
    rw [decide_eq_true rfl]
   ·exact iG (by rw [decide_eq_false hz];rfl) rfl
 ·exact iG (decide_eq_true (by omega)) rfl
theorem apT(code:List UInt8):b4 Tryz.prog 8 [rU code] (pB true):=let⟨fu,h⟩:=aoQ code;agN fu code true h
end Go.Proofs.YtpioomclpaiomaaGreat.W
