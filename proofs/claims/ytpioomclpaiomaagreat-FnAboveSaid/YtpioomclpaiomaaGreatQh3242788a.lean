/- Words, rules and walks of several kinds, laid together: MaLAbove, WRef, WLAbove. No conditions but those that each theorem states. -/
import Derived.Test.YtpioomclpaiomaaGreatQhcc35fcc5
import Derived.Test.YtpioomclpaiomaaGreatQhbde349b7
import Derived.Test.YtpioomclpaiomaaGreatQhae6a8691
import Derived.Test.YtpioomclpaiomaaGreatQh34fcd349
import Derived.Test.YtpioomclpaiomaaGreatQha19938eb
import Derived.Test.YtpioomclpaiomaaGreatQh53115a7d
set_option linter.unusedSimpArgs false
set_option linter.unusedVariables false
namespace Go.Proofs.YtpioomclpaiomaaGreat.W
set_option maxRecDepth 100000
set_option maxHeartbeats 40000000
noncomputable section
open Go.RowKit Go.Proofs
set_option linter.unusedSimpArgs false
set_option linter.unusedVariables false
attribute [local irreducible] lt
def HQ(m:(List UInt8)→Option (aO×aC)):Prop:= ∀(pcode:List UInt8) (r:aO×aC),m pcode=some r→cE Tryz.prog 67 [rU pcode] (.tup [(aO.pv r.1),(aC.pv r.2)]:PV)
def rH(fu:Nat)(pcode:List UInt8):Option (aO×aC):=
 gd ((pcode).length≤1048576)
 (bd (wW fu (DS.start pcode)) (fun(x3,x4)=>
 lt (x4.after 4) (fun d5=>
 lt (d5.after 14) (fun d7=>
 some (x3,(aC.mk (aQ (((x4.below 4:Nat):Int)-1)) (aQ (((d5.below 14:Nat):Int)-1))))))))
theorem FV(fu:Nat):HQ (rH fu):=by
 intro pcode r H
 have H:=fI H
 refine qI Tryz.func67 (fun C hC=>?_)
 refine qS (qR (q1 (iV L5) (q1 (iV AE) (qN (qS (qR (q1 aF (dF H fun z1 H=>(q1 (aV.callNew (ps:= [_]) rfl rfl Tryz.func54 (by kernel_rfl) rfl rfl lH rfl rfl (ah9 pcode z1)) (q1 aF (qN (qS (qR ?_)))))))))))))
 refine q1 aF (fK H fun x3 x4 z2 H=>(q1 (f7 [2] [] Tryz.func55 (UC fu (DS.start pcode) _ z2)) (q1 aF (g0 H fun d5 h6 H=>(q1 (f7 [2] [] Tryz.func103 (AO h6 (fG x4 4))) (q1 AF (q1 aF (g0 H fun d7 h8 H=>(q1 (f7 [2] [] Tryz.func103 (AO h8 (fG d5 14))) (q1 AF (q1 (f6 AE aiC) (q1 (bU L3) (q1 (bU afZ) ?_)))))))))))))
 refine qN (aP.ret ?_)
 obtain rfl:_=r:=(aY H:)
 exact lB (hr:=⟨⟨_,_,_,rfl,rfl,qC,rfl,rfl⟩,⟨_,_,_,rfl,rfl,m5,rfl,rfl⟩,trivial⟩)
def t4(m:(List UInt8)→Option (aO×aC)):Prop:= ∀(pcode:List UInt8) (r:aO×aC),m pcode=some r→cE Tryz.prog 17 [rU pcode] (.tup [(aO.pv r.1),(aC.pv r.2)]:PV)
def gJ(fu:Nat)(pcode:List UInt8):Option (aO×aC):=
 bd (rH fu pcode) (fun(x2,x3)=>
 some (x2,x3))
theorem tL(fu:Nat):t4 (gJ fu):=by
 intro pcode r H
 have H:=fI H
 refine qI Tryz.func17 (fun C hC=>?_)
 refine qS (qR (q1 (iV L5) (q1 (iV AE) (qN (qS (qR (q1 aF (fK H fun x2 x3 z1 H=>(q1 (bI Tryz.func67 (FV fu pcode _ z1)) ?_)))))))))
 iterate 2 refine q1 y1 ?_
 refine q1 (bU L3) (q1 (bU afZ) (qN (aP.ret ?_)))
 obtain rfl:_=r:=(aY H:)
 exact lB (hr:=⟨⟨_,_,_,rfl,rfl,qC,rfl,rfl⟩,⟨_,_,_,rfl,rfl,m5,rfl,rfl⟩,trivial⟩)
def vK(m:aA→aA→Option Bool):Prop:= ∀(phead:aA) (pother:aA) (r:Bool),m phead pother=some r→cE Tryz.prog 69 [(aA.pv phead),(aA.pv pother)] (pB r:PV)
def j9(fu:Nat)(phead pother:aA):Option Bool:=
 gd (Tr.bulkL (aA.tr pother)≤68719476735)
 (gd (Tr.bulkL (aA.tr phead)≤68719476735)
 (some (nM pother phead)))
theorem uR(fu:Nat):vK (j9 fu):=by
 intro phead pother r H
 have H:=fI H
 refine qI Tryz.func69 (fun C hC=>?_)
 refine qS (qR (q1 (jU (dJ phead)) (q1 (jU (dJ pother)) (q1 aF (qN (qS (qR (q1 (cV [pI pother.gKind,pS pother.gName,a4 pother.gArgs] cH) (q1 (cV [pI phead.gKind,pS phead.gName,a4 phead.gArgs] cH) (dF H fun z1 H=>(dF H fun z2 H=>(q1 (bI Tryz.func42 (KL pother phead z1 z2)) (q1 aF ?_)))))))))))))
 refine qN (aP.ret ?_)
 obtain rfl:_=r:=(aY H:)
 exact bM
def o8(m:aO→aC→Option ((List aC))):Prop:= ∀(pw:aO) (po:aC) (r:(List aC)),m pw po=some r→cE Tryz.prog 68 [(aO.pv pw),(aC.pv po),.fn 69 []] (cD r:PV)
def eE(fu:Nat)(pw:aO)(po:aC)(x2:aH)(x3:Bool)(x6:List aC):Nat→((List aC))→Option (LR ((List aC)) ((List aC))):=
 fun i7 v9=>bd (kP fu pw (a3 x6 i7)) (fun(x13,x14)=>
 sw (!(decide (((a3 x6 i7).gPackage:Int)=po.gPackage)&&decide (((a3 x6 i7).gAt:Int)=po.gAt)))
 (sw (decide (x13.gTrait=x2.gTrait))
 (bd (j9 fu x2.gHead x13.gHead) (fun x18=>
 sw (x18)
 (gd ((v9).length+(([(a3 x6 i7)]:List aC)).length≤68719476736)
 (some (.next (v9++([(a3 x6 i7)]:List aC)))))
 (some (.next v9))))
 (some (.next v9)))
 (some (.next v9)))
def jE(fu:Nat)(pw:aO)(po:aC)(x2:aH)(x3:Bool)(x6:List aC):Option (((List aC))⊕((List aC))):=
 loopN (eE fu pw po x2 x3 x6) (x6.length-0) 0 ([])
def eO(fu:Nat)(pw:aO)(po:aC):Option ((List aC)):=
 bd (kP fu pw po) (fun(x2,x3)=>
 sw (!(x3))
 (some ([]))
 (bd (mZ fu pw) (fun x6=>
 so (jE fu pw po x2 x3 x6) (fun v9=>
 some v9))))
theorem oE(fu:Nat):o8 (eO fu):=by
 intro pw po r H
 have H:=fI H
 refine qI Tryz.func68 (fun C hC=>?_)
 refine qS (qR (q1 (jU ([bV pw.gPackages])) (q1 (jU ([pI po.gPackage,pI po.gAt])) (q1 aF (qN (qS (qR (q1 (cV [bV pw.gPackages] qC) (q1 (cV [pI po.gPackage,pI po.gAt] m5) (fK H fun x2 x3 z1 H=>(q1 (bI Tryz.func81 (uU fu pw po _ z1)) (q1 aF ?_))))))))))))
 iterate 2 refine q1 y1 ?_
 refine q1 (iV tU) (q1 (bU rR) (q1 aF (qN ?_)))
 iterate 2 refine qS ?_
 refine qR (q1 aF (q1 gT (qN ?_)))
 refine bA H (fun h4 H=>?_) (fun h4 H=>?_)
 ·refine qS (qR (q1 aF (qN (aP.ret ?_))))
  obtain rfl:_=r:=(aY H:)
  exact bM
 refine aP.skip (qS (qR (q1 (t2 ([]:List aC) nJ AE) (q1 aF (qN ?_)))))
 iterate 2 refine qS ?_
 refine qR (q1 (cV [bV pw.gPackages] qC) (bO H fun x6 z5 H=>(q1 (bI Tryz.func73 (yL fu pw _ z5)) (q1 (eT nJ (aC.trs_len _)) (q1 aF (qN ?_))))))
 refine lR 24 (aC.trs_len _) (fun hl10=>?_)
 refine cM (σ:=(List aC)) (fun i7 v9=>⟨[(2,.fn 69 []),(3,.ptr 0 0),(4,.ptr 1 0),(6,.nil),(7,.ptr 2 0),(9,fF v9 0),(24,cD x6),(25,pN x6.length),(26,pN i7)],⟨[some ⟨26,[bV pw.gPackages]⟩,some ⟨45,[pI po.gPackage,pI po.gAt]⟩,some ⟨55,gO x2⟩],[⟨45,2,aC.trs (v9),false⟩]⟩⟩) (fun v9=>⟨[(6,.nil),(9,fF v9 0)],⟨[some ⟨26,[bV pw.gPackages]⟩,some ⟨45,[pI po.gPackage,pI po.gAt]⟩,some ⟨55,gO x2⟩],[⟨45,2,aC.trs (v9),false⟩]⟩⟩) (gU H) ?_ ?_
 ·rintro i7 v9 H
  refine qS (qR (q1 hZ (qN (qS ?_))))
  refine eW H (fun h11 h11l H=>?_) (fun h11 H=>?_)
  ·have h11n:=a8 h11
   refine aP.skip (qS (aP.block (qS (qR (q1 (iH h11n nJ) (q1 (j0 (aC.cs (a3 x6 i7)) m5) (q1 (iV AE) (q1 (bU afZ) (qN (qS (qR (q1 (cV [bV pw.gPackages] qC) (q1 (cV [pI ((a3 x6 i7).gPackage),pI ((a3 x6 i7).gAt)] m5) ?_)))))))))))))
   refine fK H fun x13 x14 z12 H=>(q1 (bI Tryz.func81 (uU fu pw (a3 x6 i7) _ z12)) (q1 aF ?_))
   iterate 2 refine q1 y1 ?_
   refine q1 (iV tU) (q1 (bU rR) (q1 aF (qN (qS (qR (q1 (cV [pI ((a3 x6 i7).gPackage),pI ((a3 x6 i7).gAt)] m5) (q1 (cV [pI po.gPackage,pI po.gAt] m5) (q1 (aV.neqP rfl rfl rfl rfl M7 M8) (q1 aF ?_)))))))))
   refine d9 39 H (fun g15 H=>?_) fun g15 H=>?_
   ·refine qg g15 (a5 zF) (qg g15 (bG fB) (qg g15 (a5 zF) (qg g15 (bG fB) (qg g15 GS (q1 (bR g15) (q1 aF ?_))))))
    refine d9 46 H (fun g16 H=>?_) fun g16 H=>?_
    ·refine qg g16 aF (qg g16 (a5 nL) (qg g16 (cV [pI x2.gHead.gKind,pS x2.gHead.gName,a4 x2.gHead.gArgs] cH) (qg g16 (a5 nL) (qg g16 (cV [pI x13.gHead.gKind,pS x13.gHead.gName,a4 x13.gHead.gArgs] cH) (bO H fun x18 z17 H=>(qg g16 (rCv Tryz.func69 (uR fu x2.gHead x13.gHead _ z17)) (q1 (bR g16) (qN ?_))))))))
     refine bA H (fun h19 H=>?_) (fun h19 H=>?_)
     ·refine qR (q1 aF (q1 (cV [pI ((a3 x6 i7).gPackage),pI ((a3 x6 i7).gAt)] m5) (q1 (iA ([(a3 x6 i7)]:List aC) nJ AE) (dF H fun z20 H=>(q1 (mJ z20 nJ aeH) (q1 aF (qN (qR (q1 (aV.addI rfl rfl rfl rfl (c:=((i7+1:Nat):Int)) (by omega) (by omega)) (q1 aF (qN ?_)))))))))))
      exact iY h11l ⟨_,(aY H:),b0⟩
     refine aP.skip (qR (q1 (aV.addI rfl rfl rfl rfl (c:=((i7+1:Nat):Int)) (by omega) (by omega)) (q1 aF (qN ?_))))
     exact iY h11l ⟨_,(aY H:),b0⟩
    iterate 6 refine qk g16 ?_
    refine q1 (b5 g16) (qN (iX rfl (aP.skip (qR (q1 (aV.addI rfl rfl rfl rfl (c:=((i7+1:Nat):Int)) (by omega) (by omega)) (q1 aF (qN ?_)))))))
    exact iY h11l ⟨_,(aY H:),b0⟩
   iterate 5 refine qk g15 ?_
   refine q1 (b5 g15) (q1 aF ?_)
   iterate 6 refine qk rfl ?_
   refine q1 (b5 rfl) (qN (iX rfl (aP.skip (qR (q1 (aV.addI rfl rfl rfl rfl (c:=((i7+1:Nat):Int)) (by omega) (by omega)) (q1 aF (qN ?_)))))))
   exact iY h11l ⟨_,(aY H:),b0⟩
  refine aP.exit ?_;exact lS ⟨_,H,b0⟩
 rintro v9 H
 refine qS (qR ?_)
 iterate 2 refine q1 aF ?_
 refine qN (aP.ret ?_)
 obtain rfl:_=r:=(aY H:)
 exact bM
def xB(m:aO→aC→Option ((List aC))):Prop:= ∀(pw:aO) (po:aC) (r:(List aC)),m pw po=some r→cE Tryz.prog 18 [(aO.pv pw),(aC.pv po)] (cD r:PV)
def eD(fu:Nat)(pw:aO)(po:aC):Option ((List aC)):=
 bd (eO fu pw po) (fun x2=>
 some x2)
theorem wD(fu:Nat):xB (eD fu):=by
 intro pw po r H
 have H:=fI H
 refine qI Tryz.func18 (fun C hC=>?_)
 refine qS (qR (q1 (jU ([bV pw.gPackages])) (q1 (jU ([pI po.gPackage,pI po.gAt])) (q1 aF (qN (qS (qR (q1 (cV [bV pw.gPackages] qC) (q1 (cV [pI po.gPackage,pI po.gAt] m5) (bO H fun x2 z1 H=>(q1 (bI Tryz.func68 (oE fu pw po _ z1)) (q1 aF (qN ?_)))))))))))))
 refine aP.ret ?_
 obtain rfl:_=r:=(aY H:)
 exact bM
def aaJ(m:aO→aC→Bool→Option ((List aC))):Prop:= ∀(pa0:aO) (pa1:aC) (pa2:Bool) (r:(List aC)),m pa0 pa1 pa2=some r→cE Tryz.prog 70 [(aO.pv pa0),(aC.pv pa1),pB pa2] (cD r:PV)
def tQ(fu:Nat)(pa0:aO)(pa1:aC)(pa2:Bool)(x2:aH)(x3:Bool)(x5:List aC):Nat→((List aC))→Option (LR ((List aC)) ((List aC))):=
 fun i6 v8=>sw (x3)
 (bd (mT fu pa0 (a3 x5 i6)) (fun(x13,x14)=>
 sw (decide (((a3 x5 i6).gPackage:Int)=pa1.gPackage)&&decide (((a3 x5 i6).gAt:Int)=pa1.gAt))
 (some (.next v8))
 (sw (!decide (x13.gTrait=x2.gTrait))
 (some (.next v8))
 (sw (pa2)
 (gd (Tr.bulkL (aA.tr x13.gHead)≤68719476735)
 (gd (Tr.bulkL (aA.tr x2.gHead)≤68719476735)
 (sw (nM x13.gHead x2.gHead)
 (gd ((v8).length+(([(a3 x5 i6)]:List aC)).length≤68719476736)
 (some (.next (v8++([(a3 x5 i6)]:List aC)))))
 (some (.next v8)))))
 (gd (Tr.bulkL (aA.tr x2.gHead)≤68719476735)
 (gd (Tr.bulkL (aA.tr x13.gHead)≤68719476735)
 (sw (nM x2.gHead x13.gHead)
 (gd ((v8).length+(([(a3 x5 i6)]:List aC)).length≤68719476736)
 (some (.next (v8++([(a3 x5 i6)]:List aC)))))
 (some (.next v8)))))))))
 (some (.brk v8))
def CA(fu:Nat)(pa0:aO)(pa1:aC)(pa2:Bool)(x2:aH)(x3:Bool)(x5:List aC):Option (((List aC))⊕((List aC))):=
 loopN (tQ fu pa0 pa1 pa2 x2 x3 x5) (x5.length-0) 0 ([])
def qF(fu:Nat)(pa0:aO)(pa1:aC)(pa2:Bool):Option ((List aC)):=
 bd (mT fu pa0 pa1) (fun(x2,x3)=>
 bd (pL fu pa0) (fun x5=>
 so (CA fu pa0 pa1 pa2 x2 x3 x5) (fun v8=>
 some v8)))
theorem KV(fu:Nat):aaJ (qF fu):=by
 intro pa0 pa1 pa2 r H
 have H:=fI H
 refine qI Tryz.func70 (fun C hC=>?_)
 refine qS (qR (q1 (jU ([bV pa0.gPackages])) (q1 (jU ([pI pa1.gPackage,pI pa1.gAt])) (q1 aF (qN (qS (qR (q1 (t2 ([]:List aC) nJ AE) (q1 aF (qN (qS (qR (q1 (cV [bV pa0.gPackages] qC) ?_)))))))))))))
 refine q1 (cV [pI pa1.gPackage,pI pa1.gAt] m5) (fK H fun x2 x3 z1 H=>(q1 (bI Tryz.func77 (EU fu pa0 pa1 _ z1)) (q1 aF ?_)))
 iterate 2 refine q1 y1 ?_
 refine q1 (iV tU) (q1 (bU rR) (q1 aF (qN (qS (qR (q1 (cV [bV pa0.gPackages] qC) (bO H fun x5 z4 H=>(q1 (bI Tryz.func75 (JC fu pa0 _ z4)) (q1 aF (qN ?_))))))))))
 iterate 2 refine qS ?_
 refine qR (q1 aF (qN ?_))
 refine lR 10 (aC.trs_len _) (fun hl9=>?_)
 refine cM (σ:=(List aC)) (fun i6 v8=>⟨[(2,pB pa2),(3,.ptr 0 0),(4,.ptr 1 0),(6,.nil),(7,fF v8 0),(8,.ptr 2 0),(9,pB x3),(10,cD x5),(11,pN i6)],⟨[some ⟨26,[bV pa0.gPackages]⟩,some ⟨45,[pI pa1.gPackage,pI pa1.gAt]⟩,some ⟨55,gO x2⟩],[⟨45,2,aC.trs (v8),false⟩]⟩⟩) (fun v8=>⟨[(6,.nil),(7,fF v8 0)],⟨[some ⟨26,[bV pa0.gPackages]⟩,some ⟨45,[pI pa1.gPackage,pI pa1.gAt]⟩,some ⟨55,gO x2⟩],[⟨45,2,aC.trs (v8),false⟩]⟩⟩) (gU H) ?_ ?_
 ·rintro i6 v8 H
  iterate 2 refine qS ?_
  refine qR ?_
  iterate 2 refine q1 aF ?_
  refine q1 (eT nJ (aC.trs_len _)) (q1 hZ (q1 aF ?_))
  refine AL.splitB 27 rfl (fun g10=>?_) (fun g10=>?_)
  ·have g10l:=sH g10
   have H:=lnT g10l H
   have g10n:=a8 g10
   refine qg g10 aF (q1 (bR g10) (qN ?_))
   refine bA H (fun h11 H=>?_) (fun h11 H=>?_)
   ·refine aP.skip (qS (aP.block (qS (fK H fun x13 x14 z12 H=>(dW (dB [3] 0 1 (UU [bV pa0.gPackages] qC) (dI [10] aF (dI [11] aF (dI [34,35] (iH g10n nJ) (dI [36] (j0 (aC.cs (a3 x5 i6)) m5) (dI [33,37] (bI Tryz.func77 (EU fu pa0 (a3 x5 i6) _ z12)) (dI [38] aF ?_))))))))))))
    iterate 2 refine dI [32] y1 ?_
    refine dE [] (iV tU) (nI [12,39] (bU rR) (dI [40] aF (dN ?_)))
    iterate 2 refine qS ?_
    rcases kM (decide (((a3 x5 i6).gPackage:Int)=pa1.gPackage)&&decide (((a3 x5 i6).gAt:Int)=pa1.gAt)) with g15|g15
    ·have H:=nR H g15
     refine dW (dI [10] aF (dI [11] aF (dI [41,42] (iH g10n nJ) (dI [43] (j0 (aC.cs (a3 x5 i6)) m5) (dD [4] (cV [pI pa1.gPackage,pI pa1.gAt] m5) (dI [44,45] (aV.eqlP rfl rfl rfl rfl M7 M8) (dI [46] aF ?_)))))))
     iterate 5 refine CL g15 ?_
     refine dI [47] (bR g15) (dN (dV rfl (aP.exit (qR (q1 aF (q1 (aV.addI rfl rfl rfl rfl (c:=((i6+1:Nat):Int)) (by omega) (by omega)) (q1 aF (qN ?_))))))))
     exact iY g10l ⟨_,(aY H:),b0⟩
    have H:=nQ H g15
    refine dW (dI [10] aF (dI [11] aF (dI [41,42] (iH g10n nJ) (dI [43] (j0 (aC.cs (a3 x5 i6)) m5) (dD [4] (cV [pI pa1.gPackage,pI pa1.gAt] m5) (dI [44,45] (aV.eqlP rfl rfl rfl rfl M7 M8) (dI [46] aF (dI (hg:=aZ g15) [12] (a5 zF) (dD (hg:=aZ g15) [48] (bG fB) (dI (hg:=aZ g15) [8] (a5 zF) (dD (hg:=aZ g15) [50] (bG fB) (dI (hg:=aZ g15) [49,51] MN (dI [47,52] (b5 g15) ?_)))))))))))))
    refine dN ?_;refine bA H (fun h16 H=>?_) (fun h16 H=>?_)
    ·refine aP.exit (qR (q1 aF (q1 (aV.addI rfl rfl rfl rfl (c:=((i6+1:Nat):Int)) (by omega) (by omega)) (q1 aF (qN ?_)))))
     exact iY g10l ⟨_,(aY H:),b0⟩
    refine aP.skip (qS (qR ?_))
    iterate 2 refine q1 aF ?_
    refine d9 55 H (fun g17 H=>?_) fun g17 H=>?_
    ·refine qg g17 (a5 nL) (qg g17 (cV [pI x13.gHead.gKind,pS x13.gHead.gName,a4 x13.gHead.gArgs] cH) (qg g17 (a5 nL) (qg g17 (cV [pI x2.gHead.gKind,pS x2.gHead.gName,a4 x2.gHead.gArgs] cH) (dF H fun z18 H=>(dF H fun z19 H=>(qg g17 (bI Tryz.func99 (KS x13.gHead x2.gHead z18 z19)) (q1 (bR g17) (q1 aF ?_))))))))
     refine d9 62 H (fun g20 H=>?_) fun g20 H=>?_
     ·refine qk g20 ?_
      iterate 2 refine qk g20 ?_
      iterate 5 refine GR ?_
      refine qk g20 (q1 (bR g20) (qN (dV rfl (qR ?_))))
      iterate 3 refine q1 aF ?_
      refine q1 (iH g10n nJ) (q1 (j0 (aC.cs (a3 x5 i6)) m5) (q1 (iA ([(a3 x5 i6)]:List aC) nJ AE) (dF H fun z21 H=>(q1 (mJ z21 nJ aeH) (q1 aF (qN (qR (q1 aF (q1 (aV.addI rfl rfl rfl rfl (c:=((i6+1:Nat):Int)) (by omega) (by omega)) (q1 aF (qN ?_)))))))))))
      exact iY g10l ⟨_,(aY H:),b0⟩
     refine qg g20 aF (qg g20 gT (qg g20 aF ?_))
     iterate 5 refine qk (congrArg (fun b=> !b) g17) ?_
     refine qg g20 (b5 (congrArg (fun b=> !b) g17)) (q1 (b5 g20) (qN (iX rfl (aP.skip (qR (q1 aF (q1 (aV.addI rfl rfl rfl rfl (c:=((i6+1:Nat):Int)) (by omega) (by omega)) (q1 aF (qN ?_)))))))))
     exact iY g10l ⟨_,(aY H:),b0⟩
    iterate 5 refine qk g17 ?_
    refine q1 (b5 g17) (q1 aF (qg rfl aF (qg rfl gT (qg rfl aF (qg (congrArg (fun b=> !b) g17) (a5 nL) (qg (congrArg (fun b=> !b) g17) (cV [pI x2.gHead.gKind,pS x2.gHead.gName,a4 x2.gHead.gArgs] cH) (qg (congrArg (fun b=> !b) g17) (a5 nL) (qg (congrArg (fun b=> !b) g17) (cV [pI x13.gHead.gKind,pS x13.gHead.gName,a4 x13.gHead.gArgs] cH) (dF H fun z22 H=>(dF H fun z23 H=>(qg (congrArg (fun b=> !b) g17) (bI Tryz.func99 (KS x2.gHead x13.gHead z22 z23)) (qg rfl (bR (congrArg (fun b=> !b) g17)) (q1 (b5 rfl) ?_)))))))))))))
    refine qN ?_;refine bA H (fun h24 H=>?_) (fun h24 H=>?_)
    ·refine qR ?_
     iterate 3 refine q1 aF ?_
     refine q1 (iH g10n nJ) (q1 (j0 (aC.cs (a3 x5 i6)) m5) (q1 (iA ([(a3 x5 i6)]:List aC) nJ AE) (dF H fun z25 H=>(q1 (mJ z25 nJ aeH) (q1 aF (qN (qR (q1 aF (q1 (aV.addI rfl rfl rfl rfl (c:=((i6+1:Nat):Int)) (by omega) (by omega)) (q1 aF (qN ?_)))))))))))
     exact iY g10l ⟨_,(aY H:),b0⟩
    refine aP.skip (qR (q1 aF (q1 (aV.addI rfl rfl rfl rfl (c:=((i6+1:Nat):Int)) (by omega) (by omega)) (q1 aF (qN ?_)))))
    exact iY g10l ⟨_,(aY H:),b0⟩
   refine aP.exit ?_;exact lpB ⟨_,(aY H:),b0⟩
  have H:=lnE (sG g10) H
  refine qk g10 (q1 (b5 g10) (qN (iX rfl (aP.exit ?_))))
  exact lS ⟨_,H,b0⟩
 rintro v8 H
 refine qS (qR ?_)
 iterate 2 refine q1 aF ?_
 refine qN (aP.ret ?_)
 obtain rfl:_=r:=(aY H:)
 exact bM
def xM(m:aO→aC→Option ((List aC))):Prop:= ∀(pw:aO) (po:aC) (r:(List aC)),m pw po=some r→cE Tryz.prog 20 [(aO.pv pw),(aC.pv po)] (cD r:PV)
def iS(fu:Nat)(pw:aO)(po:aC):Option ((List aC)):=
 bd (qF fu pw po true) (fun x2=>
 some x2)
theorem o4(fu:Nat):xM (iS fu):=by
 intro pw po r H
 have H:=fI H
 refine qI Tryz.func20 (fun C hC=>?_)
 refine qS (qR (q1 (jU ([bV pw.gPackages])) (q1 (jU ([pI po.gPackage,pI po.gAt])) (q1 aF (qN (qS (qR (q1 (cV [bV pw.gPackages] qC) (q1 (cV [pI po.gPackage,pI po.gAt] m5) (bO H fun x2 z1 H=>(q1 (bI Tryz.func70 (KV fu pw po true _ z1)) (q1 aF (qN ?_)))))))))))))
 refine aP.ret ?_
 obtain rfl:_=r:=(aY H:)
 exact bM
def vL(m:aA→aA→Option Bool):Prop:= ∀(phead:aA) (pother:aA) (r:Bool),m phead pother=some r→cE Tryz.prog 71 [(aA.pv phead),(aA.pv pother)] (pB r:PV)
def kA(fu:Nat)(phead pother:aA):Option Bool:=
 gd (Tr.bulkL (aA.tr phead)≤68719476735)
 (gd (Tr.bulkL (aA.tr pother)≤68719476735)
 (some (nM phead pother)))
theorem uS(fu:Nat):vL (kA fu):=by
 intro phead pother r H
 have H:=fI H
 refine qI Tryz.func71 (fun C hC=>?_)
 refine qS (qR (q1 (jU (dJ phead)) (q1 (jU (dJ pother)) (q1 aF (qN (qS (qR (q1 (cV [pI phead.gKind,pS phead.gName,a4 phead.gArgs] cH) (q1 (cV [pI pother.gKind,pS pother.gName,a4 pother.gArgs] cH) (dF H fun z1 H=>(dF H fun z2 H=>(q1 (bI Tryz.func42 (KL phead pother z1 z2)) (q1 aF ?_)))))))))))))
 refine qN (aP.ret ?_)
 obtain rfl:_=r:=(aY H:)
 exact bM
def o9(m:aO→aC→Option ((List aC))):Prop:= ∀(pw:aO) (po:aC) (r:(List aC)),m pw po=some r→cE Tryz.prog 68 [(aO.pv pw),(aC.pv po),.fn 71 []] (cD r:PV)
def eF(fu:Nat)(pw:aO)(po:aC)(x2:aH)(x3:Bool)(x6:List aC):Nat→((List aC))→Option (LR ((List aC)) ((List aC))):=
 fun i7 v9=>bd (kP fu pw (a3 x6 i7)) (fun(x13,x14)=>
 sw (!(decide (((a3 x6 i7).gPackage:Int)=po.gPackage)&&decide (((a3 x6 i7).gAt:Int)=po.gAt)))
 (sw (decide (x13.gTrait=x2.gTrait))
 (bd (kA fu x2.gHead x13.gHead) (fun x18=>
 sw (x18)
 (gd ((v9).length+(([(a3 x6 i7)]:List aC)).length≤68719476736)
 (some (.next (v9++([(a3 x6 i7)]:List aC)))))
 (some (.next v9))))
 (some (.next v9)))
 (some (.next v9)))
def jF(fu:Nat)(pw:aO)(po:aC)(x2:aH)(x3:Bool)(x6:List aC):Option (((List aC))⊕((List aC))):=
 loopN (eF fu pw po x2 x3 x6) (x6.length-0) 0 ([])
def eP(fu:Nat)(pw:aO)(po:aC):Option ((List aC)):=
 bd (kP fu pw po) (fun(x2,x3)=>
 sw (!(x3))
 (some ([]))
 (bd (mZ fu pw) (fun x6=>
 so (jF fu pw po x2 x3 x6) (fun v9=>
 some v9))))
theorem oF(fu:Nat):o9 (eP fu):=by
 intro pw po r H
 have H:=fI H
 refine qI Tryz.func68 (fun C hC=>?_)
 refine qS (qR (q1 (jU ([bV pw.gPackages])) (q1 (jU ([pI po.gPackage,pI po.gAt])) (q1 aF (qN (qS (qR (q1 (cV [bV pw.gPackages] qC) (q1 (cV [pI po.gPackage,pI po.gAt] m5) (fK H fun x2 x3 z1 H=>(q1 (bI Tryz.func81 (uU fu pw po _ z1)) (q1 aF ?_))))))))))))
 iterate 2 refine q1 y1 ?_
 refine q1 (iV tU) (q1 (bU rR) (q1 aF (qN ?_)))
 iterate 2 refine qS ?_
 refine qR (q1 aF (q1 gT (qN ?_)))
 refine bA H (fun h4 H=>?_) (fun h4 H=>?_)
 ·refine qS (qR (q1 aF (qN (aP.ret ?_))))
  obtain rfl:_=r:=(aY H:)
  exact bM
 refine aP.skip (qS (qR (q1 (t2 ([]:List aC) nJ AE) (q1 aF (qN ?_)))))
 iterate 2 refine qS ?_
 refine qR (q1 (cV [bV pw.gPackages] qC) (bO H fun x6 z5 H=>(q1 (bI Tryz.func73 (yL fu pw _ z5)) (q1 (eT nJ (aC.trs_len _)) (q1 aF (qN ?_))))))
 refine lR 24 (aC.trs_len _) (fun hl10=>?_)
 refine cM (σ:=(List aC)) (fun i7 v9=>⟨[(2,.fn 71 []),(3,.ptr 0 0),(4,.ptr 1 0),(6,.nil),(7,.ptr 2 0),(9,fF v9 0),(24,cD x6),(25,pN x6.length),(26,pN i7)],⟨[some ⟨26,[bV pw.gPackages]⟩,some ⟨45,[pI po.gPackage,pI po.gAt]⟩,some ⟨55,gO x2⟩],[⟨45,2,aC.trs (v9),false⟩]⟩⟩) (fun v9=>⟨[(6,.nil),(9,fF v9 0)],⟨[some ⟨26,[bV pw.gPackages]⟩,some ⟨45,[pI po.gPackage,pI po.gAt]⟩,some ⟨55,gO x2⟩],[⟨45,2,aC.trs (v9),false⟩]⟩⟩) (gU H) ?_ ?_
 ·rintro i7 v9 H
  refine qS (qR (q1 hZ (qN (qS ?_))))
  refine eW H (fun h11 h11l H=>?_) (fun h11 H=>?_)
  ·have h11n:=a8 h11
   refine aP.skip (qS (aP.block (qS (qR (q1 (iH h11n nJ) (q1 (j0 (aC.cs (a3 x6 i7)) m5) (q1 (iV AE) (q1 (bU afZ) (qN (qS (qR (q1 (cV [bV pw.gPackages] qC) (q1 (cV [pI ((a3 x6 i7).gPackage),pI ((a3 x6 i7).gAt)] m5) ?_)))))))))))))
   refine fK H fun x13 x14 z12 H=>(q1 (bI Tryz.func81 (uU fu pw (a3 x6 i7) _ z12)) (q1 aF ?_))
   iterate 2 refine q1 y1 ?_
   refine q1 (iV tU) (q1 (bU rR) (q1 aF (qN (qS (qR (q1 (cV [pI ((a3 x6 i7).gPackage),pI ((a3 x6 i7).gAt)] m5) (q1 (cV [pI po.gPackage,pI po.gAt] m5) (q1 (aV.neqP rfl rfl rfl rfl M7 M8) (q1 aF ?_)))))))))
   refine d9 39 H (fun g15 H=>?_) fun g15 H=>?_
   ·refine qg g15 (a5 zF) (qg g15 (bG fB) (qg g15 (a5 zF) (qg g15 (bG fB) (qg g15 GS (q1 (bR g15) (q1 aF ?_))))))
    refine d9 46 H (fun g16 H=>?_) fun g16 H=>?_
    ·refine qg g16 aF (qg g16 (a5 nL) (qg g16 (cV [pI x2.gHead.gKind,pS x2.gHead.gName,a4 x2.gHead.gArgs] cH) (qg g16 (a5 nL) (qg g16 (cV [pI x13.gHead.gKind,pS x13.gHead.gName,a4 x13.gHead.gArgs] cH) (bO H fun x18 z17 H=>(qg g16 (rCv Tryz.func71 (uS fu x2.gHead x13.gHead _ z17)) (q1 (bR g16) (qN ?_))))))))
     refine bA H (fun h19 H=>?_) (fun h19 H=>?_)
     ·refine qR (q1 aF (q1 (cV [pI ((a3 x6 i7).gPackage),pI ((a3 x6 i7).gAt)] m5) (q1 (iA ([(a3 x6 i7)]:List aC) nJ AE) (dF H fun z20 H=>(q1 (mJ z20 nJ aeH) (q1 aF (qN (qR (q1 (aV.addI rfl rfl rfl rfl (c:=((i7+1:Nat):Int)) (by omega) (by omega)) (q1 aF (qN ?_)))))))))))
      exact iY h11l ⟨_,(aY H:),b0⟩
     refine aP.skip (qR (q1 (aV.addI rfl rfl rfl rfl (c:=((i7+1:Nat):Int)) (by omega) (by omega)) (q1 aF (qN ?_))))
     exact iY h11l ⟨_,(aY H:),b0⟩
    iterate 6 refine qk g16 ?_
    refine q1 (b5 g16) (qN (iX rfl (aP.skip (qR (q1 (aV.addI rfl rfl rfl rfl (c:=((i7+1:Nat):Int)) (by omega) (by omega)) (q1 aF (qN ?_)))))))
    exact iY h11l ⟨_,(aY H:),b0⟩
   iterate 5 refine qk g15 ?_
   refine q1 (b5 g15) (q1 aF ?_)
   iterate 6 refine qk rfl ?_
   refine q1 (b5 rfl) (qN (iX rfl (aP.skip (qR (q1 (aV.addI rfl rfl rfl rfl (c:=((i7+1:Nat):Int)) (by omega) (by omega)) (q1 aF (qN ?_)))))))
   exact iY h11l ⟨_,(aY H:),b0⟩
  refine aP.exit ?_;exact lS ⟨_,H,b0⟩
 rintro v9 H
 refine qS (qR ?_)
 iterate 2 refine q1 aF ?_
 refine qN (aP.ret ?_)
 obtain rfl:_=r:=(aY H:)
 exact bM
def xC(m:aO→aC→Option ((List aC))):Prop:= ∀(pw:aO) (po:aC) (r:(List aC)),m pw po=some r→cE Tryz.prog 21 [(aO.pv pw),(aC.pv po)] (cD r:PV)
def dM(fu:Nat)(pw:aO)(po:aC):Option ((List aC)):=
 bd (eP fu pw po) (fun x2=>
 some x2)
theorem o3(fu:Nat):xC (dM fu):=by
 intro pw po r H
 have H:=fI H
 refine qI Tryz.func21 (fun C hC=>?_)
 refine qS (qR (q1 (jU ([bV pw.gPackages])) (q1 (jU ([pI po.gPackage,pI po.gAt])) (q1 aF (qN (qS (qR (q1 (cV [bV pw.gPackages] qC) (q1 (cV [pI po.gPackage,pI po.gAt] m5) (bO H fun x2 z1 H=>(q1 (bI Tryz.func68 (oF fu pw po _ z1)) (q1 aF (qN ?_)))))))))))))
 refine aP.ret ?_
 obtain rfl:_=r:=(aY H:)
 exact bM
def xN(m:aO→aC→Option ((List aC))):Prop:= ∀(pw:aO) (po:aC) (r:(List aC)),m pw po=some r→cE Tryz.prog 22 [(aO.pv pw),(aC.pv po)] (cD r:PV)
def iT(fu:Nat)(pw:aO)(po:aC):Option ((List aC)):=
 bd (qF fu pw po false) (fun x2=>
 some x2)
theorem wE(fu:Nat):xN (iT fu):=by
 intro pw po r H
 have H:=fI H
 refine qI Tryz.func22 (fun C hC=>?_)
 refine qS (qR (q1 (jU ([bV pw.gPackages])) (q1 (jU ([pI po.gPackage,pI po.gAt])) (q1 aF (qN (qS (qR (q1 (cV [bV pw.gPackages] qC) (q1 (cV [pI po.gPackage,pI po.gAt] m5) (bO H fun x2 z1 H=>(q1 (bI Tryz.func70 (KV fu pw po false _ z1)) (q1 aF (qN ?_)))))))))))))
 refine aP.ret ?_
 obtain rfl:_=r:=(aY H:)
 exact bM
def Y3(m:(List UInt8)→Option Bool):Prop:= ∀(pa0:List UInt8) (r:Bool),m pa0=some r→cE Tryz.prog 4 [rU pa0] (pB r:PV)
def BM(fu:Nat)(pa0:List UInt8)(x2:Bool)(x5:aO)(x6:aC)(x8 x10:List aC)(x12:Bool)(x15 x17:List aC)(x19:Bool)(i21:Nat)(x25:List aC):Nat→Bool→Option (LR Bool (LR Unit Bool)):=
 fun i26 v27=>sw (v27)
 (some (.next true))
 (some (.next (decide (((a3 x25 i26).gPackage:Int)=x6.gPackage)&&decide (((a3 x25 i26).gAt:Int)=x6.gAt))))
def BN(fu:Nat)(pa0:List UInt8)(x2:Bool)(x5:aO)(x6:aC)(x8 x10:List aC)(x12:Bool)(x15 x17:List aC)(x19:Bool)(i21:Nat)(x25:List aC):Option ((LR Unit Bool)⊕Bool):=
 loopN (BM fu pa0 x2 x5 x6 x8 x10 x12 x15 x17 x19 i21 x25) (x25.length-0) 0 false
def KM(fu:Nat)(pa0:List UInt8)(x2:Bool)(x5:aO)(x6:aC)(x8 x10:List aC)(x12:Bool)(x15 x17:List aC)(x19:Bool):Nat→Unit→Option (LR Unit Bool):=
 fun i21 _=>bd (dM fu x5 (a3 x8 i21)) (fun x25=>
 so (BN fu pa0 x2 x5 x6 x8 x10 x12 x15 x17 x19 i21 x25) (fun v27=>
 sw (!(v27))
 (some (.ret false))
 (sw (decide (((a3 x8 i21).gPackage:Int)=x6.gPackage)&&decide (((a3 x8 i21).gAt:Int)=x6.gAt))
 (some (.ret false))
 (some (.next ())))))
def wL(fu:Nat)(pa0:List UInt8)(x2:Bool)(x5:aO)(x6:aC)(x8 x10:List aC)(x12:Bool)(x15 x17:List aC)(x19:Bool):Option (Bool⊕Unit):=
 loopN (KM fu pa0 x2 x5 x6 x8 x10 x12 x15 x17 x19) (x8.length-0) 0 ()
def FR(fu:Nat)(pa0:List UInt8):Option Bool:=
 bd (Y5 fu pa0) (fun x2=>
 sw (x2)
 (some true)
 (bd (gJ fu pa0) (fun(x5,x6)=>
 bd (eD fu x5 x6) (fun x8=>
 bd (iS fu x5 x6) (fun x10=>
 bd (iP fu x8 x10) (fun x12=>
 sw (!(x12))
 (some false)
 (bd (dM fu x5 x6) (fun x15=>
 bd (iT fu x5 x6) (fun x17=>
 bd (iP fu x15 x17) (fun x19=>
 sw (!(x19))
 (some false)
 (so (wL fu pa0 x2 x5 x6 x8 x10 x12 x15 x17 x19) (fun _=>
 some true))))))))))))
theorem VR(fu:Nat):Y3 (FR fu):=by
 intro pa0 r H
 have H:=fI H
 refine qI Tryz.func4 (fun C hC=>?_)
 refine qS (qR (q1 aF (qN ?_)))
 iterate 2 refine qS ?_
 refine qR (q1 aF (bO H fun x2 z1 H=>(q1 (bI Tryz.func10 (agI fu pa0 _ z1)) (qN ?_))))
 refine bA H (fun h3 H=>?_) (fun h3 H=>?_)
 ·refine qS (qR (q1 aF (qN (aP.ret ?_))))
  obtain rfl:_=r:=(aY H:)
  exact bM
 refine aP.skip (qS (qR (q1 aF (fK H fun x5 x6 z4 H=>(q1 (bI Tryz.func17 (tL fu pa0 _ z4)) (q1 aF ?_))))))
 iterate 2 refine q1 y1 ?_
 refine q1 (iV L5) (q1 (iV AE) (q1 (bU L3) (q1 (bU afZ) (qN (qS (qR (q1 (cV [bV x5.gPackages] qC) (q1 (cV [pI x6.gPackage,pI x6.gAt] m5) (bO H fun x8 z7 H=>(q1 (bI Tryz.func18 (wD fu x5 x6 _ z7)) (q1 aF (qN ?_))))))))))))
 iterate 2 refine qS ?_
 refine bO H fun x10 z9 H=>(bO H fun x12 z11 H=>?_)
 rcases kM (!(x12)) with g13|g13
 ·have H:=nR H g13
  refine dW (dI [5] aF (dD [3] (cV [bV x5.gPackages] qC) (dD [4] (cV [pI x6.gPackage,pI x6.gAt] m5) (dI [21,22] (bI Tryz.func20 (o4 fu x5 x6 _ z9)) (dI [20,23] (bI Tryz.func19 (xI fu x8 x10 _ z11)) (dI [24] gT (dI [25] aF ?_)))))))
  iterate 8 refine CL g13 ?_
  refine dI [26] (bR g13) (dN (dV rfl (qS (qR (q1 aF (qN (aP.ret ?_)))))))
  obtain rfl:_=r:=(aY H:)
  exact bM
 have H:=nQ H g13
 refine bO H fun x15 z14 H=>(bO H fun x17 z16 H=>(bO H fun x19 z18 H=>(dW (dI [5] aF (dD [3] (cV [bV x5.gPackages] qC) (dD [4] (cV [pI x6.gPackage,pI x6.gAt] m5) (dI [21,22] (bI Tryz.func20 (o4 fu x5 x6 _ z9)) (dI [20,23] (bI Tryz.func19 (xI fu x8 x10 _ z11)) (dI [24] gT (dI [25] aF (dD (hg:=aZ g13) [3] (cV [bV x5.gPackages] qC) (dD (hg:=aZ g13) [4] (cV [pI x6.gPackage,pI x6.gAt] m5) (dI (hg:=aZ g13) [27,28] (bI Tryz.func21 (o3 fu x5 x6 _ z14)) ?_)))))))))))))
 refine dD (hg:=aZ g13) [3] (cV [bV x5.gPackages] qC) (dD (hg:=aZ g13) [4] (cV [pI x6.gPackage,pI x6.gAt] m5) (dI (hg:=aZ g13) [30,31] (bI Tryz.func22 (wE fu x5 x6 _ z16)) (dI (hg:=aZ g13) [29,32] (bI Tryz.func19 (xI fu x15 x17 _ z18)) (dI (hg:=aZ g13) [33] gT (dI [26,34] (b5 g13) (dN ?_))))))
 refine bA H (fun h20 H=>?_) (fun h20 H=>?_)
 ·refine qS (qR (q1 aF (qN (aP.ret ?_))))
  obtain rfl:_=r:=(aY H:)
  exact bM
 refine aP.skip ?_
 iterate 2 refine qS ?_
 refine qR (q1 aF (qN ?_))
 refine lR 5 (aC.trs_len _) (fun hl22=>?_)
 refine cM (σ:=Unit) (fun i21 _=>⟨[(2,pB false),(3,.ptr 0 0),(4,.ptr 1 0),(5,cD x8),(6,pN i21)],⟨[some ⟨26,[bV x5.gPackages]⟩,some ⟨45,[pI x6.gPackage,pI x6.gAt]⟩],[]⟩⟩) (fun _=>⟨[(2,pB false)],⟨[some ⟨26,[bV x5.gPackages]⟩,some ⟨45,[pI x6.gPackage,pI x6.gAt]⟩],[]⟩⟩) (gU H) ?_ ?_
 ·rintro i21 ⟨⟩ H
  iterate 2 refine qS ?_
  refine qR ?_
  iterate 2 refine q1 aF ?_
  refine q1 (eT nJ (aC.trs_len _)) (q1 hZ (qN ?_))
  refine eW H (fun h23 h23l H=>?_) (fun h23 H=>?_)
  ·have h23n:=a8 h23
   refine aP.skip (qS (aP.block (qS (bO H fun x25 z24 H=>(dW (dD [3] (cV [bV x5.gPackages] qC) (dI [5] aF (dI [6] aF (dI [43,44] (iH h23n nJ) (dI [45] (j0 (aC.cs (a3 x8 i21)) m5) (dI [42,46] (bI Tryz.func21 (o3 fu x5 (a3 x8 i21) _ z24)) (dI [47] aF (dN ?_)))))))))))))
   refine qS (qR (q1 aF (qN ?_)))
   iterate 2 refine qS ?_
   refine qR (q1 aF (qN ?_))
   refine lR 7 (aC.trs_len _) (fun hl28=>?_)
   refine cM (σ:=Bool) (fun i26 v27=>⟨[(2,pB false),(3,.ptr 0 0),(4,.ptr 1 0),(5,cD x8),(6,pN i21),(7,cD x25),(8,pB v27),(9,pN i26),(36,pN i21),(37,cD x8),(38,pN x8.length),(39,pB (decide ((((i21:Nat):Int):Int)<((x8.length:Nat):Int)))),(42,(aO.pv x5)),(43,cD x8),(44,pN i21),(45,.eptr (aC.cs (a3 x8 i21))),(46,(aC.pv (a3 x8 i21))),(47,cD x25)],⟨[some ⟨26,[bV x5.gPackages]⟩,some ⟨45,[pI x6.gPackage,pI x6.gAt]⟩],[]⟩⟩) (fun v27=>⟨[(2,pB false),(3,.ptr 0 0),(4,.ptr 1 0),(5,cD x8),(6,pN i21),(7,cD x25),(8,pB v27),(36,pN i21),(37,cD x8),(38,pN x8.length),(39,pB (decide ((((i21:Nat):Int):Int)<((x8.length:Nat):Int)))),(42,(aO.pv x5)),(43,cD x8),(44,pN i21),(45,.eptr (aC.cs (a3 x8 i21))),(46,(aC.pv (a3 x8 i21))),(47,cD x25)],⟨[some ⟨26,[bV x5.gPackages]⟩,some ⟨45,[pI x6.gPackage,pI x6.gAt]⟩],[]⟩⟩) (gU H) ?_ ?_
   ·rintro i26 v27 H
    iterate 2 refine qS ?_
    refine qR ?_
    iterate 2 refine q1 aF ?_
    refine q1 (eT nJ (aC.trs_len _)) (q1 hZ (qN ?_))
    refine eW H (fun h29 h29l H=>?_) (fun h29 H=>?_)
    ·have h29n:=a8 h29
     refine aP.skip (qS (aP.block ?_))
     rcases kM (v27) with g30|g30
     ·have H:=nR H g30
      refine dW (dI [8] aF (dI [54] aF ?_))
      iterate 6 refine CL g30 ?_
      refine dI [55] (bR g30) (dI [62] aF (dN (qR (q1 aF (q1 (aV.addI rfl rfl rfl rfl (c:=((i26+1:Nat):Int)) (by omega) (by omega)) (q1 aF (qN ?_)))))))
      exact iY h29l ⟨_,(aY H:),b0⟩
     have H:=nQ H g30
     refine dW (dI [8] aF (dI [54] aF (dI (hg:=aZ g30) [7] aF (dI (hg:=aZ g30) [9] aF (dI (hg:=aZ g30) [56,57] (iH h29n nJ) (dI (hg:=aZ g30) [58] (j0 (aC.cs (a3 x25 i26)) m5) (dD (hg:=aZ g30) [4] (cV [pI x6.gPackage,pI x6.gAt] m5) (dI (hg:=aZ g30) [59,60] (aV.eqlP rfl rfl rfl rfl M7 M8) (dI [55,61] (b5 g30) (dI [62] aF (dN (qR (q1 aF ?_)))))))))))))
     refine q1 (aV.addI rfl rfl rfl rfl (c:=((i26+1:Nat):Int)) (by omega) (by omega)) (q1 aF (qN ?_))
     exact iY h29l ⟨_,(aY H:),b0⟩
    refine aP.exit ?_;exact lS ⟨_,H,b0⟩
   rintro v27 H
   refine qS ?_
   rcases kM (!(v27)) with g31|g31
   ·have H:=nR H g31
    refine dW (dI [8] aF (dI [63] gT (dI [64] aF ?_)))
    iterate 6 refine CL g31 ?_
    refine dI [65] (bR g31) (dN (dV rfl (qS (qR (q1 aF (qN (aP.ret ?_)))))))
    obtain rfl:_=r:=(rG (aY H):)
    exact bM
   have H:=nQ H g31
   refine dW (dI [8] aF (dI [63] gT (dI [64] aF (dI (hg:=aZ g31) [5] aF (dI (hg:=aZ g31) [6] aF (dI (hg:=aZ g31) [66,67] (iH h23n nJ) (dI (hg:=aZ g31) [68] (j0 (aC.cs (a3 x8 i21)) m5) (dD (hg:=aZ g31) [4] (cV [pI x6.gPackage,pI x6.gAt] m5) (dI (hg:=aZ g31) [69,70] (aV.eqlP rfl rfl rfl rfl M7 M8) (dI [65,71] (b5 g31) (dN ?_)))))))))))
   refine bA H (fun h32 H=>?_) (fun h32 H=>?_)
   ·refine qS (qR (q1 aF (qN (aP.ret ?_))))
    obtain rfl:_=r:=(rG (aY H):)
    exact bM
   refine aP.skip (qR (q1 aF (q1 (aV.addI rfl rfl rfl rfl (c:=((i21+1:Nat):Int)) (by omega) (by omega)) (q1 aF (qN ?_)))))
   exact iY h23l ⟨_,(aY H:),b0⟩
  refine aP.exit ?_;exact lS ⟨_,H,b0⟩
 rintro⟨⟩ H
 refine qS (qR (q1 aF (qN (aP.ret ?_))))
 obtain rfl:_=r:=(aY H:)
 exact bM
end
end Go.Proofs.YtpioomclpaiomaaGreat.W

namespace Go.Proofs.YtpioomclpaiomaaGreat.W
set_option linter.unusedSimpArgs false
set_option linter.unusedVariables false
open Go.RowKit Go.Proofs
attribute [local irreducible] lt wt wl
theorem HP{α:Type}[Inhabited α](q:α→Bool): ∀(l:List α) (k j:Nat),l.length-j=k→(List.range' j k).flatMap (fun i=>bif q (a3 l i) then [] else [a3 l i])=(l.drop j).filter (fun x=> !q x)
 |l,0,j,hk=>by rw [List.drop_of_length_le (by omega)];simp
 |l,k+1,j,hk=>by
  have hj:j<l.length:=by omega
  rw [List.range'_succ,List.flatMap_cons,HP q l k (j+1) (by omega),vI hj,List.filter_cons]
  cases q (a3 l j)<;>rfl
theorem vQ{σ β:Type}{f:Nat→σ→Option (LR σ β)}{s:σ}{n:Nat}(hs: ∀i,i<n→f i s=some (.next s)): ∀k j,n-j=k→loopN f k j s=some (.inr s)
 |0,j,hk=>by rw [loopN]
 |k+1,j,hk=>by
  rw [loopN,hs j (by omega)]
  exact vQ hs k (j+1) (by omega)
theorem SP(fu:Nat)(l:List aC):iP fu l l=some true:=by
 unfold iP EN
 refine uL (by simp) ?_
 rw [vQ (f:=xH fu l l) (n:=l.length) (s:=()) (fun i hi=>by
  unfold xH
  exact uG hi (uL (by simp) rfl)) _ 0 rfl]
 rfl
theorem agH{w:aO}{o:aC}(hw:wt w≤13000000)(hR:vN w o):wt (dR w o)≤13000000:=by
 obtain⟨i,k,rfl,hi,hk⟩:=hR
 have:=aO.wt_eq w
 have:=cN w.gPackages i hi
 have:=aK.wt_eq (a3 w.gPackages i)
 have:=cN (a3 w.gPackages i).gInstances k hk
 show wt (a3 (a3 w.gPackages i).gInstances k)≤13000000
 omega
theorem agG{w:aO}{o:aC}(hw:wt w≤13000000)(hR:vN w o):wt (dR w o).gHead≤13000000:=by
 have:=agH hw hR
 have:=aH.wt_eq (dR w o)
 omega
end Go.Proofs.YtpioomclpaiomaaGreat.W

namespace Go.Proofs.YtpioomclpaiomaaGreat.W
set_option linter.unusedSimpArgs false
set_option linter.unusedVariables false
open Go.RowKit Go.Proofs
theorem agF{fu:Nat}{code:List UInt8}{w:aO}{d:DS}(hb:code.length≤1048576)(hr:wW fu (DS.start code)=some (w,d)): ∃o,gJ fu code=some (w,o):=by
 unfold gJ rH
 rw [uG hb rfl,hr]
 exact⟨_,rfl⟩
attribute [local irreducible] lt
def Y9:aH:=aH.mk s_ [] (aA.mk 0 s_ []) [] false false (aA.mk 0 s_ []) []
theorem VP{w:aO}{a b:Int}(h1:0≤a)(h2:a.toNat<w.gPackages.length)(h3:0≤b)(h4:b.toNat<(a3 w.gPackages a.toNat).gInstances.length):vN w (aC.mk a b):=
 ⟨a.toNat,b.toNat,by rw [Int.toNat_of_nonneg h1,Int.toNat_of_nonneg h3],h2,h4⟩
theorem VM(fu:Nat)(w:aO)(o:aC)(ho: ¬vN w o):kP fu w o=some (Y9,false):=by
 obtain⟨a,b⟩:=o
 unfold kP
 by_cases h1:a<0
 ·exact EV (decide_eq_true h1) rfl
 refine uL (decide_eq_false h1) ?_
 by_cases h2:a≥(w.gPackages.length:Int)
 ·exact EV (decide_eq_true h2) rfl
 refine uL (decide_eq_false h2) ?_
 by_cases h3:b<0
 ·exact EV (decide_eq_true h3) rfl
 refine uL (decide_eq_false h3) (uG (by show 0≤a∧a.toNat<_;omega) (ltE rfl ?_))
 by_cases h4:b≥((a3 w.gPackages a.toNat).gInstances.length:Int)
 ·exact EV (decide_eq_true h4) rfl
 exact absurd (VP (by omega) (by omega) (by omega) (by omega)) ho
theorem afC(fu:Nat)(w:aO)(o:aC)(ho: ¬vN w o)(h1:w.gPackages.length≤13000000)(h2: ∀i,i<w.gPackages.length→(a3 w.gPackages i).gInstances.length≤13000000):mT fu w o=some (Y9,false):=by
 obtain⟨a,b⟩:=o
 have e1: ∀(x:Int) (n:Nat),n≤13000000→kZ fu x 0 (aQ ((n:Int)-1))=some (decide (0≤x∧x<n)):=fun x n hn=>by
  unfold kZ
  rw [UW (by omega) (by omega)]
  by_cases h:x≥0
  ·refine EV (decide_eq_true h) (congrArg some ?_)
   by_cases h':x≤(n:Int)-1
   ·rw [decide_eq_true h',decide_eq_true (by omega)]
   ·rw [decide_eq_false h',decide_eq_false (by omega)]
  ·exact uL (decide_eq_false h) (by rw [decide_eq_false (by omega)])
 unfold mT
 rw [show kZ fu (aC.mk a b).gPackage 0 (aQ ((w.gPackages.length:Int)-1))=_ from e1 a _ h1]
 by_cases ha:0≤a∧a<(w.gPackages.length:Int)
 ·rw [decide_eq_true ha]
  have h3:a.toNat<w.gPackages.length:=by omega
  refine uG (by show 0≤a∧a.toNat<_;omega) (ltE rfl ?_)
  rw [show kZ fu (aC.mk a b).gAt 0 (aQ (((a3 w.gPackages (aC.mk a b).gPackage.toNat).gInstances.length:Int)-1))=_ from e1 b _ (h2 _ h3)]
  by_cases hb:0≤b∧b<((a3 w.gPackages (aC.mk a b).gPackage.toNat).gInstances.length:Int)
  ·have hb':0≤b∧b<((a3 w.gPackages a.toNat).gInstances.length:Int):=hb
   exact absurd (VP (by omega) h3 (by omega) (by omega)) ho
  ·rw [decide_eq_false hb]
   rfl
 ·rw [decide_eq_false ha]
  rfl
def tJ(r o:aC):Bool:=decide ((r.gPackage:Int)=o.gPackage)&&decide ((r.gAt:Int)=o.gAt)
def LD(w:aO)(o:aC)(less:Bool)(r:aC):Bool:= !tJ r o&&(decide ((dR w r).gTrait=(dR w o).gTrait)&&(bif less then nM (dR w r).gHead (dR w o).gHead else nM (dR w o).gHead (dR w r).gHead))
def qP(w:aO)(o:aC)(less:Bool):List aC:=(dT w).filter (LD w o less)
theorem qQ(w:aO)(o:aC)(less:Bool):(List.range' 0 ((dT w).length-0)).flatMap (fun i=>bif LD w o less (a3 (dT w) i) then [a3 (dT w) i] else [])=qP w o less:=by
 have h:=HP (fun r=> !LD w o less r) (dT w) _ 0 rfl
 rw [List.drop_zero] at h
 simp only [Bool.not_not] at h
 unfold qP
 rw [← h]
 congr 1
 funext i
 cases LD w o less (a3 (dT w) i)<;>rfl
theorem JB{w:aO}(hw:wt w≤13000000)(o:aC)(less:Bool):(qP w o less).length≤13000000:=Nat.le_trans (List.length_filter_le _ _) (vG hw)
section
variable {fu:Nat} {w:aO} (hw:wt w≤13000000) {o:aC}
include hw
theorem u3(ho:vN w o):Tr.bulkL (aA.tr (dR w o).gHead)≤68719476735:=Nat.le_trans (agG hw ho) (by decide)
theorem ae1(ho:vN w o):eD fu w o=some (qP w o true):=by
 have hl:=vG hw
 have h:=sF (F:=eE fu w o (dR w o) true (dT w)) (n:=(dT w).length) (g:=fun i=>bif LD w o true (a3 (dT w) i) then [a3 (dT w) i] else []) (M:=68719476736) (fun i v hi hv=>by
  have hr:=MO (kL hi)
  unfold eE j9
  generalize a3 (dT w) i=r at hr hv ⊢
  rw [HK fu w r hr]
  unfold LD at hv ⊢
  show sw (!tJ r o) (sw (decide ((dR w r).gTrait=(dR w o).gTrait)) (bd (gd _ (gd _ (some (nM (dR w r).gHead (dR w o).gHead)))) _) _) _=_
  rw [uG (u3 hw hr) (uG (u3 hw ho) rfl)]
  revert hv
  cases tJ r o<;>cases decide ((dR w r).gTrait=(dR w o).gTrait)<;>cases nM (dR w r).gHead (dR w o).gHead<;>intro hv<;>first|exact uG hv rfl|exact congrArg (fun x=>some (LR.next x)) (List.append_nil v).symm) _ 0 [] rfl (by
  rw [qQ,List.length_nil,Nat.zero_add]
  have:=JB hw o true
  omega)
 rw [qQ,List.nil_append] at h
 unfold eD eO jE
 rw [HK fu w o ho,abY fu w (by omega)]
 show bd (so (loopN (eE fu w o (dR w o) true (dT w)) ((dT w).length-0) 0 []) _) _=_
 rw [h]
 rfl
theorem VL(ho:vN w o):dM fu w o=some (qP w o false):=by
 have hl:=vG hw
 have h:=sF (F:=eF fu w o (dR w o) true (dT w)) (n:=(dT w).length) (g:=fun i=>bif LD w o false (a3 (dT w) i) then [a3 (dT w) i] else []) (M:=68719476736) (fun i v hi hv=>by
  have hr:=MO (kL hi)
  unfold eF kA
  generalize a3 (dT w) i=r at hr hv ⊢
  rw [HK fu w r hr]
  unfold LD at hv ⊢
  show sw (!tJ r o) (sw (decide ((dR w r).gTrait=(dR w o).gTrait)) (bd (gd _ (gd _ (some (nM (dR w o).gHead (dR w r).gHead)))) _) _) _=_
  rw [uG (u3 hw ho) (uG (u3 hw hr) rfl)]
  revert hv
  cases tJ r o<;>cases decide ((dR w r).gTrait=(dR w o).gTrait)<;>cases nM (dR w o).gHead (dR w r).gHead<;>intro hv<;>first|exact uG hv rfl|exact congrArg (fun x=>some (LR.next x)) (List.append_nil v).symm) _ 0 [] rfl (by
  rw [qQ,List.length_nil,Nat.zero_add]
  have:=JB hw o false
  omega)
 rw [qQ,List.nil_append] at h
 unfold dM eP jF
 rw [HK fu w o ho,abY fu w (by omega)]
 show bd (so (loopN (eF fu w o (dR w o) true (dT w)) ((dT w).length-0) 0 []) _) _=_
 rw [h]
 rfl
theorem V2(hf:13000000<fu)(less:Bool)(ho:vN w o):qF fu w o less=some (qP w o less):=by
 have hl:=vG hw
 have h2:=fun i hi=>(aO.len_at hw i hi).2.2
 have h:=sF (F:=tQ fu w o less (dR w o) true (dT w)) (n:=(dT w).length) (g:=fun i=>bif LD w o less (a3 (dT w) i) then [a3 (dT w) i] else []) (M:=68719476736) (fun i v hi hv=>by
  have hr:=MO (kL hi)
  unfold tQ
  generalize a3 (dT w) i=r at hr hv ⊢
  rw [V5 fu w r hr (aO.len_wt hw) h2]
  have b1:=u3 hw ho
  have b2:=u3 hw hr
  unfold LD at hv ⊢
  show sw (tJ r o) _ (sw (!decide ((dR w r).gTrait=(dR w o).gTrait)) _ (sw less (gd _ (gd _ (sw (nM (dR w r).gHead (dR w o).gHead) _ _))) (gd _ (gd _ (sw (nM (dR w o).gHead (dR w r).gHead) _ _)))))=_
  revert hv
  cases less
  ·cases tJ r o<;>cases decide ((dR w r).gTrait=(dR w o).gTrait)<;>cases nM (dR w o).gHead (dR w r).gHead<;>intro hv<;>first|exact uG b1 (uG b2 (uG hv rfl))|exact uG b1 (uG b2 (congrArg (fun x=>some (LR.next x)) (List.append_nil v).symm))|exact congrArg (fun x=>some (LR.next x)) (List.append_nil v).symm
  ·cases tJ r o<;>cases decide ((dR w r).gTrait=(dR w o).gTrait)<;>cases nM (dR w r).gHead (dR w o).gHead<;>intro hv<;>first|exact uG b2 (uG b1 (uG hv rfl))|exact uG b2 (uG b1 (congrArg (fun x=>some (LR.next x)) (List.append_nil v).symm))|exact congrArg (fun x=>some (LR.next x)) (List.append_nil v).symm) _ 0 [] rfl (by
  rw [qQ,List.length_nil,Nat.zero_add]
  have:=JB hw o less
  omega)
 rw [qQ,List.nil_append] at h
 unfold qF CA
 rw [V5 fu w o ho (aO.len_wt hw) h2,ab7 fu w (by omega) (aO.small_wt hw hf) h2]
 show so (loopN (tQ fu w o less (dR w o) true (dT w)) ((dT w).length-0) 0 []) _=_
 rw [h]
 rfl
theorem V3(hf:13000000<fu)(less:Bool)(ho: ¬vN w o):qF fu w o less=some []:=by
 have hl:=vG hw
 have h2:=fun i hi=>(aO.len_at hw i hi).2.2
 unfold qF CA
 rw [afC fu w o ho (aO.len_wt hw) h2,ab7 fu w (by omega) (aO.small_wt hw hf) h2]
 show so (loopN (tQ fu w o less Y9 false (dT w)) ((dT w).length-0) 0 []) _=_
 cases h:(dT w).length-0 with
 |zero=>rw [loopN];rfl
 |succ n=>
  rw [loopN]
  rfl
end
theorem Q9{β:Type}{F:Nat→Bool→Option (LR Bool β)}{p:Nat→Bool}{n:Nat}(hs: ∀i v,i<n→F i v=some (.next (v||p i))): ∀k j v,n-j=k→loopN F k j v=some (.inr (v||(List.range' j k).any p))
 |0,j,v,hk=>by rw [loopN];simp
 |k+1,j,v,hk=>by
  rw [loopN,hs j v (by omega),List.range'_succ,List.any_cons,← Bool.or_assoc]
  exact Q9 hs k (j+1) _ (by omega)
theorem agP{w:aO}{o:aC}(h:vN w o):o∈dT w:=by
 obtain⟨i,k,rfl,hi,hk⟩:=h
 refine List.mem_flatMap.2 ⟨i,by rw [List.mem_range'_1];omega,List.mem_map.2 ⟨k,by rw [List.mem_range'_1];omega,rfl⟩⟩
theorem ZD(o:aC):tJ o o=true:=by simp [tJ]
theorem ZC(a b:aC):tJ a b=tJ b a:=by
 unfold tJ
 rw [Bool.eq_iff_iff,Bool.and_eq_true,Bool.and_eq_true,decide_eq_true_eq,decide_eq_true_eq,decide_eq_true_eq,decide_eq_true_eq]
 exact⟨fun h=>⟨h.1.symm,h.2.symm⟩,fun h=>⟨h.1.symm,h.2.symm⟩⟩
theorem aeQ{fu:Nat}{w:aO}(hw:wt w≤13000000)(hf:13000000<fu)(code:List UInt8)(o:aC):
 (bd (eD fu w o) fun x8=>bd (iS fu w o) fun x10=>bd (iP fu x8 x10) fun x12=>sw (!x12) (some false) (bd (dM fu w o) fun x15=>bd (iT fu w o) fun x17=>bd (iP fu x15 x17) fun x19=>sw (!x19) (some false) (so (wL fu code (decide ((code.length:Int)>1048576)) w o x8 x10 x12 x15 x17 x19) fun _=>some true)))=some true:=by
 unfold iS iT
 by_cases ho:vN w o
 ·rw [ae1 hw ho,V2 hw hf true ho,VL hw ho,V2 hw hf false ho]
  show bd (iP fu _ _) _=_
  rw [SP]
  show bd (iP fu _ _) _=_
  rw [SP]
  show so (wL fu code _ w o (qP w o true) _ true _ _ true) (fun _=>some true)=some true
  unfold wL
  refine(congrArg (fun x=>so x fun _=>some true) (vQ (n:=(qP w o true).length) (s:=()) (fun i hi=>?_) _ 0 rfl)).trans rfl
  unfold KM
  have hm:=kL hi
  generalize a3 (qP w o true) i=r at hm ⊢
  obtain⟨hm,hr⟩:=List.mem_filter.1 hm
  have hR:=MO hm
  unfold LD at hr
  simp only [Bool.and_eq_true,Bool.not_eq_true',decide_eq_true_eq,cond_true] at hr
  obtain⟨h1,h2,h3⟩:=hr
  rw [VL hw hR]
  have hmem:o∈qP w r false:=by
   refine List.mem_filter.2 ⟨agP ho,?_⟩
   unfold LD
   rw [ZC,h1,decide_eq_true h2.symm,cond_false,h3]
   rfl
  obtain⟨k,hk,he⟩:=List.mem_iff_getElem.1 hmem
  have ha:=Q9 (F:=BM fu code (decide ((code.length:Int)>1048576)) w o (qP w o true) (qP w o true) true (qP w o false) (qP w o false) true i (qP w r false)) (p:=fun j=>tJ (a3 (qP w r false) j) o) (n:=(qP w r false).length) (fun j v hj=>by
   unfold BM tJ
   cases v<;>rfl) _ 0 false rfl
  have hany:(List.range' 0 ((qP w r false).length-0)).any (fun j=>tJ (a3 (qP w r false) j) o)=true:=by
   rw [List.any_eq_true]
   exact⟨k,by rw [List.mem_range'_1];omega,by rw [iW hk,he];exact ZD o⟩
  rw [hany] at ha
  show so (BN fu code _ w o _ _ true _ _ true i (qP w r false)) _=_
  unfold BN
  refine(congrArg (fun x=>so x _) ha).trans ?_
  show sw (tJ r o) (some (LR.ret false)) (some (LR.next ()))=some (LR.next ())
  rw [h1]
  rfl
 ·have e1:eD fu w o=some []:=by
   unfold eD eO
   rw [VM fu w o ho]
   rfl
  have e2:dM fu w o=some []:=by
   unfold dM eP
   rw [VM fu w o ho]
   rfl
  rw [e1,e2,V3 hw hf true ho,V3 hw hf false ho]
  show bd (iP fu [] []) _=_
  rw [SP]
  rfl
theorem acU(code:List UInt8): ∃fu,FR fu code=some true:=by
 obtain⟨fu,hfu,kW⟩:=((bZ.ge 2147483648).and VQ).get
 refine⟨fu,?_⟩
 unfold FR Y5
 by_cases hb:code.length≤1048576
 ·refine uL (decide_eq_false (by omega)) ?_
  obtain⟨⟨w,d⟩,hr,hw⟩:=kW (DS.start code)
  replace hw:wt w≤13000000:=hw
  obtain⟨o,ho⟩:=agF hb hr
  rw [ho]
  exact aeQ (fu:=fu) hw (by omega) code o
 ·exact EV (decide_eq_true (by omega)) rfl
theorem aeR(code:List UInt8):cE Tryz.prog 4 [rU code] (pB true):=let⟨fu,h⟩:=acU code;VR fu code true h
end Go.Proofs.YtpioomclpaiomaaGreat.W
