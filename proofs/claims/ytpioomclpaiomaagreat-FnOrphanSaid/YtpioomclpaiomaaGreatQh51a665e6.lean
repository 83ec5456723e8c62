/- Words, rules and walks of several kinds, laid together: MaP6, MaP7, MaP8, MaP9, MaFnd. No conditions but those that each theorem states. -/
import Derived.Test.YtpioomclpaiomaaGreatQhe62b1444
import Derived.Test.YtpioomclpaiomaaGreatQh484d5f53
import Derived.Test.YtpioomclpaiomaaGreatQh5e29f3dd
import Derived.Test.YtpioomclpaiomaaGreatQh23a14147
set_option linter.unusedSimpArgs false
set_option linter.unusedVariables false
namespace Go.Proofs.YtpioomclpaiomaaGreat.W
set_option maxRecDepth 100000
set_option maxHeartbeats 40000000
noncomputable section
open Go.RowKit Go.Proofs
set_option linter.unusedSimpArgs false
set_option linter.unusedVariables false
attribute [local irreducible] lt
def W5(m:ByteArray→Option Bool):Prop:= ∀(ps:ByteArray) (r:Bool),m ps=some r→cH Tryz.prog 192 [pS ps] (pB r:PV)
def S7(fu:Nat)(ps:ByteArray):Nat→Unit→Option (LR Unit Bool):=
 fun i1 _=>gd (i1<(ps).size)
 (sw (!decide ((((y2 ps i1).toNat:Int):Int)=32))
 (some (.ret false))
 (some (.next ())))
def SY(fu:Nat)(ps:ByteArray):Option (Bool⊕Unit):=
 loopN (S7 fu ps) (ps.size-0) 0 ()
def BG(fu:Nat)(ps:ByteArray):Option Bool:=
 so (SY fu ps) (fun _=>
 some true)
theorem SV(fu:Nat):W5 (BG fu):=by
 intro ps r H
 have H:=fC H
 refine qI Tryz.func192 (fun C hC=>?_)
 refine qS (qR (q1 aF (qN ?_)))
 iterate 2 refine qS ?_
 refine qR (q1 aF (qN ?_))
 refine szF 0 (fun hl2=>?_)
 refine cG (σ:=Unit) (fun i1 _=>⟨[(0,pS ps),(2,pB false),(3,pN i1)],⟨[],[]⟩⟩) (fun _=>⟨[(2,pB false)],⟨[],[]⟩⟩) (f9 H) ?_ ?_
 ·rintro i1 ⟨⟩ H
  iterate 2 refine qS ?_
  refine qR ?_
  iterate 2 refine q1 aF ?_
  refine q1 (aW.lenS rfl rfl rfl Tryz.underlying9) (q1 gU (qN ?_))
  refine eJ H (fun h3 h3l H=>?_) (fun h3 H=>?_)
  ·have h3n:i1<ps.size:=by have:=of_decide_eq_true h3;omega
   refine aO.skip (qS (aO.block (qS (qR ?_))))
   iterate 2 refine q1 aF ?_
   refine dK H fun z4 H=>(q1 (aW.indexS (k:=i1) rfl rfl rfl rfl z4 Tryz.underlying9) (q1 QI (qN ?_)))
   refine a9 H (fun h5 H=>?_) (fun h5 H=>?_)
   ·refine qS (qR (q1 aF (qN (aO.ret ?_))))
    obtain rfl:_=r:=(pY (aY H):)
    exact bN
   refine aO.skip (qR (q1 aF (q1 (aW.addI rfl rfl rfl rfl (c:=((i1+1:Nat):Int)) (by omega) (by omega)) (q1 aF (qN ?_)))))
   exact jA h3l ⟨_,(aY H:),bZ⟩
  refine aO.exit ?_;exact k7 ⟨_,H,bZ⟩
 rintro⟨⟩ H
 refine qS (qR (q1 aF (qN (aO.ret ?_))))
 obtain rfl:_=r:=(aY H:)
 exact bN
def aaG(m:(ByteArray×(List ByteArray)×(List aP)×(List aI)×(List aH)×(List aL))→aA→Option (Bool×(ByteArray×(List ByteArray)×(List aP)×(List aI)×(List aH)×(List aL)))):Prop:= ∀(pq0:ByteArray×(List ByteArray)×(List aP)×(List aI)×(List aH)×(List aL)) (pa1:aA) (r:Bool×(ByteArray×(List ByteArray)×(List aP)×(List aI)×(List aH)×(List aL))),m pq0 pa1=some r→dG Tryz.prog 220 [.ptr 0 0,(aA.pv pa1)] ⟨[some ⟨131,[pS pq0.1,rS pq0.2.1,u7 pq0.2.2.1 0,lS pq0.2.2.2.1 1,lJ pq0.2.2.2.2.1 2,lM pq0.2.2.2.2.2 3]⟩],[⟨60,5,aP.trs (pq0.2.2.1),false⟩,⟨116,3,aI.trs (pq0.2.2.2.1),false⟩,⟨55,12,aH.trs (pq0.2.2.2.2.1),false⟩,⟨148,16,aL.trs (pq0.2.2.2.2.2),false⟩]⟩ (fun q t=>q=(pB r.1:PV)∧t=⟨[some ⟨131,[pS r.2.1,rS r.2.2.1,u7 r.2.2.2.1 0,lS r.2.2.2.2.1 1,lJ r.2.2.2.2.2.1 2,lM r.2.2.2.2.2.2 3]⟩],[⟨60,5,aP.trs (r.2.2.2.1),false⟩,⟨116,3,aI.trs (r.2.2.2.2.1),false⟩,⟨55,12,aH.trs (r.2.2.2.2.2.1),false⟩,⟨148,16,aL.trs (r.2.2.2.2.2.2),false⟩]⟩)
def E9(fu:Nat)(pq0:ByteArray×(List ByteArray)×(List aP)×(List aI)×(List aH)×(List aL))(pa1:aA):Option (Bool×(ByteArray×(List ByteArray)×(List aP)×(List aI)×(List aH)×(List aL))):=
 bd (cX fu pa1 0) (fun x2=>
 sw (decide (x2.gAtom=BR))
 (bd (tM fu pa1) (fun(x5,x6)=>
 gd ((pq0.2.2.1).length+(([x5]:List aP)).length≤68719476736)
 (some (x6,(pq0.1,pq0.2.1,pq0.2.2.1++([x5]:List aP),pq0.2.2.2.1,pq0.2.2.2.2.1,pq0.2.2.2.2.2)))))
 (sw (decide (x2.gAtom=IB))
 (bd (pE fu pa1) (fun(x10,x11)=>
 gd ((pq0.2.2.2.1).length+(([x10]:List aI)).length≤68719476736)
 (some (x11,(pq0.1,pq0.2.1,pq0.2.2.1,pq0.2.2.2.1++([x10]:List aI),pq0.2.2.2.2.1,pq0.2.2.2.2.2)))))
 (sw (decide (x2.gAtom=IJ))
 (bd (pQ fu pa1) (fun(x15,x16)=>
 gd ((pq0.2.2.2.2.1).length+(([x15]:List aH)).length≤68719476736)
 (some (x16,(pq0.1,pq0.2.1,pq0.2.2.1,pq0.2.2.2.1,pq0.2.2.2.2.1++([x15]:List aH),pq0.2.2.2.2.2)))))
 (sw (decide (x2.gAtom=ab3))
 (bd (pR fu pa1) (fun(x20,x21)=>
 gd ((pq0.2.2.2.2.2).length+(([x20]:List aL)).length≤68719476736)
 (some (x21,(pq0.1,pq0.2.1,pq0.2.2.1,pq0.2.2.2.1,pq0.2.2.2.2.1,pq0.2.2.2.2.2++([x20]:List aL))))))
 (some (false,pq0))))))
theorem UG(fu:Nat):aaG (E9 fu):=by
 intro pq0 pa1 r H
 have H:=fC H
 refine qI Tryz.func220 (fun C hC=>?_)
 refine qS (qR (q1 (lA ([pS pa1.gAtom,a8 pa1.gList])) (q1 aF (qN ?_))))
 iterate 2 refine qS ?_
 refine qR (q1 (c6 [pS pa1.gAtom,a8 pa1.gList] bP) (bO H fun x2 z1 H=>(q1 (bJ Tryz.func219 (cO fu pa1 0 _ z1)) (q1 (rF1 qZ) (qN (aO.block (qS (qR (q1 EC (q1 aF (qN ?_)))))))))))
 refine a9 H (fun h3 H=>?_) (fun h3 H=>?_)
 ·refine qS (qR (q1 (c6 [pS pa1.gAtom,a8 pa1.gList] bP) (f8 H fun x5 x6 z4 H=>(q1 (bJ Tryz.func230 (IQ fu pa1 _ z4)) (q1 aF ?_)))))
  iterate 2 refine q1 KJ ?_
  refine q1 (hH rY) (q1 (bV qY) (q1 aF (qN (qS (dK H fun z7 H=>(dW ?_))))))
  iterate 2 refine dI [0] aF ?_
  refine dI [24] n5 (dI [25] (aZ n4) (dD [26] (bB AC) (dD [5] (c6 [pS x5.gName,rS x5.gSupertraits,pB x5.gAuto,pB x5.gAssoc,hM x5.gSignatures] mU) (dI [28] (iI ([x5]:List aP) vU rY) (dE [27,29] (lC z7 vU agH) (dI [23] n5 (dI [31] (aZ n4) (mZ [32,30] (bV agE) (dN (qS (qR ?_)))))))))))
  iterate 2 refine q1 aF ?_
  refine qN (aO.ret ?_)
  obtain rfl:_=r:=(aY H:)
  exact bN
 refine qS (qR (q1 EC (q1 aF (qN ?_))))
 refine a9 H (fun h8 H=>?_) (fun h8 H=>?_)
 ·refine qS (qR (q1 (c6 [pS pa1.gAtom,a8 pa1.gList] bP) (f8 H fun x10 x11 z9 H=>(q1 (bJ Tryz.func231 (C6 fu pa1 _ z9)) (q1 aF ?_)))))
  iterate 2 refine q1 KJ ?_
  refine q1 (hH qF) (q1 (bV qU) (q1 aF (qN (qS (dK H fun z12 H=>(dW ?_))))))
  iterate 2 refine dI [0] aF ?_
  refine dI [42] n5 (dI [43] (aZ lX) (dD [44] (bB xA) (dD [7] (c6 [pS x10.gName,rS x10.gVars,eF x10.gConstructors] lT) (dI [46] (iI ([x10]:List aI) t0 qF) (dE [45,47] (lC z12 t0 agR) (dI [41] n5 (dI [49] (aZ lX) (mZ [50,48] (bV agJ) (dN (qS (qR ?_)))))))))))
  iterate 2 refine q1 aF ?_
  refine qN (aO.ret ?_)
  obtain rfl:_=r:=(aY H:)
  exact bN
 refine qS (qR (q1 EC (q1 aF (qN ?_))))
 refine a9 H (fun h13 H=>?_) (fun h13 H=>?_)
 ·refine qS (qR (q1 (c6 [pS pa1.gAtom,a8 pa1.gList] bP) (f8 H fun x15 x16 z14 H=>(q1 (bJ Tryz.func232 (C8 fu pa1 _ z14)) (q1 aF ?_)))))
  iterate 2 refine q1 KJ ?_
  refine q1 (hH sZ) (q1 (bV rB) (q1 aF (qN (qS (dK H fun z17 H=>(dW ?_))))))
  iterate 2 refine dI [0] aF ?_
  refine dI [60] n5 (dI [61] (aZ n3) (dD [62] (bB AA) (dD [9] (c6 [pS x15.gTrait,rS x15.gVars,pI x15.gHead.gKind,pS x15.gHead.gName,a6 x15.gHead.gArgs,eK x15.gWhere,pB x15.gDefault,pB x15.gHasAssoc,pI x15.gAssoc.gKind,pS x15.gAssoc.gName,a6 x15.gAssoc.gArgs,jY x15.gMethods] nA) (dI [64] (iI ([x15]:List aH) wS sZ) (dE [63,65] (lC z17 wS agN) (dI [59] n5 (dI [67] (aZ n3) (mZ [68,66] (bV agP) (dN (qS (qR ?_)))))))))))
  iterate 2 refine q1 aF ?_
  refine qN (aO.ret ?_)
  obtain rfl:_=r:=(aY H:)
  exact bN
 refine qS (qR (q1 EC (q1 aF (qN ?_))))
 refine a9 H (fun h18 H=>?_) (fun h18 H=>?_)
 ·refine qS (qR (q1 (c6 [pS pa1.gAtom,a8 pa1.gList] bP) (f8 H fun x20 x21 z19 H=>(q1 (bJ Tryz.func233 (CX fu pa1 _ z19)) (q1 aF ?_)))))
  iterate 2 refine q1 KJ ?_
  refine q1 (hH zI) (q1 (bV wQ) (q1 aF (qN (qS (dK H fun z22 H=>(dW ?_))))))
  iterate 2 refine dI [0] aF ?_
  refine dI [78] n5 (dI [79] (aZ t1) (dD [80] (bB NV) (dD [11] (c6 [pS x20.gName,rS x20.gVars,eK x20.gWhere,NN x20.gParams,pI x20.gResult.gKind,pS x20.gResult.gName,a6 x20.gResult.gArgs,pI x20.gBody.gKind,pS x20.gBody.gTrait,pS x20.gBody.gName,pI x20.gBody.gN,pI x20.gBody.gType.gKind,pS x20.gBody.gType.gName,a6 x20.gBody.gType.gArgs,fD x20.gBody.gArgs,lH x20.gBody.gArms] o4) (dI [82] (iI ([x20]:List aL) GA zI) (dE [81,83] (lC z22 GA agQ) (dI [77] n5 (dI [85] (aZ t1) (mZ [86,84] (bV agG) (dN (qS (qR ?_)))))))))))
  iterate 2 refine q1 aF ?_
  refine qN (aO.ret ?_)
  obtain rfl:_=r:=(aY H:)
  exact bN
 refine aO.skip (qS (qR (q1 aF (qN (aO.ret ?_)))))
 obtain rfl:_=r:=(aY H:)
 exact bN
def WO(m:aK→Option ((List ByteArray)×(List ByteArray)×(List ByteArray)×(List ByteArray))):Prop:= ∀(pa0:aK) (r:(List ByteArray)×(List ByteArray)×(List ByteArray)×(List ByteArray)),m pa0=some r→cH Tryz.prog 234 [(aK.pv pa0)] (.tup [rS r.1,rS r.2.1,rS r.2.2.1,rS r.2.2.2]:PV)
def RE(fu:Nat)(pa0:aK):Nat→((List ByteArray))→Option (LR ((List ByteArray)) ((List ByteArray)×(List ByteArray)×(List ByteArray)×(List ByteArray))):=
 fun i1 v3=>gd ((v3).length+(([((a5 pa0.gTraits i1).gName)]:List ByteArray)).length≤68719476736)
 (some (.next (v3++([((a5 pa0.gTraits i1).gName)]:List ByteArray))))
def Q6(fu:Nat)(pa0:aK):Option (((List ByteArray)×(List ByteArray)×(List ByteArray)×(List ByteArray))⊕((List ByteArray))):=
 loopN (RE fu pa0) (pa0.gTraits.length-0) 0 ([])
def RR(fu:Nat)(pa0:aK)(v3:List ByteArray)(i7:Nat)(v10 v11:List ByteArray):Nat→((List ByteArray))→Option (LR ((List ByteArray)) (LR ((List ByteArray)×(List ByteArray)) ((List ByteArray)×(List ByteArray)×(List ByteArray)×(List ByteArray)))):=
 fun i15 v17=>gd ((v17).length+(([((a5 ((a5 pa0.gDataTypes i7).gConstructors) i15).gName)]:List ByteArray)).length≤68719476736)
 (some (.next (v17++([((a5 ((a5 pa0.gDataTypes i7).gConstructors) i15).gName)]:List ByteArray))))
def SQ(fu:Nat)(pa0:aK)(v3:List ByteArray)(i7:Nat)(v10 v11:List ByteArray):Option ((LR ((List ByteArray)×(List ByteArray)) ((List ByteArray)×(List ByteArray)×(List ByteArray)×(List ByteArray)))⊕((List ByteArray))):=
 loopN (RR fu pa0 v3 i7 v10 v11) (((a5 pa0.gDataTypes i7).gConstructors).length-0) 0 v11
def QR(fu:Nat)(pa0:aK)(v3:List ByteArray):Nat→((List ByteArray)×(List ByteArray))→Option (LR ((List ByteArray)×(List ByteArray)) ((List ByteArray)×(List ByteArray)×(List ByteArray)×(List ByteArray))):=
 fun i7 (v10,v11)=>gd ((v10).length+(([((a5 pa0.gDataTypes i7).gName)]:List ByteArray)).length≤68719476736)
 (so (SQ fu pa0 v3 i7 v10 v11) (fun v17=>
 some (.next ((v10++([((a5 pa0.gDataTypes i7).gName)]:List ByteArray)),v17))))
def TV(fu:Nat)(pa0:aK)(v3:List ByteArray):Option (((List ByteArray)×(List ByteArray)×(List ByteArray)×(List ByteArray))⊕((List ByteArray)×(List ByteArray))):=
 loopN (QR fu pa0 v3) (pa0.gDataTypes.length-0) 0 (([]),([]))
def TH(fu:Nat)(pa0:aK)(v3 v10 v11:List ByteArray):Nat→((List ByteArray))→Option (LR ((List ByteArray)) ((List ByteArray)×(List ByteArray)×(List ByteArray)×(List ByteArray))):=
 fun i21 v23=>lt (a5 pa0.gFunctions i21) (fun y26=>
 gd ((v23).length+(([y26.gName]:List ByteArray)).length≤68719476736)
 (some (.next (v23++([y26.gName]:List ByteArray)))))
def RS(fu:Nat)(pa0:aK)(v3 v10 v11:List ByteArray):Option (((List ByteArray)×(List ByteArray)×(List ByteArray)×(List ByteArray))⊕((List ByteArray))):=
 loopN (TH fu pa0 v3 v10 v11) (pa0.gFunctions.length-0) 0 ([])
def BC(fu:Nat)(pa0:aK):Option ((List ByteArray)×(List ByteArray)×(List ByteArray)×(List ByteArray)):=
 so (Q6 fu pa0) (fun v3=>
 so (TV fu pa0 v3) (fun(v10,v11)=>
 so (RS fu pa0 v3 v10 v11) (fun v23=>
 some (v3,v10,v11,v23))))
theorem RC(fu:Nat):WO (BC fu):=by
 intro pa0 r H
 have H:=fC H
 refine qI Tryz.func234 (fun C hC=>?_)
 refine qS (qR (q1 (lA (eR pa0)) ?_))
 iterate 4 refine q1 aF ?_
 refine qN (qS (qR (q1 (rC ([]:List ByteArray) bW jZ) (q1 aF (qN (qS (qR (q1 (rC ([]:List ByteArray) bW jZ) (q1 aF (qN (qS (qR (q1 (rC ([]:List ByteArray) bW jZ) ?_)))))))))))))
 refine q1 aF (qN (qS (qR (q1 (rC ([]:List ByteArray) bW jZ) (q1 aF (qN ?_))))))
 iterate 2 refine qS ?_
 refine qR (q1 aF (qN ?_))
 refine aO.fact (cB 0 2 rfl rfl rfl (aP.trs_len _)) (fun hl4=>?_)
 refine cG (σ:=(List ByteArray)) (fun i1 v3=>⟨[(1,.ptr 0 0),(2,.nil),(3,.nil),(4,.nil),(5,.nil),(6,aS v3 0),(7,aS [] 1),(8,aS [] 2),(9,aS [] 3),(10,pN i1)],⟨[some ⟨131,eR pa0⟩],[⟨9,1,aX (v3),false⟩,⟨9,1,aX ([]),false⟩,⟨9,1,aX ([]),false⟩,⟨9,1,aX ([]),false⟩]⟩⟩) (fun v3=>⟨[(1,.ptr 0 0),(2,.nil),(3,.nil),(4,.nil),(5,.nil),(6,aS v3 0),(7,aS [] 1),(8,aS [] 2),(9,aS [] 3)],⟨[some ⟨131,eR pa0⟩],[⟨9,1,aX (v3),false⟩,⟨9,1,aX ([]),false⟩,⟨9,1,aX ([]),false⟩,⟨9,1,aX ([]),false⟩]⟩⟩) (f9 H) ?_ ?_
 ·rintro i1 v3 H
  iterate 2 refine qS ?_
  refine qR (q1 aF (q1 (aZ n4) (q1 (bB AC) (q1 (eM vU (aP.trs_len _)) (q1 gU (qN ?_))))))
  refine eJ H (fun h5 h5l H=>?_) (fun h5 H=>?_)
  ·have h5n:=a7 h5
   refine aO.skip (qS (aO.block (qR (q1 aF (q1 (aZ n4) (q1 (bB AC) (q1 aF (q1 (j0 h5n vU) (q1 (nD y7) (q1 (mR e8) (q1 (iI ([((a5 pa0.gTraits i1).gName)]:List ByteArray) bW jZ) (dK H fun z6 H=>(q1 (lC z6 bW oT) ?_)))))))))))))
   refine q1 aF (qN (qR (q1 aF (q1 (aW.addI rfl rfl rfl rfl (c:=((i1+1:Nat):Int)) (by omega) (by omega)) (q1 aF (qN ?_))))))
   exact jA h5l ⟨_,(aY H:),bZ⟩
  refine aO.exit ?_;exact k7 ⟨_,H,bZ⟩
 rintro v3 H
 iterate 2 refine qS ?_
 refine qR (q1 aF (qN ?_))
 refine aO.fact (cB 0 3 rfl rfl rfl (aI.trs_len _)) (fun hl12=>?_)
 refine cG (σ:=(List ByteArray)×(List ByteArray)) (fun i7 (v10,v11)=>⟨[(1,.ptr 0 0),(2,.nil),(3,.nil),(4,.nil),(5,.nil),(6,aS v3 0),(7,aS v10 1),(8,aS v11 2),(9,aS [] 3),(11,pN i7)],⟨[some ⟨131,eR pa0⟩],[⟨9,1,aX (v3),false⟩,⟨9,1,aX (v10),false⟩,⟨9,1,aX (v11),false⟩,⟨9,1,aX ([]),false⟩]⟩⟩) (fun(v10,v11)=>⟨[(1,.ptr 0 0),(2,.nil),(3,.nil),(4,.nil),(5,.nil),(6,aS v3 0),(7,aS v10 1),(8,aS v11 2),(9,aS [] 3)],⟨[some ⟨131,eR pa0⟩],[⟨9,1,aX (v3),false⟩,⟨9,1,aX (v10),false⟩,⟨9,1,aX (v11),false⟩,⟨9,1,aX ([]),false⟩]⟩⟩) (f9 H) ?_ ?_
 ·rintro i7 ⟨v10,v11⟩ H
  iterate 2 refine qS ?_
  refine qR (q1 aF (q1 (aZ lX) (q1 (bB xA) (q1 (eM t0 (aI.trs_len _)) (q1 gU (qN ?_))))))
  refine eJ H (fun h13 h13l H=>?_) (fun h13 H=>?_)
  ·have h13n:=a7 h13
   refine aO.skip (qS (aO.block (qS (qR (q1 aF (q1 (aZ lX) (q1 (bB xA) (q1 aF (q1 (j0 h13n t0) (q1 (nD GW) (q1 (mR e8) (q1 (iI ([((a5 pa0.gDataTypes i7).gName)]:List ByteArray) bW jZ) (dK H fun z14 H=>?_)))))))))))))
   refine q1 (lC z14 bW oT) (q1 aF (qN (qS (qR (q1 aF (qN ?_))))))
   refine cG (σ:=(List ByteArray)) (fun i15 v17=>⟨[(1,.ptr 0 0),(2,.nil),(3,.nil),(4,.nil),(5,.nil),(6,aS v3 0),(7,aS (v10++([((a5 pa0.gDataTypes i7).gName)]:List ByteArray)) 1),(8,aS v17 2),(9,aS [] 3),(11,pN i7),(12,pN i15),(34,pN i7),(35,.ptr 0 3),(36,m8 pa0.gDataTypes),(37,pN pa0.gDataTypes.length),(38,pB (decide ((((i7:Nat):Int):Int)<((pa0.gDataTypes.length:Nat):Int)))),(41,aS v10 1),(42,.ptr 0 3),(43,m8 pa0.gDataTypes),(44,pN i7),(45,.eptr (aI.cs (a5 pa0.gDataTypes i7))),(46,.eptr (aI.cs (a5 pa0.gDataTypes i7))),(47,pS ((a5 pa0.gDataTypes i7).gName)),(48,rS ([((a5 pa0.gDataTypes i7).gName)]:List ByteArray)),(49,aS (v10++([((a5 pa0.gDataTypes i7).gName)]:List ByteArray)) 1)],⟨[some ⟨131,eR pa0⟩],[⟨9,1,aX (v3),false⟩,⟨9,1,aX (v10++([((a5 pa0.gDataTypes i7).gName)]:List ByteArray)),false⟩,⟨9,1,aX (v17),false⟩,⟨9,1,aX ([]),false⟩]⟩⟩) (fun v17=>⟨[(1,.ptr 0 0),(2,.nil),(3,.nil),(4,.nil),(5,.nil),(6,aS v3 0),(7,aS (v10++([((a5 pa0.gDataTypes i7).gName)]:List ByteArray)) 1),(8,aS v17 2),(9,aS [] 3),(11,pN i7),(34,pN i7),(35,.ptr 0 3),(36,m8 pa0.gDataTypes),(37,pN pa0.gDataTypes.length),(38,pB (decide ((((i7:Nat):Int):Int)<((pa0.gDataTypes.length:Nat):Int)))),(41,aS v10 1),(42,.ptr 0 3),(43,m8 pa0.gDataTypes),(44,pN i7),(45,.eptr (aI.cs (a5 pa0.gDataTypes i7))),(46,.eptr (aI.cs (a5 pa0.gDataTypes i7))),(47,pS ((a5 pa0.gDataTypes i7).gName)),(48,rS ([((a5 pa0.gDataTypes i7).gName)]:List ByteArray)),(49,aS (v10++([((a5 pa0.gDataTypes i7).gName)]:List ByteArray)) 1)],⟨[some ⟨131,eR pa0⟩],[⟨9,1,aX (v3),false⟩,⟨9,1,aX (v10++([((a5 pa0.gDataTypes i7).gName)]:List ByteArray)),false⟩,⟨9,1,aX (v17),false⟩,⟨9,1,aX ([]),false⟩]⟩⟩) (f9 H) ?_ ?_
   ·rintro i15 v17 H
    iterate 2 refine qS ?_
    refine qR (q1 aF (q1 (aZ lX) (q1 (bB xA) (q1 aF (q1 (j0 h13n t0) (q1 (nD lD) (q1 (mR vN) ?_)))))))
    refine ZL 56 (aC.trs_len _) (fun hl18=>?_)
    refine q1 (eM tX (aC.trs_len _)) (q1 gU (qN ?_))
    refine eJ H (fun h19 h19l H=>?_) (fun h19 H=>?_)
    ·have h19n:=a7 h19
     refine aO.skip (qS (aO.block (qR (q1 aF (q1 (aZ lX) (q1 (bB xA) (q1 aF (q1 (j0 h13n t0) (q1 (nD lD) (q1 (mR vN) (q1 aF (q1 (j0 h19n tX) (q1 (nD LU) ?_)))))))))))))
     refine q1 (mR e8) (q1 (iI ([((a5 ((a5 pa0.gDataTypes i7).gConstructors) i15).gName)]:List ByteArray) bW jZ) (dK H fun z20 H=>(q1 (lC z20 bW oT) (q1 aF (qN (qR (q1 aF (q1 (aW.addI rfl rfl rfl rfl (c:=((i15+1:Nat):Int)) (by omega) (by omega)) (q1 aF (qN ?_))))))))))
     exact jA h19l ⟨_,(aY H:),bZ⟩
    refine aO.exit ?_;exact k7 ⟨_,H,bZ⟩
   rintro v17 H
   refine qR (q1 aF (q1 (aW.addI rfl rfl rfl rfl (c:=((i7+1:Nat):Int)) (by omega) (by omega)) (q1 aF (qN ?_))))
   exact jA h13l ⟨_,(aY H:),bZ⟩
  refine aO.exit ?_;exact k7 ⟨_,H,bZ⟩
 rintro⟨v10,v11⟩ H
 iterate 2 refine qS ?_
 refine qR (q1 aF (qN ?_))
 refine aO.fact (cB 0 5 rfl rfl rfl (aL.trs_len _)) (fun hl24=>?_)
 refine cG (σ:=(List ByteArray)) (fun i21 v23=>⟨[(1,.ptr 0 0),(2,.nil),(3,.nil),(4,.nil),(5,.nil),(6,aS v3 0),(7,aS v10 1),(8,aS v11 2),(9,aS v23 3),(13,pN i21)],⟨[some ⟨131,eR pa0⟩],[⟨9,1,aX (v3),false⟩,⟨9,1,aX (v10),false⟩,⟨9,1,aX (v11),false⟩,⟨9,1,aX (v23),false⟩]⟩⟩) (fun v23=>⟨[(2,.nil),(3,.nil),(4,.nil),(5,.nil),(6,aS v3 0),(7,aS v10 1),(8,aS v11 2),(9,aS v23 3)],⟨[some ⟨131,eR pa0⟩],[⟨9,1,aX (v3),false⟩,⟨9,1,aX (v10),false⟩,⟨9,1,aX (v11),false⟩,⟨9,1,aX (v23),false⟩]⟩⟩) (f9 H) ?_ ?_
 ·rintro i21 v23 H
  iterate 2 refine qS ?_
  refine qR (q1 aF (q1 (aZ t1) (q1 (bB NV) (q1 (eM GA (aL.trs_len _)) (q1 gU (qN ?_))))))
  refine eJ H (fun h25 h25l H=>?_) (fun h25 H=>?_)
  ·have h25n:=a7 h25
   refine aO.skip (qS (aO.block (qR (q1 aF (q1 (aZ t1) (q1 (bB NV) (q1 aF (gE H fun y26 h27 H=>(q1 (pA h27 h25n GA) (q1 (nD LL) (q1 (mR e8) (q1 (iI ([y26.gName]:List ByteArray) bW jZ) (dK H fun z28 H=>?_)))))))))))))
   refine q1 (lC z28 bW oT) (q1 aF (qN (qR (q1 aF (q1 (aW.addI rfl rfl rfl rfl (c:=((i21+1:Nat):Int)) (by omega) (by omega)) (q1 aF (qN ?_)))))))
   exact jA h25l ⟨_,(aY H:),bZ⟩
  refine aO.exit ?_;exact k7 ⟨_,H,bZ⟩
 rintro v23 H
 refine qS (qR ?_)
 iterate 8 refine q1 aF ?_
 refine qN (aO.ret ?_)
 obtain rfl:_=r:=(aY H:)
 exact qe (ps:= [_,_,_,_]) ⟨rfl,rfl⟩ ⟨rfl,rfl,rfl,rfl,trivial⟩
def VY(m:aK→Option Bool):Prop:= ∀(pp:aK) (r:Bool),m pp=some r→cH Tryz.prog 238 [(aK.pv pp)] (pB r:PV)
def R5(fu:Nat)(pp:aK):Nat→Unit→Option (LR Unit Bool):=
 fun i1 _=>bd (o9 fu (a5 pp.gTraits i1)) (fun x5=>
 sw (!(x5))
 (some (.ret false))
 (some (.next ())))
def R6(fu:Nat)(pp:aK):Option (Bool⊕Unit):=
 loopN (R5 fu pp) (pp.gTraits.length-0) 0 ()
def QY(fu:Nat)(pp:aK):Nat→Unit→Option (LR Unit Bool):=
 fun i7 _=>bd (mH fu (a5 pp.gDataTypes i7)) (fun x11=>
 sw (!(x11))
 (some (.ret false))
 (some (.next ())))
def SX(fu:Nat)(pp:aK):Option (Bool⊕Unit):=
 loopN (QY fu pp) (pp.gDataTypes.length-0) 0 ()
def Q0(fu:Nat)(pp:aK):Nat→Unit→Option (LR Unit Bool):=
 fun i13 _=>lt (a5 pp.gInstances i13) (fun y16=>
 bd (l4 fu y16) (fun x19=>
 sw (!(x19))
 (some (.ret false))
 (some (.next ()))))
def RO(fu:Nat)(pp:aK):Option (Bool⊕Unit):=
 loopN (Q0 fu pp) (pp.gInstances.length-0) 0 ()
def TN(fu:Nat)(pp:aK):Nat→Unit→Option (LR Unit Bool):=
 fun i21 _=>lt (a5 pp.gFunctions i21) (fun y24=>
 bd (mF fu y24) (fun x27=>
 sw (!(x27))
 (some (.ret false))
 (some (.next ()))))
def RF(fu:Nat)(pp:aK):Option (Bool⊕Unit):=
 loopN (TN fu pp) (pp.gFunctions.length-0) 0 ()
def A3(fu:Nat)(pp:aK):Option Bool:=
 so (R6 fu pp) (fun _=>
 so (SX fu pp) (fun _=>
 so (RO fu pp) (fun _=>
 so (RF fu pp) (fun _=>
 some true))))
theorem RP(fu:Nat):VY (A3 fu):=by
 intro pp r H
 have H:=fC H
 refine qI Tryz.func238 (fun C hC=>?_)
 refine qS (qR (q1 (lA (eR pp)) (q1 aF (qN ?_))))
 iterate 2 refine qS ?_
 refine qR (q1 aF (qN ?_))
 refine aO.fact (cB 0 2 rfl rfl rfl (aP.trs_len _)) (fun hl2=>?_)
 refine cG (σ:=Unit) (fun i1 _=>⟨[(1,.ptr 0 0),(2,pB false),(3,pN i1)],⟨[some ⟨131,eR pp⟩],[]⟩⟩) (fun _=>⟨[(1,.ptr 0 0),(2,pB false)],⟨[some ⟨131,eR pp⟩],[]⟩⟩) (f9 H) ?_ ?_
 ·rintro i1 ⟨⟩ H
  iterate 2 refine qS ?_
  refine qR (q1 aF (q1 (aZ n4) (q1 (bB AC) (q1 (eM vU (aP.trs_len _)) (q1 gU (qN ?_))))))
  refine eJ H (fun h3 h3l H=>?_) (fun h3 H=>?_)
  ·have h3n:=a7 h3
   refine aO.skip (qS (aO.block (qS (qR (q1 (aZ n4) (q1 (bB AC) (q1 aF (q1 (j0 h3n vU) (q1 (j7 (aP.cs (a5 pp.gTraits i1)) mU) (bO H fun x5 z4 H=>(q1 (bJ Tryz.func256 (xJ fu (a5 pp.gTraits i1) _ z4)) (q1 gS (qN ?_)))))))))))))
   refine a9 H (fun h6 H=>?_) (fun h6 H=>?_)
   ·refine qS (qR (q1 aF (qN (aO.ret ?_))))
    obtain rfl:_=r:=(pY (aY H):)
    exact bN
   refine aO.skip (qR (q1 aF (q1 (aW.addI rfl rfl rfl rfl (c:=((i1+1:Nat):Int)) (by omega) (by omega)) (q1 aF (qN ?_)))))
   exact jA h3l ⟨_,(aY H:),bZ⟩
  refine aO.exit ?_;exact k7 ⟨_,H,bZ⟩
 rintro⟨⟩ H
 iterate 2 refine qS ?_
 refine qR (q1 aF (qN ?_))
 refine aO.fact (cB 0 3 rfl rfl rfl (aI.trs_len _)) (fun hl8=>?_)
 refine cG (σ:=Unit) (fun i7 _=>⟨[(1,.ptr 0 0),(2,pB false),(4,pN i7)],⟨[some ⟨131,eR pp⟩],[]⟩⟩) (fun _=>⟨[(1,.ptr 0 0),(2,pB false)],⟨[some ⟨131,eR pp⟩],[]⟩⟩) (f9 H) ?_ ?_
 ·rintro i7 ⟨⟩ H
  iterate 2 refine qS ?_
  refine qR (q1 aF (q1 (aZ lX) (q1 (bB xA) (q1 (eM t0 (aI.trs_len _)) (q1 gU (qN ?_))))))
  refine eJ H (fun h9 h9l H=>?_) (fun h9 H=>?_)
  ·have h9n:=a7 h9
   refine aO.skip (qS (aO.block (qS (qR (q1 (aZ lX) (q1 (bB xA) (q1 aF (q1 (j0 h9n t0) (q1 (j7 (aI.cs (a5 pp.gDataTypes i7)) lT) (bO H fun x11 z10 H=>(q1 (bJ Tryz.func257 (tW fu (a5 pp.gDataTypes i7) _ z10)) (q1 gS (qN ?_)))))))))))))
   refine a9 H (fun h12 H=>?_) (fun h12 H=>?_)
   ·refine qS (qR (q1 aF (qN (aO.ret ?_))))
    obtain rfl:_=r:=(pY (aY H):)
    exact bN
   refine aO.skip (qR (q1 aF (q1 (aW.addI rfl rfl rfl rfl (c:=((i7+1:Nat):Int)) (by omega) (by omega)) (q1 aF (qN ?_)))))
   exact jA h9l ⟨_,(aY H:),bZ⟩
  refine aO.exit ?_;exact k7 ⟨_,H,bZ⟩
 rintro⟨⟩ H
 iterate 2 refine qS ?_
 refine qR (q1 aF (qN ?_))
 refine aO.fact (cB 0 4 rfl rfl rfl (aH.trs_len _)) (fun hl14=>?_)
 refine cG (σ:=Unit) (fun i13 _=>⟨[(1,.ptr 0 0),(2,pB false),(5,pN i13)],⟨[some ⟨131,eR pp⟩],[]⟩⟩) (fun _=>⟨[(1,.ptr 0 0),(2,pB false)],⟨[some ⟨131,eR pp⟩],[]⟩⟩) (f9 H) ?_ ?_
 ·rintro i13 ⟨⟩ H
  iterate 2 refine qS ?_
  refine qR (q1 aF (q1 (aZ n3) (q1 (bB AA) (q1 (eM wS (aH.trs_len _)) (q1 gU (qN ?_))))))
  refine eJ H (fun h15 h15l H=>?_) (fun h15 H=>?_)
  ·have h15n:=a7 h15
   refine aO.skip (qS (aO.block (qS (qR (q1 (aZ n3) (q1 (bB AA) (q1 aF (gE H fun y16 h17 H=>(q1 (pA h17 h15n wS) (q1 (j7 (aH.cs y16) nA) (bO H fun x19 z18 H=>(q1 (bJ Tryz.func258 (tV fu y16 _ z18)) (q1 gS ?_)))))))))))))
   refine qN ?_;refine a9 H (fun h20 H=>?_) (fun h20 H=>?_)
   ·refine qS (qR (q1 aF (qN (aO.ret ?_))))
    obtain rfl:_=r:=(pY (aY H):)
    exact bN
   refine aO.skip (qR (q1 aF (q1 (aW.addI rfl rfl rfl rfl (c:=((i13+1:Nat):Int)) (by omega) (by omega)) (q1 aF (qN ?_)))))
   exact jA h15l ⟨_,(aY H:),bZ⟩
  refine aO.exit ?_;exact k7 ⟨_,H,bZ⟩
 rintro⟨⟩ H
 iterate 2 refine qS ?_
 refine qR (q1 aF (qN ?_))
 refine aO.fact (cB 0 5 rfl rfl rfl (aL.trs_len _)) (fun hl22=>?_)
 refine cG (σ:=Unit) (fun i21 _=>⟨[(1,.ptr 0 0),(2,pB false),(6,pN i21)],⟨[some ⟨131,eR pp⟩],[]⟩⟩) (fun _=>⟨[(2,pB false)],⟨[some ⟨131,eR pp⟩],[]⟩⟩) (f9 H) ?_ ?_
 ·rintro i21 ⟨⟩ H
  iterate 2 refine qS ?_
  refine qR (q1 aF (q1 (aZ t1) (q1 (bB NV) (q1 (eM GA (aL.trs_len _)) (q1 gU (qN ?_))))))
  refine eJ H (fun h23 h23l H=>?_) (fun h23 H=>?_)
  ·have h23n:=a7 h23
   refine aO.skip (qS (aO.block (qS (qR (q1 (aZ t1) (q1 (bB NV) (q1 aF (gE H fun y24 h25 H=>(q1 (pA h25 h23n GA) (q1 (j7 (aL.cs y24) o4) (bO H fun x27 z26 H=>(q1 (bJ Tryz.func259 (tY fu y24 _ z26)) (q1 gS ?_)))))))))))))
   refine qN ?_;refine a9 H (fun h28 H=>?_) (fun h28 H=>?_)
   ·refine qS (qR (q1 aF (qN (aO.ret ?_))))
    obtain rfl:_=r:=(pY (aY H):)
    exact bN
   refine aO.skip (qR (q1 aF (q1 (aW.addI rfl rfl rfl rfl (c:=((i21+1:Nat):Int)) (by omega) (by omega)) (q1 aF (qN ?_)))))
   exact jA h23l ⟨_,(aY H:),bZ⟩
  refine aO.exit ?_;exact k7 ⟨_,H,bZ⟩
 rintro⟨⟩ H
 refine qS (qR (q1 aF (qN (aO.ret ?_))))
 obtain rfl:_=r:=(aY H:)
 exact bN
def GK(m:aK→Option Bool):Prop:= ∀(pa0:aK) (r:Bool),m pa0=some r→cH Tryz.prog 221 [(aK.pv pa0)] (pB r:PV)
def qX(fu:Nat)(pa0:aK):Option Bool:=
 bd (BC fu pa0) (fun(x2,x3,x4,x5)=>
 bd (c5 fu pa0.gName) (fun x7=>
 sw (!(x7))
 (some false)
 (bd (fI fu pa0.gDeps 5) (fun x10=>
 sw (!(x10))
 (some false)
 (bd (lO fu pa0.gDeps pa0.gName) (fun x13=>
 sw (x13)
 (some false)
 (sw (decide ((aQ ((aQ ((aQ (((pa0.gTraits.length:Nat):Int)+((pa0.gDataTypes.length:Nat):Int)))+((pa0.gInstances.length:Nat):Int)))+((pa0.gFunctions.length:Nat):Int)):Int)>24))
 (some false)
 (bd (iJ fu x2) (fun x17=>
 sw (x17)
 (bd (iJ fu x3) (fun x20=>
 sw (x20)
 (bd (iJ fu x4) (fun x23=>
 sw (x23)
 (bd (iJ fu x5) (fun x26=>
 sw (x26)
 (bd (A3 fu pa0) (fun x29=>
 some x29))
 (some false)))
 (some false)))
 (some false)))
 (some false))))))))))
theorem EP(fu:Nat):GK (qX fu):=by
 intro pa0 r H
 have H:=fC H
 refine qI Tryz.func221 (fun C hC=>?_)
 refine qS (qR (q1 (lA (eR pa0)) (q1 aF (qN (qS (qR (q1 (c6 [pS pa0.gName,rS pa0.gDeps,HZ pa0.gTraits,m8 pa0.gDataTypes,uD pa0.gInstances,CF pa0.gFunctions] nE) (ai6 H fun x2 x3 x4 x5 z1 H=>(q1 (bJ Tryz.func234 (RC fu pa0 _ z1)) (q1 aF ?_))))))))))
 iterate 4 refine q1 KJ ?_
 iterate 4 refine q1 aF ?_
 refine qN ?_
 iterate 2 refine qS ?_
 refine qR (q1 (aZ Q7) (q1 (bB e8) (bO H fun x7 z6 H=>(q1 (bJ Tryz.func235 (dJ fu pa0.gName _ z6)) (q1 gS (q1 aF ?_))))))
 refine dY 18 H (fun g8 H=>?_) fun g8 H=>?_
 ·refine qk g8 ?_
  iterate 3 refine qk g8 ?_
  refine q1 (bS g8) (q1 aF ?_)
  iterate 5 refine qk rfl ?_
  refine q1 (bS rfl) (q1 aF ?_)
  iterate 16 refine qk rfl ?_
  refine q1 (bS rfl) (qN (dT rfl (qS (qR (q1 aF (qN (aO.ret ?_)))))))
  obtain rfl:_=r:=(aY H:)
  exact bN
 refine qg g8 (aZ LH) (qg g8 (bB jM) (bO H fun x10 z9 H=>(qg g8 (bJ Tryz.func236 (fO fu pa0.gDeps 5 _ z9)) (qg g8 gS (q1 (b4 g8) (q1 aF ?_))))))
 refine dY 24 H (fun g11 H=>?_) fun g11 H=>?_
 ·refine qk g11 ?_
  iterate 4 refine qk g11 ?_
  refine q1 (bS g11) (q1 aF ?_)
  iterate 16 refine qk rfl ?_
  refine q1 (bS rfl) (qN (dT rfl (qS (qR (q1 aF (qN (aO.ret ?_)))))))
  obtain rfl:_=r:=(aY H:)
  exact bN
 refine qg g11 (aZ LH) (qg g11 (bB jM) (qg g11 (aZ Q7) (qg g11 (bB e8) (bO H fun x13 z12 H=>(qg g11 (bJ Tryz.func125 (lR fu pa0.gDeps pa0.gName _ z12)) (q1 (b4 g11) (q1 aF ?_)))))))
 refine dY 31 H (fun g14 H=>?_) fun g14 H=>?_
 ·refine qk g14 ?_
  iterate 15 refine qk g14 ?_
  refine q1 (bS g14) (qN (dT rfl (qS (qR (q1 aF (qN (aO.ret ?_)))))))
  obtain rfl:_=r:=(aY H:)
  exact bN
 refine qg g14 (aZ n4) (qg g14 (bB AC) (qg g14 (eM vU (aP.trs_len _)) (qg g14 (aZ lX) (qg g14 (bB xA) (qg g14 (eM t0 (aI.trs_len _)) (qg g14 LQ (qg g14 (aZ n3) (qg g14 (bB AA) (qg g14 (eM wS (aH.trs_len _)) (qg g14 LQ (qg g14 (aZ t1) (qg g14 (bB NV) (qg g14 (eM GA (aL.trs_len _)) ?_)))))))))))))
 refine qg g14 LQ (qg g14 HB (q1 (b4 g14) (qN ?_)))
 refine a9 H (fun h15 H=>?_) (fun h15 H=>?_)
 ·refine qS (qR (q1 aF (qN (aO.ret ?_))))
  obtain rfl:_=r:=(aY H:)
  exact bN
 refine aO.skip (qS (qR (q1 aF (bO H fun x17 z16 H=>(q1 (bJ Tryz.func237 (j8 fu x2 _ z16)) (q1 aF ?_))))))
 refine dY 51 H (fun g18 H=>?_) fun g18 H=>?_
 ·refine qg g18 aF (bO H fun x20 z19 H=>(qg g18 (bJ Tryz.func237 (j8 fu x3 _ z19)) (q1 (bS g18) (q1 aF ?_))))
  refine dY 55 H (fun g21 H=>?_) fun g21 H=>?_
  ·refine qg g21 aF (bO H fun x23 z22 H=>(qg g21 (bJ Tryz.func237 (j8 fu x4 _ z22)) (q1 (bS g21) (q1 aF ?_))))
   refine dY 59 H (fun g24 H=>?_) fun g24 H=>?_
   ·refine qg g24 aF (bO H fun x26 z25 H=>(qg g24 (bJ Tryz.func237 (j8 fu x5 _ z25)) (q1 (bS g24) (q1 aF ?_))))
    refine dY 63 H (fun g27 H=>?_) fun g27 H=>?_
    ·refine qg g27 (c6 [pS pa0.gName,rS pa0.gDeps,HZ pa0.gTraits,m8 pa0.gDataTypes,uD pa0.gInstances,CF pa0.gFunctions] nE) (bO H fun x29 z28 H=>(qg g27 (bJ Tryz.func238 (RP fu pa0 _ z28)) (q1 (bS g27) (q1 aF (qN (aO.ret ?_))))))
     obtain rfl:_=r:=(aY H:)
     exact bN
    iterate 2 refine qk g27 ?_
    refine q1 (b4 g27) (q1 aF (qN (aO.ret ?_)))
    obtain rfl:_=r:=(aY H:)
    exact bN
   iterate 2 refine qk g24 ?_
   refine q1 (b4 g24) (q1 aF ?_)
   iterate 2 refine qk rfl ?_
   refine q1 (b4 rfl) (q1 aF (qN (aO.ret ?_)))
   obtain rfl:_=r:=(aY H:)
   exact bN
  iterate 2 refine qk g21 ?_
  refine q1 (b4 g21) (q1 aF ?_)
  iterate 2 refine qk rfl ?_
  refine q1 (b4 rfl) (q1 aF ?_)
  iterate 2 refine qk rfl ?_
  refine q1 (b4 rfl) (q1 aF (qN (aO.ret ?_)))
  obtain rfl:_=r:=(aY H:)
  exact bN
 iterate 2 refine qk g18 ?_
 refine q1 (b4 g18) (q1 aF ?_)
 iterate 2 refine qk rfl ?_
 refine q1 (b4 rfl) (q1 aF ?_)
 iterate 2 refine qk rfl ?_
 refine q1 (b4 rfl) (q1 aF ?_)
 iterate 2 refine qk rfl ?_
 refine q1 (b4 rfl) (q1 aF (qN (aO.ret ?_)))
 obtain rfl:_=r:=(aY H:)
 exact bN
def GS(m:aA→Option (aK×Bool)):Prop:= ∀(pa0:aA) (r:aK×Bool),m pa0=some r→cH Tryz.prog 208 [(aA.pv pa0)] (.tup [(aK.pv r.1),pB r.2]:PV)
def FC(fu:Nat)(pa0 x2:aA)(x4:List ByteArray)(x5:Bool)(x7:aA)(x9:Bool):Nat→(ByteArray×(List ByteArray)×(List aP)×(List aI)×(List aH)×(List aL))→Option (LR (ByteArray×(List ByteArray)×(List aP)×(List aI)×(List aH)×(List aL)) (aK×Bool)):=
 fun i17 (v18,v19,v24,v25,v26,v27)=>bd (E9 fu (v18,v19,v24,v25,v26,v27) (a5 pa0.gList i17)) (fun(x31,x32)=>
 sw (!(x31))
 (some (.ret ((aK.mk s_ [] [] [] [] []),false)))
 (some (.next (x32.1,x32.2.1,x32.2.2.1,x32.2.2.2.1,x32.2.2.2.2.1,x32.2.2.2.2.2))))
def EL(fu:Nat)(pa0 x2:aA)(x4:List ByteArray)(x5:Bool)(x7:aA)(x9:Bool):Option ((aK×Bool)⊕(ByteArray×(List ByteArray)×(List aP)×(List aI)×(List aH)×(List aL))):=
 loopN (FC fu pa0 x2 x4 x5 x7 x9) (pa0.gList.length-3) 3 (x7.gAtom,x4,([]),([]),([]),([]))
def qO(fu:Nat)(pa0:aA):Option (aK×Bool):=
 bd (cX fu pa0 2) (fun x2=>
 bd (uO fu x2.gList) (fun(x4,x5)=>
 bd (cX fu pa0 1) (fun x7=>
 bd (gA fu pa0) (fun x9=>
 sw (!(x9))
 (some ((aK.mk s_ [] [] [] [] []),false))
 (sw (decide ((((pa0.gList.length:Nat):Int):Int)<3))
 (some ((aK.mk s_ [] [] [] [] []),false))
 (gd (0<(pa0.gList).length)
 (sw (!decide ((a5 pa0.gList 0).gAtom=PP))
 (some ((aK.mk s_ [] [] [] [] []),false))
 (gd (2<(pa0.gList).length)
 (sw (!decide ((a5 pa0.gList 2).gAtom=s_))
 (some ((aK.mk s_ [] [] [] [] []),false))
 (sw (!(x5))
 (some ((aK.mk s_ [] [] [] [] []),false))
 (so (EL fu pa0 x2 x4 x5 x7 x9) (fun(v18,v19,v24,v25,v26,v27)=>
 bd (qX fu (aK.mk v18 v19 v24 v25 v26 v27)) (fun x35=>
 sw (!(x35))
 (some ((aK.mk s_ [] [] [] [] []),false))
 (some ((aK.mk v18 v19 v24 v25 v26 v27),true)))))))))))))))
theorem FI(fu:Nat):GS (qO fu):=by
 intro pa0 r H
 have H:=fC H
 refine qI Tryz.func208 (fun C hC=>?_)
 refine qS (qR (q1 (lA ([pS pa0.gAtom,a8 pa0.gList])) (q1 (hH o5) (q1 aF (qN (qS (qR (q1 (c6 [pS pa0.gAtom,a8 pa0.gList] bP) (bO H fun x2 z1 H=>(q1 (bJ Tryz.func219 (cO fu pa0 2 _ z1)) (q1 (rF1 Q4) (f8 H fun x4 x5 z3 H=>(q1 (bJ Tryz.func218 (AM fu x2.gList _ z3)) ?_)))))))))))))
 refine q1 aF ?_
 iterate 2 refine q1 KJ ?_
 iterate 2 refine q1 aF ?_
 refine qN (qS (qR (q1 (c6 [pS pa0.gAtom,a8 pa0.gList] bP) (bO H fun x7 z6 H=>(q1 (bJ Tryz.func219 (cO fu pa0 1 _ z6)) (q1 (rF1 qZ) (q1 aF (q1 (fM o5 DP) (q1 (hH o5) (q1 (bV qV) (qN ?_)))))))))))
 iterate 2 refine qS ?_
 refine qR (q1 (c6 [pS pa0.gAtom,a8 pa0.gList] bP) (bO H fun x9 z8 H=>(q1 (bJ Tryz.func217 (cT fu pa0 _ z8)) (q1 gS (q1 aF ?_)))))
 refine dY 23 H (fun g10 H=>?_) fun g10 H=>?_
 ·refine qk g10 ?_
  iterate 3 refine qk g10 ?_
  refine q1 (bS g10) (q1 aF ?_)
  iterate 6 refine qk rfl ?_
  refine q1 (bS rfl) (q1 aF ?_)
  iterate 6 refine qk rfl ?_
  refine q1 (bS rfl) (q1 aF ?_)
  iterate 2 refine qk rfl ?_
  refine q1 (bS rfl) (qN (dT rfl (qS (qR (q1 (fM o5 DP) (q1 (bV qV) (q1 aF (qN (aO.ret ?_)))))))))
  obtain rfl:_=r:=(aY H:)
  exact rA (hr:=⟨⟨_,_,_,rfl,rfl,nE,rfl,rfl⟩,rfl,trivial⟩)
 refine qg g10 (aZ bF) (qg g10 (bB cN) (qg g10 (eM bH (aA.trs_len _)) (qg g10 gU (q1 (b4 g10) (q1 aF ?_)))))
 refine dY 29 H (fun g11 H=>?_) fun g11 H=>?_
 ·have g11n:pa0.gList.length<3:=by have:=of_decide_eq_true g11;omega
  iterate 6 refine qk g11 ?_
  refine q1 (bS g11) (q1 aF ?_)
  iterate 6 refine qk rfl ?_
  refine q1 (bS rfl) (q1 aF ?_)
  iterate 2 refine qk rfl ?_
  refine q1 (bS rfl) (qN (dT rfl (qS (qR (q1 (fM o5 DP) (q1 (bV qV) (q1 aF (qN (aO.ret ?_)))))))))
  obtain rfl:_=r:=(aY H:)
  exact rA (hr:=⟨⟨_,_,_,rfl,rfl,nE,rfl,rfl⟩,rfl,trivial⟩)
 refine qg g11 (aZ bF) (qg g11 (bB cN) (dK H fun z12 H=>(qg g11 (j0 z12 bH) (qg g11 (nD eS) (qg g11 (mR e8) (qg g11 O9 (q1 (b4 g11) (q1 aF ?_))))))))
 refine dY 37 H (fun g13 H=>?_) fun g13 H=>?_
 ·refine qk g13 ?_
  iterate 5 refine qk g13 ?_
  refine q1 (bS g13) (q1 aF ?_)
  iterate 2 refine qk rfl ?_
  refine q1 (bS rfl) (qN (dT rfl (qS (qR (q1 (fM o5 DP) (q1 (bV qV) (q1 aF (qN (aO.ret ?_)))))))))
  obtain rfl:_=r:=(aY H:)
  exact rA (hr:=⟨⟨_,_,_,rfl,rfl,nE,rfl,rfl⟩,rfl,trivial⟩)
 refine qg g13 (aZ bF) (qg g13 (bB cN) (dK H fun z14 H=>(qg g13 (j0 z14 bH) (qg g13 (nD eS) (qg g13 (mR e8) (qg g13 O9 (q1 (b4 g13) (q1 aF ?_))))))))
 refine dY 45 H (fun g15 H=>?_) fun g15 H=>?_
 ·refine qk g15 (qk g15 (q1 (bS g15) (qN (dT rfl (qS (qR (q1 (fM o5 DP) (q1 (bV qV) (q1 aF (qN (aO.ret ?_)))))))))))
  obtain rfl:_=r:=(aY H:)
  exact rA (hr:=⟨⟨_,_,_,rfl,rfl,nE,rfl,rfl⟩,rfl,trivial⟩)
 refine qg g15 aF (qg g15 gS (q1 (b4 g15) (qN ?_)))
 refine a9 H (fun h16 H=>?_) (fun h16 H=>?_)
 ·refine qS (qR (q1 (fM o5 DP) (q1 (bV qV) (q1 aF (qN (aO.ret ?_))))))
  obtain rfl:_=r:=(aY H:)
  exact rA (hr:=⟨⟨_,_,_,rfl,rfl,nE,rfl,rfl⟩,rfl,trivial⟩)
 refine aO.skip ?_
 iterate 2 refine qS ?_
 refine qR (q1 aF (qN (aO.wk (Wk.regBox (k:=2) (j:=2) 60 5 (by decide) rfl rfl) (aO.wk (Wk.regBox (k:=2) (j:=3) 116 3 (by decide) rfl rfl) (aO.wk (Wk.regBox (k:=2) (j:=4) 55 12 (by decide) rfl rfl) (aO.wk (Wk.regBox (k:=2) (j:=5) 148 16 (by decide) rfl rfl) ?_))))))
 refine nF 25 (aA.trs_len _) (fun hl28=>?_)
 refine cG (σ:=ByteArray×(List ByteArray)×(List aP)×(List aI)×(List aH)×(List aL)) (fun i17 (v18,v19,v24,v25,v26,v27)=>⟨[(1,.ptr 0 0),(2,.ptr 1 0),(3,pB false),(6,.ptr 2 0),(7,pN i17)],⟨[some ⟨237,[pS pa0.gAtom,a8 pa0.gList]⟩,some ⟨131,[pS s_,.nil,.nil,.nil,.nil,.nil]⟩,some ⟨131,[pS v18,rS v19,u7 v24 0,lS v25 1,lJ v26 2,lM v27 3]⟩],[⟨60,5,aP.trs (v24),false⟩,⟨116,3,aI.trs (v25),false⟩,⟨55,12,aH.trs (v26),false⟩,⟨148,16,aL.trs (v27),false⟩]⟩⟩) (fun(v18,v19,v24,v25,v26,v27)=>⟨[(2,.ptr 1 0),(3,pB false),(6,.ptr 2 0)],⟨[some ⟨237,[pS pa0.gAtom,a8 pa0.gList]⟩,some ⟨131,[pS s_,.nil,.nil,.nil,.nil,.nil]⟩,some ⟨131,[pS v18,rS v19,u7 v24 0,lS v25 1,lJ v26 2,lM v27 3]⟩],[⟨60,5,aP.trs (v24),false⟩,⟨116,3,aI.trs (v25),false⟩,⟨55,12,aH.trs (v26),false⟩,⟨148,16,aL.trs (v27),false⟩]⟩⟩) (f9 H) ?_ ?_
 ·rintro i17 ⟨v18,v19,v24,v25,v26,v27⟩ H
  iterate 2 refine qS ?_
  refine qR (q1 aF (q1 (aZ bF) (q1 (bB cN) (q1 (eM bH (aA.trs_len _)) (q1 gU (qN ?_))))))
  refine eJ H (fun h29 h29l H=>?_) (fun h29 H=>?_)
  ·have h29n:=a7 h29
   refine aO.skip (qS (aO.block (qS (qR (q1 (aZ bF) (q1 (bB cN) (q1 aF (q1 (j0 h29n bH) (q1 (j7 (aA.cs (a5 pa0.gList i17)) bP) (f8 H fun x31 x32 z30 H=>(q1 (gF [2] [0,1,2,3] Tryz.func220 (UG fu (v18,v19,v24,v25,v26,v27) (a5 pa0.gList i17) _ z30)) (q1 gS (qN ?_)))))))))))))
   refine a9 H (fun h33 H=>?_) (fun h33 H=>?_)
   ·refine qS (qR (q1 (fM o5 DP) (q1 (bV qV) (q1 aF (qN (aO.ret ?_))))))
    obtain rfl:_=r:=(pY (aY H):)
    exact rA (hr:=⟨⟨_,_,_,rfl,rfl,nE,rfl,rfl⟩,rfl,trivial⟩)
   refine aO.skip (qR (q1 aF (q1 (aW.addI rfl rfl rfl rfl (c:=((i17+1:Nat):Int)) (by omega) (by omega)) (q1 aF (qN ?_)))))
   exact jA h29l ⟨_,(aY H:),bZ⟩
  refine aO.exit ?_;exact k7 ⟨_,H,bZ⟩
 rintro⟨v18,v19,v24,v25,v26,v27⟩ H
 iterate 2 refine qS ?_
 refine qR (q1 (c6 [pS v18,rS v19,u7 v24 0,lS v25 1,lJ v26 2,lM v27 3] nE) (bO H fun x35 z34 H=>(q1 (bJ Tryz.func221 (EP fu (aK.mk v18 v19 v24 v25 v26 v27) _ z34)) (q1 gS (qN ?_)))))
 refine a9 H (fun h36 H=>?_) (fun h36 H=>?_)
 ·refine qS (qR (q1 (fM o5 DP) (q1 (bV qV) (q1 aF (qN (aO.ret ?_))))))
  obtain rfl:_=r:=(aY H:)
  exact rA (hr:=⟨⟨_,_,_,rfl,rfl,nE,rfl,rfl⟩,rfl,trivial⟩)
 refine aO.skip (qS (qR (q1 (c6 [pS v18,rS v19,u7 v24 0,lS v25 1,lJ v26 2,lM v27 3] nE) (q1 (bV qV) (q1 aF (qN (aO.ret ?_)))))))
 obtain rfl:_=r:=(aY H:)
 exact rA (hr:=⟨⟨_,_,_,rfl,rfl,nE,rfl,rfl⟩,rfl,trivial⟩)
def KY(m:ByteArray→Option (aK×Bool)):Prop:= ∀(ps:ByteArray) (r:aK×Bool),m ps=some r→cH Tryz.prog 193 [pS ps] (.tup [(aK.pv r.1),pB r.2]:PV)
def tR(fu:Nat)(ps:ByteArray):Option (aK×Bool):=
 bd (sK fu ps) (fun(x2,x3)=>
 sw (!(x3))
 (some ((aK.mk s_ [] [] [] [] []),false))
 (bd (qO fu x2) (fun(x6,x7)=>
 some (x6,x7))))
theorem IW(fu:Nat):KY (tR fu):=by
 intro ps r H
 have H:=fC H
 refine qI Tryz.func193 (fun C hC=>?_)
 refine qS (qR (q1 (hH o5) (q1 aF (qN (qS (qR (q1 aF (f8 H fun x2 x3 z1 H=>(q1 (bJ Tryz.func207 (L2 fu ps _ z1)) (q1 aF ?_))))))))))
 iterate 2 refine q1 KJ ?_
 refine q1 (hH b3) (q1 (bV dR) (q1 aF (qN ?_)))
 iterate 2 refine qS ?_
 refine qR (q1 aF (q1 gS (qN ?_)))
 refine a9 H (fun h4 H=>?_) (fun h4 H=>?_)
 ·refine qS (qR (q1 (fM o5 DP) (q1 (bV qV) (q1 aF (qN (aO.ret ?_))))))
  obtain rfl:_=r:=(aY H:)
  exact rA (hr:=⟨⟨_,_,_,rfl,rfl,nE,rfl,rfl⟩,rfl,trivial⟩)
 refine aO.skip (qS (qR (q1 (c6 [pS x2.gAtom,a8 x2.gList] bP) (f8 H fun x6 x7 z5 H=>(q1 (bJ Tryz.func208 (FI fu x2 _ z5)) ?_)))))
 iterate 2 refine q1 KJ ?_
 refine q1 (bV qV) (q1 aF (qN (aO.ret ?_)))
 obtain rfl:_=r:=(aY H:)
 exact rA (hr:=⟨⟨_,_,_,rfl,rfl,nE,rfl,rfl⟩,rfl,trivial⟩)
def K9(m:ByteArray→Option (aM×Int)):Prop:= ∀(ps:ByteArray) (r:aM×Int),m ps=some r→QZ Tryz.prog 165 [pS ps] ⟨[],[]⟩ [] 131 6 (aK.trs (r.1.gPackages)) (fun k=> .tup [.agg [o6 r.1.gPackages k],pI r.2])
def HT(fu:Nat)(ps:ByteArray)(x2:List ByteArray):Nat→((List aK))→Option (LR ((List aK)) (aM×Int)):=
 fun i3 v5=>bd (BG fu (a5 x2 i3)) (fun x9=>
 sw (x9)
 (some (.next v5))
 (bd (tR fu (a5 x2 i3)) (fun(x12,x13)=>
 sw (!(x13))
 (some (.ret ((aM.mk []),((v5.length:Nat):Int))))
 (sw (decide ((((v5.length:Nat):Int):Int)=5))
 (some (.ret ((aM.mk []),((v5.length:Nat):Int))))
 (gd ((v5).length+(([x12]:List aK)).length≤68719476736)
 (some (.next (v5++([x12]:List aK)))))))))
def IN(fu:Nat)(ps:ByteArray)(x2:List ByteArray):Option ((aM×Int)⊕((List aK))):=
 loopN (HT fu ps x2) (x2.length-0) 0 ([])
def tF(fu:Nat)(ps:ByteArray):Option (aM×Int):=
 bd (yW fu ps (10:UInt8)) (fun x2=>
 so (IN fu ps x2) (fun v5=>
 some ((aM.mk v5),(-1))))
theorem HQ(fu:Nat):K9 (tF fu):=by
 intro ps r H
 unfold QZ
 have H:=fC H
 refine qI Tryz.func165 (fun C hC=>?_)
 refine qS (qR (q1 (hH NZ) (q1 aF (qN (qS (qR (q1 (fM NZ ag9) (q1 (hH NZ) (q1 (bV NQ) (qN (qS (qR (q1 aF ?_)))))))))))))
 refine bO H fun x2 z1 H=>(q1 (bJ Tryz.func191 (N8 fu ps (10:UInt8) _ z1)) (q1 aF (qN ?_)))
 iterate 2 refine qS ?_
 refine qR (q1 aF (qN (aO.wk (Wk.regBox (k:=1) (j:=0) 131 6 (by decide) rfl rfl) ?_)))
 refine nF 5 (bE _) (fun hl6=>?_)
 refine cG (σ:=(List aK)) (fun i3 v5=>⟨[(2,.ptr 0 0),(3,pI 0),(4,.ptr 1 0),(5,rS x2),(6,pN i3)],⟨[some ⟨26,[.nil]⟩,some ⟨26,[o6 v5 0]⟩],[⟨131,6,aK.trs (v5),false⟩]⟩⟩) (fun v5=>⟨[(2,.ptr 0 0),(3,pI 0),(4,.ptr 1 0)],⟨[some ⟨26,[.nil]⟩,some ⟨26,[o6 v5 0]⟩],[⟨131,6,aK.trs (v5),false⟩]⟩⟩) (f9 H) ?_ ?_
 ·rintro i3 v5 H
  iterate 2 refine qS ?_
  refine qR ?_
  iterate 2 refine q1 aF ?_
  refine q1 (eM bW (bE _)) (q1 gU (qN ?_))
  refine eJ H (fun h7 h7l H=>?_) (fun h7 H=>?_)
  ·have h7n:=a7 h7
   refine aO.skip (qS (aO.block ?_))
   iterate 2 refine qS ?_
   refine qR ?_
   iterate 2 refine q1 aF ?_
   refine q1 (j0 h7n bW) (q1 (mR e8) (bO H fun x9 z8 H=>(q1 (bJ Tryz.func192 (SV fu (a5 x2 i3) _ z8)) (qN ?_))))
   refine a9 H (fun h10 H=>?_) (fun h10 H=>?_)
   ·refine aO.exit (qR (q1 aF (q1 (aW.addI rfl rfl rfl rfl (c:=((i3+1:Nat):Int)) (by omega) (by omega)) (q1 aF (qN ?_)))))
    exact jA h7l ⟨_,(aY H:),bZ⟩
   refine aO.skip (qS (qR ?_))
   iterate 2 refine q1 aF ?_
   refine q1 (j0 h7n bW) (q1 (mR e8) (f8 H fun x12 x13 z11 H=>(q1 (bJ Tryz.func193 (IW fu (a5 x2 i3) _ z11)) (q1 aF ?_))))
   iterate 2 refine q1 KJ ?_
   refine q1 (hH o5) (q1 (bV qV) (q1 aF (qN ?_)))
   iterate 2 refine qS ?_
   refine qR (q1 aF (q1 gS (q1 aF ?_)))
   refine dY 33 H (fun g14 H=>?_) fun g14 H=>?_
   ·refine qk g14 ?_
    iterate 3 refine qk g14 ?_
    refine q1 (bS g14) (qN (dT rfl (qS (dW (dI [] (fM NZ ag9) (dI [4] (aZ gQ) (dB [40] 0 1 (s5 sE) (dI [41] (eM o3 (aK.trs_len _)) (mZ [2,39] (bV NQ) (dI [42] aF (dN (aO.wk (Wk.regBox (k:=0) (j:=0) 131 6 (by decide) rfl rfl) (aO.ret ?_)))))))))))))
    obtain rfl:_=r:=(pY (aY H):)
    exact rA (st':=⟨[],[⟨131,6,aK.trs (v5),false⟩,⟨131,6,aK.trs ([]),false⟩]⟩) ⟨1,rfl,rfl,rfl⟩ (hr:=⟨⟨_,_,_,rfl,rfl,nI,rfl,rfl⟩,rfl,trivial⟩)
   refine qg g14 (aZ gQ) (qg g14 (bB sE) (qg g14 (eM o3 (aK.trs_len _)) (qg g14 dP (q1 (b4 g14) (qN ?_)))))
   refine a9 H (fun h15 H=>?_) (fun h15 H=>?_)
   ·refine qS (dW (dI [] (fM NZ ag9) (dI [4] (aZ gQ) (dB [40] 0 1 (s5 sE) (dI [41] (eM o3 (aK.trs_len _)) (mZ [2,39] (bV NQ) (dI [42] aF (dN (aO.wk (Wk.regBox (k:=0) (j:=0) 131 6 (by decide) rfl rfl) (aO.ret ?_))))))))))
    obtain rfl:_=r:=(pY (aY H):)
    exact rA (st':=⟨[],[⟨131,6,aK.trs (v5),false⟩,⟨131,6,aK.trs ([]),false⟩]⟩) ⟨1,rfl,rfl,rfl⟩ (hr:=⟨⟨_,_,_,rfl,rfl,nI,rfl,rfl⟩,rfl,trivial⟩)
   refine aO.skip (qR (q1 (aZ gQ) (q1 (bB sE) (q1 (c6 [pS x12.gName,rS x12.gDeps,HZ x12.gTraits,m8 x12.gDataTypes,uD x12.gInstances,CF x12.gFunctions] nE) (q1 (rC ([x12]:List aK) o3 o5) (dK H fun z16 H=>(q1 (lC z16 o3 aiV) (q1 (aZ gQ) (q1 (bV aiI) (qN (qR (q1 aF (q1 (aW.addI rfl rfl rfl rfl (c:=((i3+1:Nat):Int)) (by omega) (by omega)) ?_)))))))))))))
   refine q1 aF (qN ?_)
   exact jA h7l ⟨_,(aY H:),bZ⟩
  refine aO.exit ?_;exact k7 ⟨_,H,bZ⟩
 rintro v5 H
 refine qS (qR (q1 (c6 [o6 v5 0] nI) (q1 (bV NQ) (q1 aF (qN (aO.ret ?_))))))
 obtain rfl:_=r:=(aY H:)
 exact rA (st':=⟨[],[⟨131,6,aK.trs (v5),false⟩]⟩) ⟨0,rfl,rfl,rfl⟩ (hr:=⟨⟨_,_,_,rfl,rfl,nI,rfl,rfl⟩,rfl,trivial⟩)
def ZJ(m:DS→Option (ByteArray×DS)):Prop:= ∀(pc:DS) (r:ByteArray×DS),m pc=some r→dG Tryz.prog 194 [.ptr 0 0] ⟨[some ⟨151,dC pc⟩],[]⟩ (fun q t=>q=(pS r.1:PV)∧t=⟨[some ⟨151,dC r.2⟩],[]⟩)
def DY(fu:Nat)(pc:DS):Option (ByteArray×DS):=
 gd ((cK).size+(cJ).size≤1099511627776)
 (gd ((cK++cJ).size+(cM).size≤1099511627776)
 (gd (((cK++cJ)++cM).size+(cQ).size≤1099511627776)
 (lt (pc.after 2) (fun d4=>
 sw (decide (pc.below 2=0))
 (gd ((((cK++cJ)++cM)++cQ).size+(g0).size≤1099511627776)
 (gd (((((cK++cJ)++cM)++cQ)++g0).size+(c7).size≤1099511627776)
 (gd ((((((cK++cJ)++cM)++cQ)++g0)++c7).size+(eC).size≤1099511627776)
 (gd (((((((cK++cJ)++cM)++cQ)++g0)++c7)++eC).size+(e9).size≤1099511627776)
 (gd ((((((((cK++cJ)++cM)++cQ)++g0)++c7)++eC)++e9).size+(gG).size≤1099511627776)
 (gd (((((((((cK++cJ)++cM)++cQ)++g0)++c7)++eC)++e9)++gG).size+(iZ).size≤1099511627776)
 (gd ((((((((((cK++cJ)++cM)++cQ)++g0)++c7)++eC)++e9)++gG)++iZ).size+(mN).size≤1099511627776)
 (gd (((((((((((cK++cJ)++cM)++cQ)++g0)++c7)++eC)++e9)++gG)++iZ)++mN).size+(vH).size≤1099511627776)
 (some ((((((((((((cK++cJ)++cM)++cQ)++g0)++c7)++eC)++e9)++gG)++iZ)++mN)++vH),d4))))))))))
 (gd ((((cK++cJ)++cM)++cQ).size+(gZ).size≤1099511627776)
 (gd (((((cK++cJ)++cM)++cQ)++gZ).size+(c7).size≤1099511627776)
 (gd ((((((cK++cJ)++cM)++cQ)++gZ)++c7).size+(eC).size≤1099511627776)
 (gd (((((((cK++cJ)++cM)++cQ)++gZ)++c7)++eC).size+(e9).size≤1099511627776)
 (gd ((((((((cK++cJ)++cM)++cQ)++gZ)++c7)++eC)++e9).size+(gG).size≤1099511627776)
 (gd (((((((((cK++cJ)++cM)++cQ)++gZ)++c7)++eC)++e9)++gG).size+(iZ).size≤1099511627776)
 (gd ((((((((((cK++cJ)++cM)++cQ)++gZ)++c7)++eC)++e9)++gG)++iZ).size+(mN).size≤1099511627776)
 (gd (((((((((((cK++cJ)++cM)++cQ)++gZ)++c7)++eC)++e9)++gG)++iZ)++mN).size+(vH).size≤1099511627776)
 (some ((((((((((((cK++cJ)++cM)++cQ)++gZ)++c7)++eC)++e9)++gG)++iZ)++mN)++vH),d4))))))))))))))
theorem V9(fu:Nat):ZJ (DY fu):=by
 intro pc r H
 have H:=fC H
 refine qI Tryz.func194 (fun C hC=>?_)
 refine qS (qR (q1 aF (qN (qS (qR (q1 aF (qN (qS (qR (q1 aF (dK H fun z1 H=>(q1 (aW.addS rfl rfl rfl rfl (Nat.le_trans z1 (by decide))) (q1 aF ?_)))))))))))))
 refine qN (qS (qR (q1 aF (dK H fun z2 H=>(q1 (aW.addS rfl rfl rfl rfl (Nat.le_trans z2 (by decide))) (q1 aF (qN (qS (qR (q1 aF (dK H fun z3 H=>(q1 (aW.addS rfl rfl rfl rfl (Nat.le_trans z3 (by decide))) (q1 aF ?_)))))))))))))
 refine qN ?_
 iterate 2 refine qS ?_
 refine qR (q1 aF (gE H fun d4 h5 H=>(q1 (gF [0] [] Tryz.func112 (AN h5 (mB pc 2))) (qN ?_))))
 refine a9 H (fun h6 H=>?_) (fun h6 H=>?_)
 ·refine qR (q1 aF (dK H fun z7 H=>(q1 (aW.addS rfl rfl rfl rfl (Nat.le_trans z7 (by decide))) (q1 aF (qN (qS (qR (q1 aF (dK H fun z8 H=>(q1 (aW.addS rfl rfl rfl rfl (Nat.le_trans z8 (by decide))) (q1 aF (qN (qS ?_)))))))))))))
  refine qR (q1 aF (dK H fun z9 H=>(q1 (aW.addS rfl rfl rfl rfl (Nat.le_trans z9 (by decide))) (q1 aF (qN (qS (qR (q1 aF (dK H fun z10 H=>(q1 (aW.addS rfl rfl rfl rfl (Nat.le_trans z10 (by decide))) (q1 aF (qN (qS ?_)))))))))))))
  refine qR (q1 aF (dK H fun z11 H=>(q1 (aW.addS rfl rfl rfl rfl (Nat.le_trans z11 (by decide))) (q1 aF (qN (qS (qR (q1 aF (dK H fun z12 H=>(q1 (aW.addS rfl rfl rfl rfl (Nat.le_trans z12 (by decide))) (q1 aF (qN (qS ?_)))))))))))))
  refine qR (q1 aF (dK H fun z13 H=>(q1 (aW.addS rfl rfl rfl rfl (Nat.le_trans z13 (by decide))) (q1 aF (qN (qS (qR (q1 aF (dK H fun z14 H=>(q1 (aW.addS rfl rfl rfl rfl (Nat.le_trans z14 (by decide))) (q1 aF (qN (aO.ret ?_)))))))))))))
  obtain rfl:_=r:=(aY H:)
  exact bN
 refine qR (q1 aF (dK H fun z15 H=>(q1 (aW.addS rfl rfl rfl rfl (Nat.le_trans z15 (by decide))) (q1 aF (qN (qS (qR (q1 aF (dK H fun z16 H=>(q1 (aW.addS rfl rfl rfl rfl (Nat.le_trans z16 (by decide))) (q1 aF (qN (qS ?_)))))))))))))
 refine qR (q1 aF (dK H fun z17 H=>(q1 (aW.addS rfl rfl rfl rfl (Nat.le_trans z17 (by decide))) (q1 aF (qN (qS (qR (q1 aF (dK H fun z18 H=>(q1 (aW.addS rfl rfl rfl rfl (Nat.le_trans z18 (by decide))) (q1 aF (qN (qS ?_)))))))))))))
 refine qR (q1 aF (dK H fun z19 H=>(q1 (aW.addS rfl rfl rfl rfl (Nat.le_trans z19 (by decide))) (q1 aF (qN (qS (qR (q1 aF (dK H fun z20 H=>(q1 (aW.addS rfl rfl rfl rfl (Nat.le_trans z20 (by decide))) (q1 aF (qN (qS ?_)))))))))))))
 refine qR (q1 aF (dK H fun z21 H=>(q1 (aW.addS rfl rfl rfl rfl (Nat.le_trans z21 (by decide))) (q1 aF (qN (qS (qR (q1 aF (dK H fun z22 H=>(q1 (aW.addS rfl rfl rfl rfl (Nat.le_trans z22 (by decide))) (q1 aF (qN (aO.ret ?_)))))))))))))
 obtain rfl:_=r:=(aY H:)
 exact bN
def abJ(m:DS→Option (ByteArray×DS)):Prop:= ∀(pc:DS) (r:ByteArray×DS),m pc=some r→dG Tryz.prog 195 [.ptr 0 0] ⟨[some ⟨151,dC pc⟩],[]⟩ (fun q t=>q=(pS r.1:PV)∧t=⟨[some ⟨151,dC r.2⟩],[]⟩)
def ZF(fu:Nat)(pc:DS):Option ((ByteArray×DS)⊕(ByteArray×DS)):=
 lt (pc.after 8) (fun d3=>
 sw (decide ((((pc.below 8:Nat):Int):Int)=0))
 (gd ((eD).size+(G1).size≤1099511627776)
 (some (.inr ((eD++G1),d3))))
 (sw (decide ((((pc.below 8:Nat):Int):Int)=1))
 (gd ((eD).size+(GN).size≤1099511627776)
 (some (.inr ((eD++GN),d3))))
 (sw (decide ((((pc.below 8:Nat):Int):Int)=2))
 (gd ((eD).size+(GT).size≤1099511627776)
 (some (.inr ((eD++GT),d3))))
 (sw (decide ((((pc.below 8:Nat):Int):Int)=3))
 (gd ((eD).size+(GV).size≤1099511627776)
 (some (.inr ((eD++GV),d3))))
 (sw (decide ((((pc.below 8:Nat):Int):Int)=4))
 (gd ((eD).size+(F0).size≤1099511627776)
 (some (.inr ((eD++F0),d3))))
 (sw (decide ((((pc.below 8:Nat):Int):Int)=5))
 (gd ((eD).size+(GX).size≤1099511627776)
 (some (.inr ((eD++GX),d3))))
 (gd ((eD).size+(G0).size≤1099511627776)
 (some (.inr ((eD++G0),d3))))))))))
def XW(fu:Nat)(pc:DS)(v1:ByteArray)(v2 d19:DS)(y21:ByteArray):Option ((ByteArray×DS)⊕(ByteArray×DS)):=
 lt (d19.after 2) (fun d27=>
 sw (decide (d19.below 2=0))
 (gd ((((v1++mT)++y21)++vH).size+(GP).size≤1099511627776)
 (some (.inr (((((v1++mT)++y21)++vH)++GP),d27))))
 (some (.inr ((((v1++mT)++y21)++vH),d27))))
def Y3(fu:Nat)(pc:DS)(v1:ByteArray)(v2 d19:DS)(y21 v25:ByteArray)(v26:DS):Option ((ByteArray×DS)⊕(ByteArray×DS)):=
 lt (v26.after 3) (fun d33=>
 sw (decide (v26.below 3=0))
 (gd ((v25).size+(GF).size≤1099511627776)
 (some (.inr ((v25++GF),d33))))
 (some (.inr (v25,d33))))
def H3(fu:Nat)(pc:DS):Option (ByteArray×DS):=
 so (ZF fu pc) (fun(v1,v2)=>
 gd ((v1).size+(mT).size≤1099511627776)
 (lt (v2.after ([xG,xB,wX,xE,xR,xQ,wZ,wY,wV,wT]:List ByteArray).length) (fun d19=>
 lt (v2.pick ([xG,xB,wX,xE,xR,xQ,wZ,wY,wV,wT]:List ByteArray)) (fun y21=>
 gd ((v1++mT).size+(y21).size≤1099511627776)
 (gd (((v1++mT)++y21).size+(vH).size≤1099511627776)
 (so (XW fu pc v1 v2 d19 y21) (fun(v25,v26)=>
 so (Y3 fu pc v1 v2 d19 y21 v25 v26) (fun(v31,v32)=>
 lt (v32.after 4) (fun d37=>
 sw (decide (v32.below 4=0))
 (gd ((v31).size+(xC).size≤1099511627776)
 (gd ((v31++xC).size+(vH).size≤1099511627776)
 (some (((v31++xC)++vH),d37))))
 (gd ((v31).size+(vH).size≤1099511627776)
 (some ((v31++vH),d37))))))))))))
theorem X4(fu:Nat):abJ (H3 fu):=by
 intro pc r H
 have H:=fC H
 refine qI Tryz.func195 (fun C hC=>?_)
 refine qS (qR (q1 aF (qN (qS (qR (q1 aF (qN (qS ?_))))))))
 refine oM (σ:=ByteArray×DS) (fun(v1,v2)=>⟨[(0,.ptr 0 0),(2,pS s_),(3,pS v1)],⟨[some ⟨151,dC v2⟩],[]⟩⟩) (f9 H) (fun H=>?_) ?_
 ·refine qS (qR (q1 aF (gE H fun d3 h4 H=>(q1 (gF [0] [] Tryz.func103 (AN h4 (fR pc 8))) (qN (aO.block (qS (qR (q1 dP (q1 aF (qN ?_)))))))))))
  refine a9 H (fun h5 H=>?_) (fun h5 H=>?_)
  ·refine qR (q1 aF (dK H fun z6 H=>(q1 (aW.addS rfl rfl rfl rfl (Nat.le_trans z6 (by decide))) (q1 aF (qN ?_)))))
   exact dH ⟨_,(aY H:),bZ⟩
  refine qS (qR (q1 dP (q1 aF (qN ?_))))
  refine a9 H (fun h7 H=>?_) (fun h7 H=>?_)
  ·refine qR (q1 aF (dK H fun z8 H=>(q1 (aW.addS rfl rfl rfl rfl (Nat.le_trans z8 (by decide))) (q1 aF (qN ?_)))))
   exact dH ⟨_,(aY H:),bZ⟩
  refine qS (qR (q1 dP (q1 aF (qN ?_))))
  refine a9 H (fun h9 H=>?_) (fun h9 H=>?_)
  ·refine qR (q1 aF (dK H fun z10 H=>(q1 (aW.addS rfl rfl rfl rfl (Nat.le_trans z10 (by decide))) (q1 aF (qN ?_)))))
   exact dH ⟨_,(aY H:),bZ⟩
  refine qS (qR (q1 dP (q1 aF (qN ?_))))
  refine a9 H (fun h11 H=>?_) (fun h11 H=>?_)
  ·refine qR (q1 aF (dK H fun z12 H=>(q1 (aW.addS rfl rfl rfl rfl (Nat.le_trans z12 (by decide))) (q1 aF (qN ?_)))))
   exact dH ⟨_,(aY H:),bZ⟩
  refine qS (qR (q1 dP (q1 aF (qN ?_))))
  refine a9 H (fun h13 H=>?_) (fun h13 H=>?_)
  ·refine qR (q1 aF (dK H fun z14 H=>(q1 (aW.addS rfl rfl rfl rfl (Nat.le_trans z14 (by decide))) (q1 aF (qN ?_)))))
   exact dH ⟨_,(aY H:),bZ⟩
  refine qS (qR (q1 dP (q1 aF (qN ?_))))
  refine a9 H (fun h15 H=>?_) (fun h15 H=>?_)
  ·refine qR (q1 aF (dK H fun z16 H=>(q1 (aW.addS rfl rfl rfl rfl (Nat.le_trans z16 (by decide))) (q1 aF (qN ?_)))))
   exact dH ⟨_,(aY H:),bZ⟩
  refine qR (q1 aF (dK H fun z17 H=>(q1 (aW.addS rfl rfl rfl rfl (Nat.le_trans z17 (by decide))) (q1 aF (qN ?_)))))
  exact dH ⟨_,(aY H:),bZ⟩
 rintro⟨v1,v2⟩ H
 refine qS (qR (q1 aF (dK H fun z18 H=>(q1 (aW.addS rfl rfl rfl rfl (Nat.le_trans z18 (by decide))) (q1 aF (q1 (iI ([xG,xB,wX,xE,xR,xQ,wZ,wY,wV,wT]:List ByteArray) bW jZ) (gE H fun d19 h20 H=>(gE H fun y21 h22 H=>(q1 (gF [0] [] Tryz.func86 (K6 h20 h22 (f7 v2 ([xG,xB,wX,xE,xR,xQ,wZ,wY,wV,wT]:List ByteArray) (by decide)))) (dK H fun z23 H=>(q1 (aW.addS rfl rfl rfl rfl (Nat.le_trans z23 (by decide))) (dK H fun z24 H=>(q1 (aW.addS rfl rfl rfl rfl (Nat.le_trans z24 (by decide))) ?_)))))))))))))
 refine q1 aF (qN (qS ?_))
 refine oM (σ:=ByteArray×DS) (fun(v25,v26)=>⟨[(0,.ptr 0 0),(2,pS s_),(3,pS v25)],⟨[some ⟨151,dC v26⟩],[]⟩⟩) (f9 H) (fun H=>?_) ?_
 ·refine qS (qR (q1 aF (gE H fun d27 h28 H=>(q1 (gF [0] [] Tryz.func112 (AN h28 (mB d19 2))) (qN ?_)))))
  refine a9 H (fun h29 H=>?_) (fun h29 H=>?_)
  ·refine qR (q1 aF (dK H fun z30 H=>(q1 (aW.addS rfl rfl rfl rfl (Nat.le_trans z30 (by decide))) (q1 aF (qN ?_)))))
   exact dH ⟨_,(aY H:),bZ⟩
  refine aO.skip ?_;exact dH ⟨_,(aY H:),bZ⟩
 rintro⟨v25,v26⟩ H
 refine qS ?_;refine oM (σ:=ByteArray×DS) (fun(v31,v32)=>⟨[(0,.ptr 0 0),(2,pS s_),(3,pS v31)],⟨[some ⟨151,dC v32⟩],[]⟩⟩) (f9 H) (fun H=>?_) ?_
 ·refine qS (qR (q1 aF (gE H fun d33 h34 H=>(q1 (gF [0] [] Tryz.func112 (AN h34 (mB v26 3))) (qN ?_)))))
  refine a9 H (fun h35 H=>?_) (fun h35 H=>?_)
  ·refine qR (q1 aF (dK H fun z36 H=>(q1 (aW.addS rfl rfl rfl rfl (Nat.le_trans z36 (by decide))) (q1 aF (qN ?_)))))
   exact dH ⟨_,(aY H:),bZ⟩
  refine aO.skip ?_;exact dH ⟨_,(aY H:),bZ⟩
 rintro⟨v31,v32⟩ H
 iterate 2 refine qS ?_
 refine qR (q1 aF (gE H fun d37 h38 H=>(q1 (gF [0] [] Tryz.func112 (AN h38 (mB v32 4))) (qN ?_))))
 refine a9 H (fun h39 H=>?_) (fun h39 H=>?_)
 ·refine qR (q1 aF (dK H fun z40 H=>(q1 (aW.addS rfl rfl rfl rfl (Nat.le_trans z40 (by decide))) (q1 aF (qN (qS (qR (q1 aF (dK H fun z41 H=>(q1 (aW.addS rfl rfl rfl rfl (Nat.le_trans z41 (by decide))) (q1 aF (qN (aO.ret ?_)))))))))))))
  obtain rfl:_=r:=(aY H:)
  exact bN
 refine aO.skip (qS (qR (q1 aF (dK H fun z42 H=>(q1 (aW.addS rfl rfl rfl rfl (Nat.le_trans z42 (by decide))) (q1 aF (qN (aO.ret ?_))))))))
 obtain rfl:_=r:=(aY H:)
 exact bN
def LE(m:DS→Option (ByteArray×DS)):Prop:= ∀(pc:DS) (r:ByteArray×DS),m pc=some r→dG Tryz.prog 166 [.ptr 0 0] ⟨[some ⟨151,dC pc⟩],[]⟩ (fun q t=>q=(pS r.1:PV)∧t=⟨[some ⟨151,dC r.2⟩],[]⟩)
def tL(fu:Nat)(pc:DS):Option (ByteArray×DS):=
 bd (DY fu pc) (fun(x2,x3)=>
 lt (x3.after 5) (fun d4=>
 sw (decide (x3.below 5=0))
 (some (x2,d4))
 (gd ((x2).size+(acV).size≤1099511627776)
 (bd (H3 fu d4) (fun(x9,x10)=>
 gd ((x2++acV).size+(x9).size≤1099511627776)
 (some (((x2++acV)++x9),x10)))))))
theorem HV(fu:Nat):LE (tL fu):=by
 intro pc r H
 have H:=fC H
 refine qI Tryz.func166 (fun C hC=>?_)
 refine qS (qR (q1 aF (qN (qS (qR (q1 aF (f8 H fun x2 x3 z1 H=>(q1 (gF [0] [] Tryz.func194 (V9 fu pc _ z1)) (q1 aF (qN ?_))))))))))
 iterate 2 refine qS ?_
 refine qR (q1 aF (gE H fun d4 h5 H=>(q1 (gF [0] [] Tryz.func112 (AN h5 (mB x3 5))) (qN ?_))))
 refine a9 H (fun h6 H=>?_) (fun h6 H=>?_)
 ·refine qS (qR ?_)
  iterate 2 refine q1 aF ?_
  refine qN (aO.ret ?_)
  obtain rfl:_=r:=(aY H:)
  exact bN
 refine aO.skip (qS (qR (q1 aF (dK H fun z7 H=>(q1 (aW.addS rfl rfl rfl rfl (Nat.le_trans z7 (by decide))) (q1 aF (f8 H fun x9 x10 z8 H=>(q1 (gF [0] [] Tryz.func195 (X4 fu d4 _ z8)) (dK H fun z11 H=>(q1 (aW.addS rfl rfl rfl rfl (Nat.le_trans z11 (by decide))) (q1 aF (qN (aO.ret ?_)))))))))))))
 obtain rfl:_=r:=(aY H:)
 exact bN
def aaR(m:DS→Option (aM×DS)):Prop:= ∀(pc:DS) (r:aM×DS),m pc=some r→QZ Tryz.prog 116 [.ptr 0 0] ⟨[some ⟨151,dC pc⟩],[]⟩ [some ⟨151,dC r.2⟩] 131 6 (aK.trs (r.1.gPackages)) (fun k=> .agg [o6 r.1.gPackages k])
def EF(fu:Nat)(pc:DS):Option (aM×DS):=
 bd (tL fu pc) (fun(x2,x3)=>
 bd (tF fu x2) (fun(x5,x6)=>
 some ((aM.mk x5.gPackages),x3)))
theorem T4(fu:Nat):aaR (EF fu):=by
 intro pc r H
 unfold QZ
 have H:=fC H
 refine qI Tryz.func116 (fun C hC=>?_)
 refine qS (qR (q1 (hH NZ) (qN (qS (qR (q1 aF (f8 H fun x2 x3 z1 H=>(q1 (gF [0] [] Tryz.func166 (HV fu pc _ z1)) (f8 H fun x5 x6 z4 H=>(q1 (aW.callOwn (pre:=⟨[],[]⟩) (B:= []) (R:=fun k=> .tup [.agg [o6 x5.gPackages k],pI x6]) (ps:= [_]) (qs:= [pS x2]) [] rfl rfl Tryz.func165 (by kernel_rfl) rfl rfl rfl (mO.of trivial trivial (by decide) (by decide)) rfl mD rfl rfl rfl (fun k k'=>(.tup (.cons (.agg (.cons Mv.acc QV.nil)) (.cons (.free _ rfl) QV.nil)))) (HQ fu x2 _ z4)) (q1 aF ?_)))))))))))
 iterate 2 refine q1 KJ ?_
 refine q1 (hH NZ) (q1 (bV NQ) (q1 aF (qN (qS (qR (q1 (c6 [o6 x5.gPackages 0] nI) (q1 (bV NQ) (qN (aO.ret ?_)))))))))
 obtain rfl:_=r:=(aY H:)
 exact bN (st':=⟨[some ⟨151,dC x3⟩],[⟨131,6,aK.trs (x5.gPackages),false⟩]⟩) ⟨0,rfl,rfl,rfl⟩ (hr:=⟨⟨_,_,_,rfl,rfl,nI,rfl,rfl⟩,trivial⟩)
end
end Go.Proofs.YtpioomclpaiomaaGreat.W

namespace Go.Proofs.YtpioomclpaiomaaGreat.W
set_option maxRecDepth 100000
set_option maxHeartbeats 40000000
noncomputable section
open Go.RowKit Go.Proofs
set_option linter.unusedSimpArgs false
set_option linter.unusedVariables false
attribute [local irreducible] lt
abbrev G4:=DS→(List ByteArray)→Int→Option (aB×DS)
def LY(m:G4):Prop:= ∀(pc:DS) (pvars:List ByteArray) (pdeep:Int) (r:aB×DS),m pc pvars pdeep=some r→dG Tryz.prog 130 [.ptr 0 0,rS pvars,pI pdeep] ⟨[some ⟨151,dC pc⟩],[]⟩ (fun q t=>q=((aB.pv r.1):PV)∧t=⟨[some ⟨151,dC r.2⟩],[]⟩)
def Q8(fu:Nat)(r_sl4Ty:G4)(pc:DS)(pvars:List ByteArray)(pdeep:Int):Option (aB×DS):=
 lt (pc.after 8) (fun d1=>
 sw (decide ((((pc.below 8:Nat):Int):Int)<3))
 (sw (decide ((((pvars.length:Nat):Int):Int)>0))
 (lt (d1.after pvars.length) (fun d5=>
 gd (d1.below pvars.length<(pvars).length)
 (bd (lL fu (a5 pvars (d1.below pvars.length))) (fun x9=>
 some (x9,d5)))))
 (sw (decide ((((pc.below 8:Nat):Int):Int)<5))
 (lt (d1.after ([e7,eO,gY]:List ByteArray).length) (fun d11=>
 lt (d1.pick ([e7,eO,gY]:List ByteArray)) (fun y13=>
 bd (iX fu y13 ([])) (fun x16=>
 some (x16,d11)))))
 (sw (decide ((pdeep:Int)≤0))
 (lt (d1.after ([e7,eO,gY]:List ByteArray).length) (fun d18=>
 lt (d1.pick ([e7,eO,gY]:List ByteArray)) (fun y20=>
 bd (iX fu y20 ([])) (fun x23=>
 some (x23,d18)))))
 (sw (decide ((((pc.below 8:Nat):Int):Int)=5))
 (bd (r_sl4Ty d1 pvars (aQ (pdeep-1))) (fun(x26,x27)=>
 bd (r_sl4Ty x27 pvars (aQ (pdeep-1))) (fun(x29,x30)=>
 bd (iX fu tG ([x26,x29]:List aB)) (fun x32=>
 some (x32,x30)))))
 (lt (d1.after ([cR,cR,vK]:List ByteArray).length) (fun d33=>
 lt (d1.pick ([cR,cR,vK]:List ByteArray)) (fun y35=>
 bd (r_sl4Ty d33 pvars (aQ (pdeep-1))) (fun(x38,x39)=>
 bd (iX fu y35 ([x38]:List aB)) (fun x41=>
 some (x41,x39))))))))))
 (sw (decide ((((pc.below 8:Nat):Int):Int)<5))
 (lt (d1.after ([e7,eO,gY]:List ByteArray).length) (fun d43=>
 lt (d1.pick ([e7,eO,gY]:List ByteArray)) (fun y45=>
 bd (iX fu y45 ([])) (fun x48=>
 some (x48,d43)))))
 (sw (decide ((pdeep:Int)≤0))
 (lt (d1.after ([e7,eO,gY]:List ByteArray).length) (fun d50=>
 lt (d1.pick ([e7,eO,gY]:List ByteArray)) (fun y52=>
 bd (iX fu y52 ([])) (fun x55=>
 some (x55,d50)))))
 (sw (decide ((((pc.below 8:Nat):Int):Int)=5))
 (bd (r_sl4Ty d1 pvars (aQ (pdeep-1))) (fun(x58,x59)=>
 bd (r_sl4Ty x59 pvars (aQ (pdeep-1))) (fun(x61,x62)=>
 bd (iX fu tG ([x58,x61]:List aB)) (fun x64=>
 some (x64,x62)))))
 (lt (d1.after ([cR,cR,vK]:List ByteArray).length) (fun d65=>
 lt (d1.pick ([cR,cR,vK]:List ByteArray)) (fun y67=>
 bd (r_sl4Ty d65 pvars (aQ (pdeep-1))) (fun(x70,x71)=>
 bd (iX fu y67 ([x70]:List aB)) (fun x73=>
 some (x73,x71))))))))))
theorem YL(fu:Nat)(r_sl4Ty:G4)(h_sl4Ty:LY r_sl4Ty):LY (Q8 fu r_sl4Ty):=by
 intro pc pvars pdeep r H
 have H:=fC H
 refine qI Tryz.func130 (fun C hC=>?_)
 refine qS (qR (q1 (hH jO) (qN (qS (qR (q1 aF (gE H fun d1 h2 H=>(q1 (gF [0] [] Tryz.func103 (AN h2 (fR pc 8))) (q1 aF (qN (qS (aO.block (qS ?_)))))))))))))
 refine qR (q1 aF (q1 gU (q1 aF ?_)))
 refine dY 13 H (fun g3 H=>?_) fun g3 H=>?_
 ·have g3n:pc.below 8<3:=by have:=of_decide_eq_true g3;omega
  refine qg g3 aF (qg g3 (eM bW (bE _)) (qg g3 HB (q1 (bS g3) (q1 aF (qN ?_)))))
  refine a9 H (fun h4 H=>?_) (fun h4 H=>?_)
  ·refine qS (qR ?_)
   iterate 3 refine q1 aF ?_
   refine q1 (eM bW (bE _)) (gE H fun d5 h6 H=>(q1 (gF [0] [] Tryz.func103 (AN h6 (fR d1 pvars.length))) (dK H fun z7 H=>(q1 (j0 z7 bW) (q1 (mR e8) (bO H fun x9 z8 H=>(q1 (bJ Tryz.func118 (iN fu (a5 pvars (d1.below pvars.length)) _ z8)) (q1 (bV iV) (qN (aO.ret ?_))))))))))
   obtain rfl:_=r:=(aY H:)
   exact bN (hr:=⟨⟨_,_,_,rfl,rfl,dL,rfl,rfl⟩,trivial⟩)
  refine qS (qR (q1 aF (q1 gU (q1 aF ?_))))
  refine dY 29 H (fun g10 H=>?_) fun g10 H=>?_
  ·have g10n:pc.below 8<5:=by have:=of_decide_eq_true g10;omega
   iterate 2 refine qk g10 ?_
   refine q1 (bS g10) (q1 aF (qN (dT rfl (qS (qR (q1 aF (q1 (iI ([e7,eO,gY]:List ByteArray) bW jZ) (gE H fun d11 h12 H=>(gE H fun y13 h14 H=>(q1 (gF [0] [] Tryz.func86 (K6 h12 h14 (f7 d1 ([e7,eO,gY]:List ByteArray) (by decide)))) (bO H fun x16 z15 H=>(q1 (bJ Tryz.func85 (iM fu y13 ([]) _ z15)) (q1 (bV iV) ?_)))))))))))))
   refine qN (aO.ret ?_)
   obtain rfl:_=r:=(aY H:)
   exact bN (hr:=⟨⟨_,_,_,rfl,rfl,dL,rfl,rfl⟩,trivial⟩)
  refine qg g10 aF (qg g10 rLe (q1 (b4 g10) (q1 aF (qN ?_))))
  refine a9 H (fun h17 H=>?_) (fun h17 H=>?_)
  ·refine qS (qR (q1 aF (q1 (iI ([e7,eO,gY]:List ByteArray) bW jZ) (gE H fun d18 h19 H=>(gE H fun y20 h21 H=>(q1 (gF [0] [] Tryz.func86 (K6 h19 h21 (f7 d1 ([e7,eO,gY]:List ByteArray) (by decide)))) (bO H fun x23 z22 H=>(q1 (bJ Tryz.func85 (iM fu y20 ([]) _ z22)) (q1 (bV iV) (qN (aO.ret ?_)))))))))))
   obtain rfl:_=r:=(aY H:)
   exact bN (hr:=⟨⟨_,_,_,rfl,rfl,dL,rfl,rfl⟩,trivial⟩)
  refine qS (qR (q1 aF (q1 dP (q1 aF (qN ?_)))))
  refine a9 H (fun h24 H=>?_) (fun h24 H=>?_)
  ·refine qS (qR ?_)
   iterate 3 refine q1 aF ?_
   refine q1 zZ (f8 H fun x26 x27 z25 H=>(q1 (gF [0] [] Tryz.func130 (h_sl4Ty d1 pvars (aQ (pdeep-1)) _ z25)) ?_))
   iterate 3 refine q1 aF ?_
   refine q1 zZ (f8 H fun x29 x30 z28 H=>(q1 (gF [0] [] Tryz.func130 (h_sl4Ty x27 pvars (aQ (pdeep-1)) _ z28)) (q1 (iI ([x26,x29]:List aB) fX jO) (bO H fun x32 z31 H=>(q1 (bJ Tryz.func85 (iM fu tG ([x26,x29]:List aB) _ z31)) (q1 (bV iV) (qN (aO.ret ?_))))))))
   obtain rfl:_=r:=(aY H:)
   exact bN (hr:=⟨⟨_,_,_,rfl,rfl,dL,rfl,rfl⟩,trivial⟩)
  refine aO.skip (qS (qR (q1 aF (q1 (iI ([cR,cR,vK]:List ByteArray) bW jZ) (gE H fun d33 h34 H=>(gE H fun y35 h36 H=>(q1 (gF [0] [] Tryz.func86 (K6 h34 h36 (f7 d1 ([cR,cR,vK]:List ByteArray) (by decide)))) ?_)))))))
  iterate 3 refine q1 aF ?_
  refine q1 zZ (f8 H fun x38 x39 z37 H=>(q1 (gF [0] [] Tryz.func130 (h_sl4Ty d33 pvars (aQ (pdeep-1)) _ z37)) (q1 (iI ([x38]:List aB) fX jO) (bO H fun x41 z40 H=>(q1 (bJ Tryz.func85 (iM fu y35 ([x38]:List aB) _ z40)) (q1 (bV iV) (qN (aO.ret ?_))))))))
  obtain rfl:_=r:=(aY H:)
  exact bN (hr:=⟨⟨_,_,_,rfl,rfl,dL,rfl,rfl⟩,trivial⟩)
 iterate 3 refine qk g3 ?_
 refine q1 (b4 g3) (q1 aF (qN (kL rfl (qS (qR (q1 aF (q1 gU (q1 aF ?_))))))))
 refine dY 29 H (fun g42 H=>?_) fun g42 H=>?_
 ·have g42n:pc.below 8<5:=by have:=of_decide_eq_true g42;omega
  iterate 2 refine qk g42 ?_
  refine q1 (bS g42) (q1 aF (qN (dT rfl (qS (qR (q1 aF (q1 (iI ([e7,eO,gY]:List ByteArray) bW jZ) (gE H fun d43 h44 H=>(gE H fun y45 h46 H=>(q1 (gF [0] [] Tryz.func86 (K6 h44 h46 (f7 d1 ([e7,eO,gY]:List ByteArray) (by decide)))) (bO H fun x48 z47 H=>(q1 (bJ Tryz.func85 (iM fu y45 ([]) _ z47)) (q1 (bV iV) ?_)))))))))))))
  refine qN (aO.ret ?_)
  obtain rfl:_=r:=(aY H:)
  exact bN (hr:=⟨⟨_,_,_,rfl,rfl,dL,rfl,rfl⟩,trivial⟩)
 refine qg g42 aF (qg g42 rLe (q1 (b4 g42) (q1 aF (qN ?_))))
 refine a9 H (fun h49 H=>?_) (fun h49 H=>?_)
 ·refine qS (qR (q1 aF (q1 (iI ([e7,eO,gY]:List ByteArray) bW jZ) (gE H fun d50 h51 H=>(gE H fun y52 h53 H=>(q1 (gF [0] [] Tryz.func86 (K6 h51 h53 (f7 d1 ([e7,eO,gY]:List ByteArray) (by decide)))) (bO H fun x55 z54 H=>(q1 (bJ Tryz.func85 (iM fu y52 ([]) _ z54)) (q1 (bV iV) (qN (aO.ret ?_)))))))))))
  obtain rfl:_=r:=(aY H:)
  exact bN (hr:=⟨⟨_,_,_,rfl,rfl,dL,rfl,rfl⟩,trivial⟩)
 refine qS (qR (q1 aF (q1 dP (q1 aF (qN ?_)))))
 refine a9 H (fun h56 H=>?_) (fun h56 H=>?_)
 ·refine qS (qR ?_)
  iterate 3 refine q1 aF ?_
  refine q1 zZ (f8 H fun x58 x59 z57 H=>(q1 (gF [0] [] Tryz.func130 (h_sl4Ty d1 pvars (aQ (pdeep-1)) _ z57)) ?_))
  iterate 3 refine q1 aF ?_
  refine q1 zZ (f8 H fun x61 x62 z60 H=>(q1 (gF [0] [] Tryz.func130 (h_sl4Ty x59 pvars (aQ (pdeep-1)) _ z60)) (q1 (iI ([x58,x61]:List aB) fX jO) (bO H fun x64 z63 H=>(q1 (bJ Tryz.func85 (iM fu tG ([x58,x61]:List aB) _ z63)) (q1 (bV iV) (qN (aO.ret ?_))))))))
  obtain rfl:_=r:=(aY H:)
  exact bN (hr:=⟨⟨_,_,_,rfl,rfl,dL,rfl,rfl⟩,trivial⟩)
 refine aO.skip (qS (qR (q1 aF (q1 (iI ([cR,cR,vK]:List ByteArray) bW jZ) (gE H fun d65 h66 H=>(gE H fun y67 h68 H=>(q1 (gF [0] [] Tryz.func86 (K6 h66 h68 (f7 d1 ([cR,cR,vK]:List ByteArray) (by decide)))) ?_)))))))
 iterate 3 refine q1 aF ?_
 refine q1 zZ (f8 H fun x70 x71 z69 H=>(q1 (gF [0] [] Tryz.func130 (h_sl4Ty d65 pvars (aQ (pdeep-1)) _ z69)) (q1 (iI ([x70]:List aB) fX jO) (bO H fun x73 z72 H=>(q1 (bJ Tryz.func85 (iM fu y67 ([x70]:List aB) _ z72)) (q1 (bV iV) (qN (aO.ret ?_))))))))
 obtain rfl:_=r:=(aY H:)
 exact bN (hr:=⟨⟨_,_,_,rfl,rfl,dL,rfl,rfl⟩,trivial⟩)
def pD:Nat→DS→(List ByteArray)→Int→Option (aB×DS)
 |0,_,_,_=>none
 |fu+1,pc,pvars,pdeep=>Q8 fu (pD fu) pc pvars pdeep
theorem acT(fu:Nat):LY (pD fu):=by
 induction fu with
 |zero=>exact(fun pc pvars pdeep r H=>by simp only [pD] at H;cases H)
 |succ fu ih=>exact(fun pc pvars pdeep r H=>by simp only [pD] at H;exact YL fu (pD fu) ih pc pvars pdeep r H)
theorem NL(fu:Nat):LY (pD fu):=(acT fu)
abbrev m4:=aB→Option aB
abbrev jJ:=(List aB)→Option ((List aB))
def xD(m:m4):Prop:= ∀(pt:aB) (r:aB),m pt=some r→cH Tryz.prog 60 [(aB.pv pt)] ((aB.pv r):PV)
def s4(m:jJ):Prop:= ∀(plist:List aB) (r:(List aB)),m plist=some r→cH Tryz.prog 122 [a6 plist] (a6 r:PV)
def CH(fu:Nat)(r_sl4Copy:m4)(r_sl4Copies:jJ)(pt:aB):Option aB:=
 bd (r_sl4Copies pt.gArgs) (fun x2=>
 some (aB.mk pt.gKind pt.gName x2))
theorem RD(fu:Nat)(r_sl4Copy:m4)(r_sl4Copies:jJ)(h_sl4Copy:xD r_sl4Copy)(h_sl4Copies:s4 r_sl4Copies):xD (CH fu r_sl4Copy r_sl4Copies):=by
 intro pt r H
 have H:=fC H
 refine qI Tryz.func60 (fun C hC=>?_)
 refine qS (qR (q1 (lA (fB pt)) (q1 (hH jO) (qN (qS (bO H fun x2 z1 H=>(dW (dI [1] (aZ oQ) (dD [3] (bB iG) (dI [1] (aZ l6) (dD [5] (bB e8) (dI [1] (aZ iT) (dD [7] (bB nY) ?_)))))))))))))
 refine dI [8] (bJ Tryz.func122 (h_sl4Copies pt.gArgs _ z1)) (dI [4,6,9] (fM jO zM) (mZ [2,10] (bV iV) (dN (aO.ret ?_))))
 obtain rfl:_=r:=(aY H:)
 exact bN (hr:=⟨⟨_,_,_,rfl,rfl,dL,rfl,rfl⟩,trivial⟩)
def GC(fu:Nat)(r_sl4Copy:m4)(r_sl4Copies:jJ)(plist:List aB):Nat→((List aB))→Option (LR ((List aB)) ((List aB))):=
 fun i1 v3=>bd (r_sl4Copy (a5 plist i1)) (fun x7=>
 gd ((v3).length+(([x7]:List aB)).length≤68719476736)
 (some (.next (v3++([x7]:List aB)))))
def FX(fu:Nat)(r_sl4Copy:m4)(r_sl4Copies:jJ)(plist:List aB):Option (((List aB))⊕((List aB))):=
 loopN (GC fu r_sl4Copy r_sl4Copies plist) (plist.length-0) 0 ([])
def wA(fu:Nat)(r_sl4Copy:m4)(r_sl4Copies:jJ)(plist:List aB):Option ((List aB)):=
 so (FX fu r_sl4Copy r_sl4Copies plist) (fun v3=>
 some v3)
theorem M6(fu:Nat)(r_sl4Copy:m4)(r_sl4Copies:jJ)(h_sl4Copy:xD r_sl4Copy)(h_sl4Copies:s4 r_sl4Copies):s4 (wA fu r_sl4Copy r_sl4Copies):=by
 intro plist r H
 have H:=fC H
 refine qI Tryz.func122 (fun C hC=>?_)
 refine qS (qR (q1 aF (qN (qS (qR (q1 (rC ([]:List aB) fX jO) (q1 aF (qN ?_))))))))
 iterate 2 refine qS ?_
 refine qR (q1 aF (qN ?_))
 refine nF 0 (aB.trs_len _) (fun hl4=>?_)
 refine cG (σ:=(List aB)) (fun i1 v3=>⟨[(0,a6 plist),(2,.nil),(3,PT v3 0),(4,pN i1)],⟨[],[⟨35,3,aB.trs (v3),false⟩]⟩⟩) (fun v3=>⟨[(2,.nil),(3,PT v3 0)],⟨[],[⟨35,3,aB.trs (v3),false⟩]⟩⟩) (f9 H) ?_ ?_
 ·rintro i1 v3 H
  iterate 2 refine qS ?_
  refine qR ?_
  iterate 2 refine q1 aF ?_
  refine q1 (eM fX (aB.trs_len _)) (q1 gU (qN ?_))
  refine eJ H (fun h5 h5l H=>?_) (fun h5 H=>?_)
  ·have h5n:=a7 h5
   refine aO.skip (qS (aO.block (qR ?_)))
   iterate 3 refine q1 aF ?_
   refine q1 (j0 h5n fX) (q1 (j7 (aB.cs (a5 plist i1)) dL) (bO H fun x7 z6 H=>(q1 (bJ Tryz.func60 (h_sl4Copy (a5 plist i1) _ z6)) (q1 (iI ([x7]:List aB) fX jO) (dK H fun z8 H=>(q1 (lC z8 fX afE) (q1 aF (qN (qR (q1 aF (q1 (aW.addI rfl rfl rfl rfl (c:=((i1+1:Nat):Int)) (by omega) (by omega)) (q1 aF (qN ?_)))))))))))))
   exact jA h5l ⟨_,(aY H:),bZ⟩
  refine aO.exit ?_;exact k7 ⟨_,H,bZ⟩
 rintro v3 H
 refine qS (qR ?_)
 iterate 2 refine q1 aF ?_
 refine qN (aO.ret ?_)
 obtain rfl:_=r:=(aY H:)
 exact bN
mutual
def fN:Nat→aB→Option aB
 |0,_=>none
 |fu+1,pt=>CH fu (fN fu) (eY fu) pt
def eY:Nat→(List aB)→Option ((List aB))
 |0,_=>none
 |fu+1,plist=>wA fu (fN fu) (eY fu) plist
end
theorem JY(fu:Nat):xD (fN fu)∧s4 (eY fu):=by
 induction fu with
 |zero=>exact⟨(fun pt r H=>by simp only [fN] at H;cases H),(fun plist r H=>by simp only [eY] at H;cases H)⟩
 |succ fu ih=>exact⟨(fun pt r H=>by simp only [fN] at H;exact RD fu (fN fu) (eY fu) ih.1 ih.2 pt r H),(fun plist r H=>by simp only [eY] at H;exact M6 fu (fN fu) (eY fu) ih.1 ih.2 plist r H)⟩
theorem uY(fu:Nat):xD (fN fu):=(JY fu).1
theorem GL(fu:Nat):s4 (eY fu):=(JY fu).2
def adM(m:ByteArray→aB→Option aB):Prop:= ∀(ptrait:ByteArray) (pt:aB) (r:aB),m ptrait pt=some r→cH Tryz.prog 131 [pS ptrait,(aB.pv pt)] ((aB.pv r):PV)
def B8(fu:Nat)(ptrait:ByteArray)(pt:aB):Option aB:=
 bd (fN fu pt) (fun x2=>
 some (aB.mk 3 ptrait ([x2]:List aB)))
theorem MI(fu:Nat):adM (B8 fu):=by
 intro ptrait pt r H
 have H:=fC H
 refine qI Tryz.func131 (fun C hC=>?_)
 refine qS (qR (q1 (lA (fB pt)) (q1 (hH jO) (qN (qS (qR (q1 aF (q1 (c6 [pI pt.gKind,pS pt.gName,a6 pt.gArgs] dL) (bO H fun x2 z1 H=>(q1 (bJ Tryz.func60 (uY fu pt _ z1)) (q1 (iI ([x2]:List aB) fX jO) (q1 (fM jO zM) (q1 (bV iV) ?_)))))))))))))
 refine qN (aO.ret ?_)
 obtain rfl:_=r:=(aY H:)
 exact bN (hr:=⟨⟨_,_,_,rfl,rfl,dL,rfl,rfl⟩,trivial⟩)
def acD(m:DS→Int→Option (aB×DS)):Prop:= ∀(pc:DS) (pdeep:Int) (r:aB×DS),m pc pdeep=some r→dG Tryz.prog 87 [.ptr 0 0,pI pdeep] ⟨[some ⟨151,dC pc⟩],[]⟩ (fun q t=>q=((aB.pv r.1):PV)∧t=⟨[some ⟨151,dC r.2⟩],[]⟩)
def sG(fu:Nat)(pc:DS)(pdeep:Int):Option (aB×DS):=
 bd (pD fu pc ([fU,z0]:List ByteArray) pdeep) (fun(x2,x3)=>
 lt (x3.after 8) (fun d4=>
 sw (decide ((((x3.below 8:Nat):Int):Int)=0))
 (lt (d4.after ([iU,bI]:List ByteArray).length) (fun d7=>
 lt (d4.pick ([iU,bI]:List ByteArray)) (fun y9=>
 bd (B8 fu y9 x2) (fun x12=>
 some (x12,d7)))))
 (sw (decide ((((x3.below 8:Nat):Int):Int)=1))
 (bd (B8 fu iU x2) (fun x15=>
 bd (iX fu cR ([x15]:List aB)) (fun x17=>
 some (x17,d4))))
 (sw (decide ((((x3.below 8:Nat):Int):Int)=2))
 (some ((aB.mk 4 bI []),d4))
 (some (x2,d4))))))
theorem u4(fu:Nat):acD (sG fu):=by
 intro pc pdeep r H
 have H:=fC H
 refine qI Tryz.func87 (fun C hC=>?_)
 refine qS (qR (q1 (hH jO) (qN (qS (qR (q1 aF (q1 (iI ([fU,z0]:List ByteArray) bW jZ) (q1 aF (f8 H fun x2 x3 z1 H=>(q1 (gF [0] [] Tryz.func130 (NL fu pc ([fU,z0]:List ByteArray) pdeep _ z1)) (q1 (hH jO) (q1 (bV iV) (qN ?_)))))))))))))
 iterate 2 refine qS ?_
 refine qR (q1 aF (gE H fun d4 h5 H=>(q1 (gF [0] [] Tryz.func103 (AN h5 (fR x3 8))) (qN (aO.block (qS (qR (q1 dP (q1 aF (qN ?_))))))))))
 refine a9 H (fun h6 H=>?_) (fun h6 H=>?_)
 ·refine qS (gE H fun d7 h8 H=>(gE H fun y9 h10 H=>(bO H fun x12 z11 H=>(dW (dI [0] aF (dI [] (iI ([iU,bI]:List ByteArray) bW jZ) (dE [14,15] (gF [0] [] Tryz.func86 (K6 h8 h10 (f7 d4 ([iU,bI]:List ByteArray) (by decide)))) (dB [5] 0 1 (PY [pI x2.gKind,pS x2.gName,a6 x2.gArgs] dL) (dI [16,17] (bJ Tryz.func131 (MI fu y9 x2 _ z11)) (mZ [4,18] (bV iV) (dN (aO.ret ?_))))))))))))
  obtain rfl:_=r:=(aY H:)
  exact bN (hr:=⟨⟨_,_,_,rfl,rfl,dL,rfl,rfl⟩,trivial⟩)
 refine qS (qR (q1 dP (q1 aF (qN ?_))))
 refine a9 H (fun h13 H=>?_) (fun h13 H=>?_)
 ·refine qS (qR (q1 (c6 [pI x2.gKind,pS x2.gName,a6 x2.gArgs] dL) (bO H fun x15 z14 H=>(q1 (bJ Tryz.func131 (MI fu iU x2 _ z14)) (q1 (iI ([x15]:List aB) fX jO) (bO H fun x17 z16 H=>(q1 (bJ Tryz.func85 (iM fu cR ([x15]:List aB) _ z16)) (q1 (bV iV) (qN (aO.ret ?_))))))))))
  obtain rfl:_=r:=(aY H:)
  exact bN (hr:=⟨⟨_,_,_,rfl,rfl,dL,rfl,rfl⟩,trivial⟩)
 refine qS (qR (q1 dP (q1 aF (qN ?_))))
 refine a9 H (fun h18 H=>?_) (fun h18 H=>?_)
 ·refine qS (qR (q1 (fM jO zM) (q1 (bV iV) (qN (aO.ret ?_)))))
  obtain rfl:_=r:=(aY H:)
  exact bN (hr:=⟨⟨_,_,_,rfl,rfl,dL,rfl,rfl⟩,trivial⟩)
 refine aO.skip (qS (qR (q1 (c6 [pI x2.gKind,pS x2.gName,a6 x2.gArgs] dL) (q1 (bV iV) (qN (aO.ret ?_))))))
 obtain rfl:_=r:=(aY H:)
 exact bN (hr:=⟨⟨_,_,_,rfl,rfl,dL,rfl,rfl⟩,trivial⟩)
def ae3(m:Int→ByteArray→(List aG)→Option aG):Prop:= ∀(pk:Int) (pname:ByteArray) (pargs:List aG) (r:aG),m pk pname pargs=some r→cH Tryz.prog 158 [pI pk,pS pname,fD pargs] ((aG.pv r):PV)
def qM(fu:Nat)(pk:Int)(pname:ByteArray)(pargs:List aG):Option aG:=
 gd (([]:List aG).length+(pargs).length≤68719476736)
 (some (aG.mk pk s_ pname 0 (aB.mk 0 s_ []) (([])++pargs) []))
theorem rK(fu:Nat):ae3 (qM fu):=by
 intro pk pname pargs r H
 have H:=fC H
 refine qI Tryz.func158 (fun C hC=>?_)
 refine qS (qR (q1 (hH jD) (qN (qS (qR ?_)))))
 iterate 2 refine q1 aF ?_
 refine q1 (rC ([]:List aG) lB jD) (q1 aF (dK H fun z1 H=>(q1 (lC z1 lB ag2) (q1 (fM jD vA) (q1 (bV nH) (qN (aO.ret ?_)))))))
 obtain rfl:_=r:=(aY H:)
 exact bN (hr:=⟨⟨_,_,_,rfl,rfl,gC,rfl,rfl⟩,trivial⟩)
abbrev pW:=DS→(List ByteArray)→Int→Option (aG×DS)
def zC(m:pW):Prop:= ∀(pq0:DS) (pa1:List ByteArray) (pString:Int) (r:aG×DS),m pq0 pa1 pString=some r→dG Tryz.prog 111 [.ptr 0 0,rS pa1,pI pString] ⟨[some ⟨151,dC pq0⟩],[]⟩ (fun q t=>q=((aG.pv r.1):PV)∧t=⟨[some ⟨151,dC r.2⟩],[]⟩)
def V3(fu:Nat)(r_sl11Expr:pW)(pq0:DS)(pa1:List ByteArray)(pString:Int)(d1:DS):Option ((aG×DS)⊕Int):=
 sw (decide ((pString:Int)≤0))
 (some (.inr (((pq0.below 13)%3:Nat):Int)))
 (some (.inr ((pq0.below 13:Nat):Int)))
def XF(fu:Nat)(r_sl11Expr:pW)(pq0:DS)(pa1:List ByteArray)(pString:Int)(d1:DS)(v3:Int):Option ((aG×DS)⊕Bool):=
 sw (decide ((v3:Int)=2))
 (some (.inr (decide ((v3:Int)=2))))
 (some (.inr (decide ((v3:Int)=3))))
def FQ(fu:Nat)(r_sl11Expr:pW)(pq0:DS)(pa1:List ByteArray)(pString:Int):Option (aG×DS):=
 lt (pq0.after 13) (fun d1=>
 so (V3 fu r_sl11Expr pq0 pa1 pString d1) (fun v3=>
 sw (decide ((v3:Int)=1))
 (lt (d1.after 2) (fun d6=>
 some ((aG.mk 2 s_ s_ ((d1.below 2:Nat):Int) (aB.mk 0 s_ []) [] []),d6)))
 (so (XF fu r_sl11Expr pq0 pa1 pString d1 v3) (fun v8=>
 sw (v8)
 (sw (decide ((((pa1.length:Nat):Int):Int)>0))
 (gd (0<(pa1).length)
 (lt (d1.after pa1.length) (fun d13=>
 lt (d1.pick pa1) (fun y15=>
 bd (rX fu y15) (fun x18=>
 some (x18,d13))))))
 (lt (d1.after 20) (fun d19=>
 bd (qD fu (aQ (((d1.below 20:Nat):Int)-5))) (fun x22=>
 some (x22,d19)))))
 (sw (decide ((v3:Int)=4))
 (lt (d1.after ([s_f,s_g]:List ByteArray).length) (fun d24=>
 lt (d1.pick ([s_f,s_g]:List ByteArray)) (fun y26=>
 bd (r_sl11Expr d24 pa1 (aQ (pString-1))) (fun(x29,x30)=>
 bd (qM fu 4 y26 ([x29]:List aG)) (fun x32=>
 some (x32,x30))))))
 (sw (decide ((v3:Int)=5))
 (lt (d1.after ([bI,iU]:List ByteArray).length) (fun d34=>
 lt (d1.pick ([bI,iU]:List ByteArray)) (fun y36=>
 bd (r_sl11Expr d34 pa1 (aQ (pString-1))) (fun(x39,x40)=>
 bd (r_sl11Expr x40 pa1 (aQ (pString-1))) (fun(x42,x43)=>
 some ((aG.mk 5 y36 eE 0 (aB.mk 0 s_ []) ([x39,x42]:List aG) []),x43))))))
 (sw (decide ((v3:Int)=6))
 (bd (r_sl11Expr d1 pa1 (aQ (pString-1))) (fun(x46,x47)=>
 bd (r_sl11Expr x47 pa1 (aQ (pString-1))) (fun(x49,x50)=>
 bd (qM fu 6 cD ([x46,x49]:List aG)) (fun x52=>
 some (x52,x50)))))
 (sw (decide ((v3:Int)=7))
 (gd (([]:List ByteArray).length+(pa1).length≤68719476736)
 (gd ((([])++pa1).length+(([Y8,ZV]:List ByteArray)).length≤68719476736)
 (bd (r_sl11Expr d1 pa1 (aQ (pString-1))) (fun(x57,x58)=>
 bd (r_sl11Expr x58 pa1 (aQ (pString-1))) (fun(x60,x61)=>
 bd (r_sl11Expr x61 ((([])++pa1)++([Y8,ZV]:List ByteArray)) (aQ (pString-1))) (fun(x63,x64)=>
 some ((aG.mk 7 s_ s_ 0 (aB.mk 0 s_ []) ([x57]:List aG) ([(bC.mk fA [] x60),(bC.mk cD ([Y8,ZV]:List ByteArray) x63)]:List bC)),x64)))))))
 (sw (decide ((v3:Int)=8))
 (bd (r_sl11Expr d1 pa1 (aQ (pString-1))) (fun(x67,x68)=>
 gd (([]:List ByteArray).length+(pa1).length≤68719476736)
 (gd ((([])++pa1).length+(([nZ]:List ByteArray)).length≤68719476736)
 (bd (r_sl11Expr x68 ((([])++pa1)++([nZ]:List ByteArray)) (aQ (pString-1))) (fun(x72,x73)=>
 bd (qM fu 8 nZ ([x67,x72]:List aG)) (fun x75=>
 some (x75,x73)))))))
 (sw (decide ((v3:Int)=9))
 (bd (r_sl11Expr d1 pa1 (aQ (pString-1))) (fun(x78,x79)=>
 bd (r_sl11Expr x79 pa1 (aQ (pString-1))) (fun(x81,x82)=>
 bd (r_sl11Expr x82 pa1 (aQ (pString-1))) (fun(x84,x85)=>
 bd (qM fu 9 s_ ([x78,x81,x84]:List aG)) (fun x87=>
 some (x87,x85))))))
 (sw (decide ((v3:Int)=10))
 (lt (d1.after ([vG,zY,G7,GU,F8]:List ByteArray).length) (fun d89=>
 lt (d1.pick ([vG,zY,G7,GU,F8]:List ByteArray)) (fun y91=>
 bd (r_sl11Expr d89 pa1 (aQ (pString-1))) (fun(x94,x95)=>
 bd (r_sl11Expr x95 pa1 (aQ (pString-1))) (fun(x97,x98)=>
 bd (qM fu 10 y91 ([x94,x97]:List aG)) (fun x100=>
 some (x100,x98)))))))
 (sw (decide ((v3:Int)=11))
 (bd (r_sl11Expr d1 pa1 (aQ (pString-1))) (fun(x103,x104)=>
 some ((aG.mk 11 bI s_ 0 (aB.mk 0 s_ []) ([x103]:List aG) []),x104)))
 (sw (decide ((v3:Int)=12))
 (bd (pD fu d1 ([fU]:List ByteArray) 1) (fun(x107,x108)=>
 bd (r_sl11Expr x108 pa1 (aQ (pString-1))) (fun(x110,x111)=>
 some ((aG.mk 12 s_ s_ 0 x107 ([x110]:List aG) []),x111))))
 (lt (d1.after 20) (fun d112=>
 bd (qD fu (aQ (((d1.below 20:Nat):Int)-5))) (fun x115=>
 some (x115,d112)))))))))))))))))
theorem OZ(fu:Nat)(r_sl11Expr:pW)(h_sl11Expr:zC r_sl11Expr):zC (FQ fu r_sl11Expr):=by
 intro pq0 pa1 pString r H
 have H:=fC H
 refine qI Tryz.func111 (fun C hC=>?_)
 refine qS (qR (q1 (hH jD) (qN (qS (qR (q1 aF (gE H fun d1 h2 H=>(q1 (gF [0] [] Tryz.func103 (AN h2 (fR pq0 13))) (q1 aF (qN (qS ?_)))))))))))
 refine oM (σ:=Int) (fun v3=>⟨[(0,.ptr 0 0),(1,rS pa1),(2,pI pString),(6,.ptr 1 0),(7,pI v3)],⟨[some ⟨151,dC d1⟩,some ⟨87,[pI 0,pS s_,pS s_,pI 0,pI 0,pS s_,.nil,.nil,.nil]⟩],[]⟩⟩) (f9 H) (fun H=>?_) ?_
 ·refine qS (qR (q1 aF (q1 rLe (qN ?_))))
  refine a9 H (fun h4 H=>?_) (fun h4 H=>?_)
  ·refine qR (q1 aF ?_)
   refine q1 (aW.remN (a:=pq0.below 13) (b:=3) rfl rfl rfl rfl (by have:=DS.below_lt (d:=pq0) (n:=13) (by decide);omega) (by have:=DS.below_lt (d:=pq0) (n:=13) (by decide);omega)) ?_;refine q1 aF (qN ?_)
   exact dH ⟨_,(aY H:),bZ⟩
  refine aO.skip ?_;exact dH ⟨_,(aY H:),bZ⟩
 rintro v3 H
 iterate 2 refine qS ?_
 refine qR (q1 aF (qN (aO.block (qS (qR (q1 dP (q1 aF (qN ?_))))))))
 refine a9 H (fun h5 H=>?_) (fun h5 H=>?_)
 ·refine qS (qR (q1 aF (gE H fun d6 h7 H=>(q1 (gF [0] [] Tryz.func103 (AN h7 (fR d1 2))) (q1 (fM jD vA) (q1 (bV nH) (qN (aO.ret ?_))))))))
  obtain rfl:_=r:=(aY H:)
  exact bN (hr:=⟨⟨_,_,_,rfl,rfl,gC,rfl,rfl⟩,trivial⟩)
 refine qS ?_;refine oM (σ:=Bool) (fun v8=>⟨[(0,.ptr 0 0),(1,rS pa1),(2,pI pString),(6,.ptr 1 0),(15,pI v3),(21,pB v8)],⟨[some ⟨151,dC d1⟩,some ⟨87,[pI 0,pS s_,pS s_,pI 0,pI 0,pS s_,.nil,.nil,.nil]⟩],[]⟩⟩) (f9 H) (fun H=>?_) ?_
 ·refine qS (qR (q1 dP (q1 aF (qN ?_))))
  refine a9 H (fun h9 H=>?_) (fun h9 H=>?_)
  ·refine aO.skip ?_;exact dH ⟨_,(aY H:),bZ⟩
  refine qR (q1 dP (q1 aF (qN ?_)))
  exact dH ⟨_,(aY H:),bZ⟩
 rintro v8 H
 refine a9 H (fun h10 H=>?_) (fun h10 H=>?_)
 ·refine qS (qR (q1 aF (q1 (eM bW (bE _)) (q1 HB (qN ?_)))))
  refine a9 H (fun h11 H=>?_) (fun h11 H=>?_)
  ·refine qS (qR ?_)
   iterate 2 refine q1 aF ?_
   refine dK H fun z12 H=>(gE H fun d13 h14 H=>(gE H fun y15 h16 H=>(q1 (gF [0] [] Tryz.func86 (K6 h14 h16 (f7 d1 pa1 z12))) (bO H fun x18 z17 H=>(q1 (bJ Tryz.func157 (vB fu y15 _ z17)) (q1 (bV nH) (qN (aO.ret ?_))))))))
   obtain rfl:_=r:=(aY H:)
   exact bN (hr:=⟨⟨_,_,_,rfl,rfl,gC,rfl,rfl⟩,trivial⟩)
  refine aO.skip (qS (qR (q1 aF (gE H fun d19 h20 H=>(q1 (gF [0] [] Tryz.func103 (AN h20 (fR d1 20))) (q1 zZ (bO H fun x22 z21 H=>(q1 (bJ Tryz.func159 (rW fu (aQ (((d1.below 20:Nat):Int)-5)) _ z21)) (q1 (bV nH) (qN (aO.ret ?_)))))))))))
  obtain rfl:_=r:=(aY H:)
  exact bN (hr:=⟨⟨_,_,_,rfl,rfl,gC,rfl,rfl⟩,trivial⟩)
 refine qS (qR (q1 dP (q1 aF (qN ?_))))
 refine a9 H (fun h23 H=>?_) (fun h23 H=>?_)
 ·refine qS (qR (q1 aF (q1 (iI ([s_f,s_g]:List ByteArray) bW jZ) (gE H fun d24 h25 H=>(gE H fun y26 h27 H=>(q1 (gF [0] [] Tryz.func86 (K6 h25 h27 (f7 d1 ([s_f,s_g]:List ByteArray) (by decide)))) ?_))))))
  iterate 3 refine q1 aF ?_
  refine q1 zZ (f8 H fun x29 x30 z28 H=>(q1 (gF [0] [] Tryz.func111 (h_sl11Expr d24 pa1 (aQ (pString-1)) _ z28)) (q1 (iI ([x29]:List aG) lB jD) (bO H fun x32 z31 H=>(q1 (bJ Tryz.func158 (rK fu 4 y26 ([x29]:List aG) _ z31)) (q1 (bV nH) (qN (aO.ret ?_))))))))
  obtain rfl:_=r:=(aY H:)
  exact bN (hr:=⟨⟨_,_,_,rfl,rfl,gC,rfl,rfl⟩,trivial⟩)
 refine qS (qR (q1 dP (q1 aF (qN ?_))))
 refine a9 H (fun h33 H=>?_) (fun h33 H=>?_)
 ·refine qS (qR (q1 aF (q1 (iI ([bI,iU]:List ByteArray) bW jZ) (gE H fun d34 h35 H=>(gE H fun y36 h37 H=>(q1 (gF [0] [] Tryz.func86 (K6 h35 h37 (f7 d1 ([bI,iU]:List ByteArray) (by decide)))) ?_))))))
  iterate 3 refine q1 aF ?_
  refine q1 zZ (f8 H fun x39 x40 z38 H=>(q1 (gF [0] [] Tryz.func111 (h_sl11Expr d34 pa1 (aQ (pString-1)) _ z38)) ?_))
  iterate 3 refine q1 aF ?_
  refine q1 zZ (f8 H fun x42 x43 z41 H=>(q1 (gF [0] [] Tryz.func111 (h_sl11Expr x40 pa1 (aQ (pString-1)) _ z41)) (q1 (iI ([x39,x42]:List aG) lB jD) (q1 (fM jD vA) (q1 (bV nH) (qN (aO.ret ?_)))))))
  obtain rfl:_=r:=(aY H:)
  exact bN (hr:=⟨⟨_,_,_,rfl,rfl,gC,rfl,rfl⟩,trivial⟩)
 refine qS (qR (q1 dP (q1 aF (qN ?_))))
 refine a9 H (fun h44 H=>?_) (fun h44 H=>?_)
 ·refine qS (qR ?_)
  iterate 3 refine q1 aF ?_
  refine q1 zZ (f8 H fun x46 x47 z45 H=>(q1 (gF [0] [] Tryz.func111 (h_sl11Expr d1 pa1 (aQ (pString-1)) _ z45)) ?_))
  iterate 3 refine q1 aF ?_
  refine q1 zZ (f8 H fun x49 x50 z48 H=>(q1 (gF [0] [] Tryz.func111 (h_sl11Expr x47 pa1 (aQ (pString-1)) _ z48)) (q1 (iI ([x46,x49]:List aG) lB jD) (bO H fun x52 z51 H=>(q1 (bJ Tryz.func158 (rK fu 6 cD ([x46,x49]:List aG) _ z51)) (q1 (bV nH) (qN (aO.ret ?_))))))))
  obtain rfl:_=r:=(aY H:)
  exact bN (hr:=⟨⟨_,_,_,rfl,rfl,gC,rfl,rfl⟩,trivial⟩)
 refine qS (qR (q1 dP (q1 aF (qN ?_))))
 refine a9 H (fun h53 H=>?_) (fun h53 H=>?_)
 ·refine qS (qR (q1 (rC ([]:List ByteArray) bW jZ) (q1 aF (dK H fun z54 H=>(q1 (lC z54 bW oT) (q1 (iI ([Y8,ZV]:List ByteArray) bW jZ) (dK H fun z55 H=>(q1 (lC z55 bW oT) (q1 aF (qN (qS (qR ?_))))))))))))
  iterate 3 refine q1 aF ?_
  refine q1 zZ (f8 H fun x57 x58 z56 H=>(q1 (gF [0] [] Tryz.func111 (h_sl11Expr d1 pa1 (aQ (pString-1)) _ z56)) (q1 (iI ([x57]:List aG) lB jD) ?_)))
  iterate 3 refine q1 aF ?_
  refine q1 zZ (f8 H fun x60 x61 z59 H=>(q1 (gF [0] [] Tryz.func111 (h_sl11Expr x58 pa1 (aQ (pString-1)) _ z59)) (q1 (fM KT aeZ) (q1 (iI ([Y8,ZV]:List ByteArray) bW jZ) ?_))))
  iterate 3 refine q1 aF ?_
  refine q1 zZ (f8 H fun x63 x64 z62 H=>(q1 (gF [0] [] Tryz.func111 (h_sl11Expr x61 ((([])++pa1)++([Y8,ZV]:List ByteArray)) (aQ (pString-1)) _ z62)) (q1 (fM KT aeZ) (q1 (iI ([(bC.mk fA [] x60),(bC.mk cD ([Y8,ZV]:List ByteArray) x63)]:List bC) mL KT) (q1 (fM jD vA) (q1 (bV nH) (qN (aO.ret ?_))))))))
  obtain rfl:_=r:=(aY H:)
  exact bN (hr:=⟨⟨_,_,_,rfl,rfl,gC,rfl,rfl⟩,trivial⟩)
 refine qS (qR (q1 dP (q1 aF (qN ?_))))
 refine a9 H (fun h65 H=>?_) (fun h65 H=>?_)
 ·refine qS (qR ?_)
  iterate 3 refine q1 aF ?_
  refine q1 zZ (f8 H fun x67 x68 z66 H=>(q1 (gF [0] [] Tryz.func111 (h_sl11Expr d1 pa1 (aQ (pString-1)) _ z66)) (q1 aF (q1 (rC ([]:List ByteArray) bW jZ) (q1 aF (dK H fun z69 H=>(q1 (lC z69 bW oT) (q1 (iI ([nZ]:List ByteArray) bW jZ) (dK H fun z70 H=>(q1 (lC z70 bW oT) (q1 aF (q1 zZ (f8 H fun x72 x73 z71 H=>?_)))))))))))))
  refine q1 (gF [0] [] Tryz.func111 (h_sl11Expr x68 ((([])++pa1)++([nZ]:List ByteArray)) (aQ (pString-1)) _ z71)) (q1 (iI ([x67,x72]:List aG) lB jD) (bO H fun x75 z74 H=>(q1 (bJ Tryz.func158 (rK fu 8 nZ ([x67,x72]:List aG) _ z74)) (q1 (bV nH) (qN (aO.ret ?_))))))
  obtain rfl:_=r:=(aY H:)
  exact bN (hr:=⟨⟨_,_,_,rfl,rfl,gC,rfl,rfl⟩,trivial⟩)
 refine qS (qR (q1 dP (q1 aF (qN ?_))))
 refine a9 H (fun h76 H=>?_) (fun h76 H=>?_)
 ·refine qS (qR ?_)
  iterate 3 refine q1 aF ?_
  refine q1 zZ (f8 H fun x78 x79 z77 H=>(q1 (gF [0] [] Tryz.func111 (h_sl11Expr d1 pa1 (aQ (pString-1)) _ z77)) ?_))
  iterate 3 refine q1 aF ?_
  refine q1 zZ (f8 H fun x81 x82 z80 H=>(q1 (gF [0] [] Tryz.func111 (h_sl11Expr x79 pa1 (aQ (pString-1)) _ z80)) ?_))
  iterate 3 refine q1 aF ?_
  refine q1 zZ (f8 H fun x84 x85 z83 H=>(q1 (gF [0] [] Tryz.func111 (h_sl11Expr x82 pa1 (aQ (pString-1)) _ z83)) (q1 (iI ([x78,x81,x84]:List aG) lB jD) (bO H fun x87 z86 H=>(q1 (bJ Tryz.func158 (rK fu 9 s_ ([x78,x81,x84]:List aG) _ z86)) (q1 (bV nH) (qN (aO.ret ?_))))))))
  obtain rfl:_=r:=(aY H:)
  exact bN (hr:=⟨⟨_,_,_,rfl,rfl,gC,rfl,rfl⟩,trivial⟩)
 refine qS (qR (q1 dP (q1 aF (qN ?_))))
 refine a9 H (fun h88 H=>?_) (fun h88 H=>?_)
 ·refine qS (qR (q1 aF (q1 (iI ([vG,zY,G7,GU,F8]:List ByteArray) bW jZ) (gE H fun d89 h90 H=>(gE H fun y91 h92 H=>(q1 (gF [0] [] Tryz.func86 (K6 h90 h92 (f7 d1 ([vG,zY,G7,GU,F8]:List ByteArray) (by decide)))) ?_))))))
  iterate 3 refine q1 aF ?_
  refine q1 zZ (f8 H fun x94 x95 z93 H=>(q1 (gF [0] [] Tryz.func111 (h_sl11Expr d89 pa1 (aQ (pString-1)) _ z93)) ?_))
  iterate 3 refine q1 aF ?_
  refine q1 zZ (f8 H fun x97 x98 z96 H=>(q1 (gF [0] [] Tryz.func111 (h_sl11Expr x95 pa1 (aQ (pString-1)) _ z96)) (q1 (iI ([x94,x97]:List aG) lB jD) (bO H fun x100 z99 H=>(q1 (bJ Tryz.func158 (rK fu 10 y91 ([x94,x97]:List aG) _ z99)) (q1 (bV nH) (qN (aO.ret ?_))))))))
  obtain rfl:_=r:=(aY H:)
  exact bN (hr:=⟨⟨_,_,_,rfl,rfl,gC,rfl,rfl⟩,trivial⟩)
 refine qS (qR (q1 dP (q1 aF (qN ?_))))
 refine a9 H (fun h101 H=>?_) (fun h101 H=>?_)
 ·refine qS (qR ?_)
  iterate 3 refine q1 aF ?_
  refine q1 zZ (f8 H fun x103 x104 z102 H=>(q1 (gF [0] [] Tryz.func111 (h_sl11Expr d1 pa1 (aQ (pString-1)) _ z102)) (q1 (iI ([x103]:List aG) lB jD) (q1 (fM jD vA) (q1 (bV nH) (qN (aO.ret ?_)))))))
  obtain rfl:_=r:=(aY H:)
  exact bN (hr:=⟨⟨_,_,_,rfl,rfl,gC,rfl,rfl⟩,trivial⟩)
 refine qS (qR (q1 dP (q1 aF (qN ?_))))
 refine a9 H (fun h105 H=>?_) (fun h105 H=>?_)
 ·refine qS (qR (q1 aF (q1 (iI ([fU]:List ByteArray) bW jZ) (f8 H fun x107 x108 z106 H=>(q1 (gF [0] [] Tryz.func130 (NL fu d1 ([fU]:List ByteArray) 1 _ z106)) ?_)))))
  iterate 3 refine q1 aF ?_
  refine q1 zZ (f8 H fun x110 x111 z109 H=>(q1 (gF [0] [] Tryz.func111 (h_sl11Expr x108 pa1 (aQ (pString-1)) _ z109)) (q1 (iI ([x110]:List aG) lB jD) (q1 (fM jD vA) (q1 (bV nH) (qN (aO.ret ?_)))))))
  obtain rfl:_=r:=(aY H:)
  exact bN (hr:=⟨⟨_,_,_,rfl,rfl,gC,rfl,rfl⟩,trivial⟩)
 refine aO.skip (qS (qR (q1 aF (gE H fun d112 h113 H=>(q1 (gF [0] [] Tryz.func103 (AN h113 (fR d1 20))) (q1 zZ (bO H fun x115 z114 H=>(q1 (bJ Tryz.func159 (rW fu (aQ (((d1.below 20:Nat):Int)-5)) _ z114)) (q1 (bV nH) (qN (aO.ret ?_)))))))))))
 obtain rfl:_=r:=(aY H:)
 exact bN (hr:=⟨⟨_,_,_,rfl,rfl,gC,rfl,rfl⟩,trivial⟩)
def jW:Nat→DS→(List ByteArray)→Int→Option (aG×DS)
 |0,_,_,_=>none
 |fu+1,pq0,pa1,pString=>FQ fu (jW fu) pq0 pa1 pString
theorem SM(fu:Nat):zC (jW fu):=by
 induction fu with
 |zero=>exact(fun pq0 pa1 pString r H=>by simp only [jW] at H;cases H)
 |succ fu ih=>exact(fun pq0 pa1 pString r H=>by simp only [jW] at H;exact OZ fu (jW fu) ih pq0 pa1 pString r H)
theorem JR(fu:Nat):zC (jW fu):=(SM fu)
def afA(m:Option aB):Prop:= ∀(r:aB),m=some r→cH Tryz.prog 147 [] ((aB.pv r):PV)
def xH(fu:Nat):Option aB:=
 bd (iX fu e7 ([])) (fun x2=>
 some x2)
theorem rQ(fu:Nat):afA (xH fu):=by
 intro r H
 have H:=fC H
 refine qI Tryz.func147 (fun C hC=>?_)
 refine qS (qR (q1 (hH jO) (qN (qS (qR (bO H fun x2 z1 H=>(q1 (bJ Tryz.func85 (iM fu e7 ([]) _ z1)) (q1 (bV iV) (qN (aO.ret ?_))))))))))
 obtain rfl:_=r:=(aY H:)
 exact bN (hr:=⟨⟨_,_,_,rfl,rfl,dL,rfl,rfl⟩,trivial⟩)
def YP(m:DS→Option (aH×DS)):Prop:= ∀(pq0:DS) (r:aH×DS),m pq0=some r→dG Tryz.prog 169 [.ptr 0 0] ⟨[some ⟨151,dC pq0⟩],[]⟩ (fun q t=>q=((aH.pv r.1):PV)∧t=⟨[some ⟨151,dC r.2⟩],[]⟩)
def VC(fu:Nat)(pq0 d1:DS)(y3:ByteArray)(d5:DS)(x8:aG):Option ((aH×DS)⊕((List ByteArray)×Int×ByteArray×(List aB)×(List aJ)×DS)):=
 lt (d5.after 4) (fun d15=>
 sw (decide ((((d5.below 4:Nat):Int):Int)=0))
 (bd (xH fu) (fun x19=>
 some (.inr ([],x19.gKind,x19.gName,x19.gArgs,[],d15))))
 (sw (decide ((((d5.below 4:Nat):Int):Int)=1))
 (bd (lL fu fU) (fun x22=>
 bd (iX fu cR ([x22]:List aB)) (fun x24=>
 some (.inr (([fU]:List ByteArray),x24.gKind,x24.gName,x24.gArgs,([(aJ.mk y3 x22)]:List aJ),d15)))))
 (sw (decide ((((d5.below 4:Nat):Int):Int)=2))
 (bd (lL fu fU) (fun x27=>
 bd (lL fu z0) (fun x29=>
 bd (iX fu tG ([x27,x29]:List aB)) (fun x31=>
 some (.inr (([fU,z0]:List ByteArray),x31.gKind,x31.gName,x31.gArgs,[],d15))))))
 (bd (lL fu fU) (fun x33=>
 some (.inr (([fU]:List ByteArray),x33.gKind,x33.gName,x33.gArgs,([(aJ.mk jV x33)]:List aJ),d15)))))))
def UN(fu:Nat)(pq0 d1:DS)(y3:ByteArray)(d5:DS)(x8:aG)(v9:List ByteArray)(v10:Int)(v11:ByteArray)(v12:List aB)(v13:List aJ)(v14:DS):Option ((aH×DS)⊕((List aB)×Bool×Int×ByteArray×DS)):=
 lt (v14.after 3) (fun d39=>
 sw (decide (v14.below 3=0))
 (bd (pD fu d39 v9 1) (fun(x43,x44)=>
 some (.inr (x43.gArgs,true,x43.gKind,x43.gName,x44))))
 (some (.inr ([],false,0,s_,d39))))
def D7(fu:Nat)(pq0:DS):Option (aH×DS):=
 lt (pq0.after ([bI,s9,iU]:List ByteArray).length) (fun d1=>
 lt (pq0.pick ([bI,s9,iU]:List ByteArray)) (fun y3=>
 lt (d1.after 9) (fun d5=>
 bd (qD fu ((d1.below 9:Nat):Int)) (fun x8=>
 so (VC fu pq0 d1 y3 d5 x8) (fun(v9,v10,v11,v12,v13,v14)=>
 so (UN fu pq0 d1 y3 d5 x8 v9 v10 v11 v12 v13 v14) (fun(v38,v35,v36,v37,v34)=>
 lt (v34.after 4) (fun d45=>
 lt (d45.after 12) (fun d47=>
 sw (decide ((((d45.below 12:Nat):Int):Int)=0))
 (bd (sG fu d47 2) (fun(x51,x52)=>
 some ((aH.mk y3 v9 x51 v13 (decide (v34.below 4=0)) v35 (aB.mk v36 v37 v38) ([(aN.mk eE ([d9]:List ByteArray) x8)]:List aN)),x52)))
 (sw (decide ((((d45.below 12:Nat):Int):Int)=1))
 (lt (d47.after ([fU,s_c]:List ByteArray).length) (fun d54=>
 lt (d47.pick ([fU,s_c]:List ByteArray)) (fun y56=>
 gd ((v9).length+(([y56]:List ByteArray)).length≤68719476736)
 (some ((aH.mk y3 (v9++([y56]:List ByteArray)) (aB.mk v10 v11 v12) v13 (decide (v34.below 4=0)) v35 (aB.mk v36 v37 v38) ([(aN.mk eE ([d9]:List ByteArray) x8)]:List aN)),d54)))))
 (sw (decide ((((d45.below 12:Nat):Int):Int)=2))
 (bd (sG fu d47 1) (fun(x61,x62)=>
 gd ((v13).length+(([(aJ.mk s9 x61)]:List aJ)).length≤68719476736)
 (some ((aH.mk y3 v9 (aB.mk v10 v11 v12) (v13++([(aJ.mk s9 x61)]:List aJ)) (decide (v34.below 4=0)) v35 (aB.mk v36 v37 v38) ([(aN.mk eE ([d9]:List ByteArray) x8)]:List aN)),x62))))
 (sw (decide ((((d45.below 12:Nat):Int):Int)=3))
 (bd (jW fu d47 ([d9,nZ]:List ByteArray) 2) (fun(x66,x67)=>
 some ((aH.mk y3 v9 (aB.mk v10 v11 v12) v13 (decide (v34.below 4=0)) v35 (aB.mk v36 v37 v38) ([(aN.mk eE ([d9]:List ByteArray) x66)]:List aN)),x67)))
 (sw (decide ((((d45.below 12:Nat):Int):Int)=4))
 (bd (xH fu) (fun x70=>
 some ((aH.mk y3 v9 (aB.mk v10 v11 v12) v13 (decide (v34.below 4=0)) v35 x70 ([(aN.mk eE ([d9]:List ByteArray) x8)]:List aN)),d47)))
 (sw (decide ((((d45.below 12:Nat):Int):Int)=5))
 (some ((aH.mk y3 v9 (aB.mk v10 v11 v12) v13 (decide (v34.below 4=0)) v35 (aB.mk v36 v37 v38) ([(aN.mk eE ([]) x8)]:List aN)),d47))
 (some ((aH.mk y3 v9 (aB.mk v10 v11 v12) v13 (decide (v34.below 4=0)) v35 (aB.mk v36 v37 v38) ([(aN.mk eE ([d9]:List ByteArray) x8)]:List aN)),d47)))))))))))))))
theorem T6(fu:Nat):YP (D7 fu):=by
 intro pq0 r H
 have H:=fC H
 refine qI Tryz.func169 (fun C hC=>?_)
 refine qS (qR (q1 (hH sZ) (qN (qS (qR (q1 aF (q1 (rE ([bI,s9,iU]:List ByteArray) bW jZ) (gE H fun d1 h2 H=>(gE H fun y3 h4 H=>(q1 (gF [0] [] Tryz.func86 (K6 h2 h4 (f7 pq0 ([bI,s9,iU]:List ByteArray) (by decide)))) (q1 (rE ([d9]:List ByteArray) bW jZ) (q1 aF (gE H fun d5 h6 H=>?_)))))))))))))
 refine q1 (gF [0] [] Tryz.func103 (AN h6 (fR d1 9))) (bO H fun x8 z7 H=>(q1 (bJ Tryz.func159 (rW fu ((d1.below 9:Nat):Int) _ z7)) (q1 (fM DN aeY) (q1 (aW.buildSliceB (cs:= [pS eE,.lit 1 (aX (([d9]:List ByteArray))),pI x8.gKind,pS x8.gTrait,pS x8.gName,pI x8.gN,pI x8.gType.gKind,pS x8.gType.gName,a6 x8.gType.gArgs,fD x8.gArgs,lH x8.gArms]) rfl rfl FZ DN rfl rfl rfl (by decide) rfl (by decide)) (q1 (fM sZ MW) (q1 (hH sZ) (q1 (bV rB) (qN (qS ?_)))))))))
 refine oM (σ:=(List ByteArray)×Int×ByteArray×(List aB)×(List aJ)×DS) (fun(v9,v10,v11,v12,v13,v14)=>⟨[(0,.ptr 0 0),(2,.ptr 1 0),(3,.ptr 3 0)],⟨[some ⟨151,dC v14⟩,some ⟨55,[pS s_,.nil,pI 0,pS s_,.nil,.nil,pB false,pB false,pI 0,pS s_,.nil,.nil]⟩,some ⟨161,[pS eE,.lit 1 (aX (([d9]:List ByteArray))),pI x8.gKind,pS x8.gTrait,pS x8.gName,pI x8.gN,pI x8.gType.gKind,pS x8.gType.gName,a6 x8.gType.gArgs,fD x8.gArgs,lH x8.gArms]⟩,some ⟨55,[pS y3,.lit 1 (aX (v9)),pI v10,pS v11,a6 v12,.lit 4 (aJ.trs (v13)),pB false,pB false,pI 0,pS s_,.nil,.bsl 2 1]⟩],[]⟩⟩) (f9 H) (fun H=>?_) ?_
 ·refine qS (qR (q1 aF (gE H fun d15 h16 H=>(q1 (gF [0] [] Tryz.func103 (AN h16 (fR d5 4))) (qN (aO.block (qS (qR (q1 dP (q1 aF (qN ?_)))))))))))
  refine a9 H (fun h17 H=>?_) (fun h17 H=>?_)
  ·refine qR (bO H fun x19 z18 H=>(q1 (bJ Tryz.func147 (rQ fu _ z18)) (q1 (aZ nB) (q1 (bV iV) (qN ?_)))))
   exact dH ⟨_,(aY H:),bZ⟩
  refine qS (qR (q1 dP (q1 aF (qN ?_))))
  refine a9 H (fun h20 H=>?_) (fun h20 H=>?_)
  ·refine qS (qR (q1 (rE ([fU]:List ByteArray) bW jZ) (q1 (aZ pM) (q1 (bV E8) (qN (qS (qR (bO H fun x22 z21 H=>(q1 (bJ Tryz.func118 (iN fu fU _ z21)) (q1 (rE ([x22]:List aB) fX jO) (bO H fun x24 z23 H=>(q1 (bJ Tryz.func85 (iM fu cR ([x22]:List aB) _ z23)) (q1 (aZ nB) ?_)))))))))))))
   refine q1 (bV iV) (qN (dW (dI [3] (aZ IU) (dD [36] (bB e8) (dI [] (bJ Tryz.func118 (iN fu fU _ z21)) (dI [37,38] (fM GZ acC) (dI [39] (rE ([(aJ.mk y3 x22)]:List aJ) vF GZ) (dI [3] (aZ AU) (mZ [41,40] (bV af8) (dN ?_))))))))))
   exact dH ⟨_,(aY H:),bZ⟩
  refine qS (qR (q1 dP (q1 aF (qN ?_))))
  refine a9 H (fun h25 H=>?_) (fun h25 H=>?_)
  ·refine qS (qR (q1 (rE ([fU,z0]:List ByteArray) bW jZ) (q1 (aZ pM) (q1 (bV E8) (qN (qR (bO H fun x27 z26 H=>(q1 (bJ Tryz.func118 (iN fu fU _ z26)) (bO H fun x29 z28 H=>(q1 (bJ Tryz.func118 (iN fu z0 _ z28)) (q1 (rE ([x27,x29]:List aB) fX jO) (bO H fun x31 z30 H=>(q1 (bJ Tryz.func85 (iM fu tG ([x27,x29]:List aB) _ z30)) ?_)))))))))))))
   refine q1 (aZ nB) (q1 (bV iV) (qN ?_))
   exact dH ⟨_,(aY H:),bZ⟩
  refine qS (qR (q1 (rE ([fU]:List ByteArray) bW jZ) (q1 (aZ pM) (q1 (bV E8) (qN (qS (qR (bO H fun x33 z32 H=>(q1 (bJ Tryz.func118 (iN fu fU _ z32)) (q1 (aZ nB) (q1 (bV iV) (qN (qR ?_)))))))))))))
  refine q1 (bJ Tryz.func118 (iN fu fU _ z32)) (q1 (fM GZ acC) (q1 (rE ([(aJ.mk jV x33)]:List aJ) vF GZ) (q1 (aZ AU) (q1 (bV af8) (qN ?_)))))
  exact dH ⟨_,(aY H:),bZ⟩
 rintro⟨v9,v10,v11,v12,v13,v14⟩ H
 refine qS ?_;refine oM (σ:=(List aB)×Bool×Int×ByteArray×DS) (fun(v38,v35,v36,v37,v34)=>⟨[(0,.ptr 0 0),(2,.ptr 1 0),(3,.ptr 3 0)],⟨[some ⟨151,dC v34⟩,some ⟨55,[pS s_,.nil,pI 0,pS s_,.nil,.nil,pB false,pB false,pI 0,pS s_,.nil,.nil]⟩,some ⟨161,[pS eE,.lit 1 (aX (([d9]:List ByteArray))),pI x8.gKind,pS x8.gTrait,pS x8.gName,pI x8.gN,pI x8.gType.gKind,pS x8.gType.gName,a6 x8.gType.gArgs,fD x8.gArgs,lH x8.gArms]⟩,some ⟨55,[pS y3,.lit 1 (aX (v9)),pI v10,pS v11,a6 v12,.lit 4 (aJ.trs (v13)),pB false,pB v35,pI v36,pS v37,a6 v38,.bsl 2 1]⟩],[]⟩⟩) (f9 H) (fun H=>?_) ?_
 ·refine qS (qR (q1 aF (gE H fun d39 h40 H=>(q1 (gF [0] [] Tryz.func112 (AN h40 (mB v14 3))) (qN ?_)))))
  refine a9 H (fun h41 H=>?_) (fun h41 H=>?_)
  ·refine qS (qR (q1 (aZ IA) (q1 (bV sz4) (qN (qR (q1 aF (q1 (aZ pM) (q1 (bB jM) (f8 H fun x43 x44 z42 H=>(q1 (gF [0] [] Tryz.func130 (NL fu d39 v9 1 _ z42)) (q1 (aZ AJ) (q1 (bV iV) (qN ?_)))))))))))))
   exact dH ⟨_,(aY H:),bZ⟩
  refine aO.skip ?_;exact dH ⟨_,(aY H:),bZ⟩
 rintro⟨v38,v35,v36,v37,v34⟩ H
 refine qS (qR (q1 aF (gE H fun d45 h46 H=>(q1 (gF [0] [] Tryz.func112 (AN h46 (mB v34 4))) (q1 (aZ adN) (q1 (bV sz4) (qN ?_)))))))
 iterate 2 refine qS ?_
 refine qR (q1 aF (gE H fun d47 h48 H=>(q1 (gF [0] [] Tryz.func103 (AN h48 (fR d45 12))) (qN (aO.block (qS (qR (q1 dP (q1 aF (qN ?_))))))))))
 refine a9 H (fun h49 H=>?_) (fun h49 H=>?_)
 ·refine qR (q1 aF (f8 H fun x51 x52 z50 H=>(q1 (gF [0] [] Tryz.func87 (u4 fu d47 2 _ z50)) (q1 (aZ nB) (q1 (bV iV) (qN (qS (qR ?_))))))))
  refine AL.weak (Wk.freezeE (k:=2) (sz:=11) (es:= [aN.cs (aN.mk eE ([d9]:List ByteArray) x8)]) (es':=aN.trs (([(aN.mk eE ([d9]:List ByteArray) x8)]:List aN))) (s':=⟨[(0,.ptr 0 0),(2,.ptr 1 0),(3,.ptr 3 0),(63,pN (d45.below 12))],⟨[some ⟨151,dC x52⟩,some ⟨55,[pS s_,.nil,pI 0,pS s_,.nil,.nil,pB false,pB false,pI 0,pS s_,.nil,.nil]⟩,none,some ⟨55,[pS y3,.lit 1 (aX (v9)),pI x51.gKind,pS x51.gName,a6 x51.gArgs,.lit 4 (aJ.trs (v13)),pB (decide (v34.below 4=0)),pB v35,pI v36,pS v37,a6 v38,jY ([(aN.mk eE ([d9]:List ByteArray) x8)]:List aN)]⟩],[]⟩⟩) (by simp [aN.trs_map,aN.tr_cs]) rfl mD (by simp [aN.cs]) (Nat.le_of_ble_eq_true rfl) ⟨⟨rfl,c9,rfl⟩,⟨⟨rfl,c9,rfl⟩,⟨⟨rfl,c9,rfl⟩,trivial⟩⟩⟩ rfl rfl (eA hC (jE rfl) (Nat.le_of_ble_eq_true rfl)) (by repeat' first|exact trivial|refine⟨⟨_,rfl,c9,rfl⟩,?_⟩)) ?_;refine q1 (c6 [pS y3,.lit 1 (aX (v9)),pI x51.gKind,pS x51.gName,a6 x51.gArgs,.lit 4 (aJ.trs (v13)),pB (decide (v34.below 4=0)),pB v35,pI v36,pS v37,a6 v38,jY ([(aN.mk eE ([d9]:List ByteArray) x8)]:List aN)] nA) (q1 (bV rB) (qN (aO.ret ?_)))
  obtain rfl:_=r:=(aY H:)
  exact bN (hr:=⟨⟨_,_,_,rfl,rfl,nA,rfl,rfl⟩,trivial⟩)
 refine qS (qR (q1 dP (q1 aF (qN ?_))))
 refine a9 H (fun h53 H=>?_) (fun h53 H=>?_)
 ·refine gE H fun d54 h55 H=>(gE H fun y56 h57 H=>(dK H fun z58 H=>(dW (dI [3] (aZ pM) (dB [71] 0 1 (s5 jM) (dI [0] aF (dI [] (rE ([fU,s_c]:List ByteArray) bW jZ) (dE [73,74] (gF [0] [] Tryz.func86 (K6 h55 h57 (f7 d47 ([fU,s_c]:List ByteArray) (by decide)))) (dI [75] (rE ([y56]:List ByteArray) bW jZ) ?_)))))))))
  refine dI [72,76] (aW.appendLit (es1:=aX (v9)) (es2:=aX (([y56]:List ByteArray))) (es3:=aX (v9++([y56]:List ByteArray))) rfl rfl rfl rfl rfl (nQ _) (nQ _) (by exact List.cons_ne_nil _ _) (by decide) bW oT (by decide) (by rw [bE,bE];exact vV z58 (by decide)) (sJ _ _)) ?_;refine dI [3] (aZ pM) (mZ [78,77] (bV E8) (dN (qS (qR ?_))))
  refine AL.weak (Wk.freezeE (k:=2) (sz:=11) (es:= [aN.cs (aN.mk eE ([d9]:List ByteArray) x8)]) (es':=aN.trs (([(aN.mk eE ([d9]:List ByteArray) x8)]:List aN))) (s':=⟨[(0,.ptr 0 0),(2,.ptr 1 0),(3,.ptr 3 0),(63,pN (d45.below 12))],⟨[some ⟨151,dC d54⟩,some ⟨55,[pS s_,.nil,pI 0,pS s_,.nil,.nil,pB false,pB false,pI 0,pS s_,.nil,.nil]⟩,none,some ⟨55,[pS y3,rS (v9++([y56]:List ByteArray)),pI v10,pS v11,a6 v12,.lit 4 (aJ.trs (v13)),pB (decide (v34.below 4=0)),pB v35,pI v36,pS v37,a6 v38,jY ([(aN.mk eE ([d9]:List ByteArray) x8)]:List aN)]⟩],[]⟩⟩) (by simp [aN.trs_map,aN.tr_cs]) rfl mD (by simp [aN.cs]) (Nat.le_of_ble_eq_true rfl) ⟨⟨rfl,c9,rfl⟩,⟨⟨rfl,c9,rfl⟩,⟨⟨rfl,c9,rfl⟩,trivial⟩⟩⟩ rfl rfl (eA hC (jE rfl) (Nat.le_of_ble_eq_true rfl)) (by repeat' first|exact trivial|refine⟨⟨_,rfl,c9,rfl⟩,?_⟩)) ?_;refine q1 (c6 [pS y3,rS (v9++([y56]:List ByteArray)),pI v10,pS v11,a6 v12,.lit 4 (aJ.trs (v13)),pB (decide (v34.below 4=0)),pB v35,pI v36,pS v37,a6 v38,jY ([(aN.mk eE ([d9]:List ByteArray) x8)]:List aN)] nA) (q1 (bV rB) (qN (aO.ret ?_)))
  obtain rfl:_=r:=(aY H:)
  exact bN (hr:=⟨⟨_,_,_,rfl,rfl,nA,rfl,rfl⟩,trivial⟩)
 refine qS (qR (q1 dP (q1 aF (qN ?_))))
 refine a9 H (fun h59 H=>?_) (fun h59 H=>?_)
 ·refine f8 H fun x61 x62 z60 H=>(dK H fun z63 H=>(dW (dI [3] (aZ AU) (dB [81] 0 1 (s5 ZR) (dI [0] aF (dE [83] (gF [0] [] Tryz.func87 (u4 fu d47 1 _ z60)) (dI [84] (fM GZ acC) (dI [85] (rE ([(aJ.mk s9 x61)]:List aJ) vF GZ) ?_))))))))
  refine dI [82,86] (aW.appendLit (es1:=aJ.trs (v13)) (es2:=aJ.trs (([(aJ.mk s9 x61)]:List aJ))) (es3:=aJ.trs (v13++([(aJ.mk s9 x61)]:List aJ))) rfl rfl rfl rfl rfl (fun e he=>by rw [aJ.trs_map] at he;obtain⟨x,_,rfl⟩:=List.mem_map.1 he;rw [aJ.tr_cs];rfl) (fun e he=>by rw [aJ.trs_map] at he;obtain⟨x,_,rfl⟩:=List.mem_map.1 he;rw [aJ.tr_cs];rfl) (by rw [aJ.trs_map];exact List.cons_ne_nil _ _) (by decide) vF ahE (by decide) (by rw [aJ.trs_len,aJ.trs_len];exact vV z63 (by decide)) (by rw [aJ.trs_map,aJ.trs_map,aJ.trs_map,List.map_append])) ?_;refine dI [3] (aZ AU) (mZ [88,87] (bV af8) (dN (qS (qR ?_))))
  refine AL.weak (Wk.freezeE (k:=2) (sz:=11) (es:= [aN.cs (aN.mk eE ([d9]:List ByteArray) x8)]) (es':=aN.trs (([(aN.mk eE ([d9]:List ByteArray) x8)]:List aN))) (s':=⟨[(0,.ptr 0 0),(2,.ptr 1 0),(3,.ptr 3 0),(63,pN (d45.below 12))],⟨[some ⟨151,dC x62⟩,some ⟨55,[pS s_,.nil,pI 0,pS s_,.nil,.nil,pB false,pB false,pI 0,pS s_,.nil,.nil]⟩,none,some ⟨55,[pS y3,.lit 1 (aX (v9)),pI v10,pS v11,a6 v12,eK (v13++([(aJ.mk s9 x61)]:List aJ)),pB (decide (v34.below 4=0)),pB v35,pI v36,pS v37,a6 v38,jY ([(aN.mk eE ([d9]:List ByteArray) x8)]:List aN)]⟩],[]⟩⟩) (by simp [aN.trs_map,aN.tr_cs]) rfl mD (by simp [aN.cs]) (Nat.le_of_ble_eq_true rfl) ⟨⟨rfl,c9,rfl⟩,⟨⟨rfl,c9,rfl⟩,⟨⟨rfl,c9,rfl⟩,trivial⟩⟩⟩ rfl rfl (eA hC (jE rfl) (Nat.le_of_ble_eq_true rfl)) (by repeat' first|exact trivial|refine⟨⟨_,rfl,c9,rfl⟩,?_⟩)) ?_;refine q1 (c6 [pS y3,.lit 1 (aX (v9)),pI v10,pS v11,a6 v12,eK (v13++([(aJ.mk s9 x61)]:List aJ)),pB (decide (v34.below 4=0)),pB v35,pI v36,pS v37,a6 v38,jY ([(aN.mk eE ([d9]:List ByteArray) x8)]:List aN)] nA) (q1 (bV rB) (qN (aO.ret ?_)))
  obtain rfl:_=r:=(aY H:)
  exact bN (hr:=⟨⟨_,_,_,rfl,rfl,nA,rfl,rfl⟩,trivial⟩)
 refine qS (qR (q1 dP (q1 aF (qN ?_))))
 refine a9 H (fun h64 H=>?_) (fun h64 H=>?_)
 ·refine f8 H fun x66 x67 z65 H=>(dW (dI [3] (aZ uU) (dB [91] 0 1 (s5 SH) (dI [0] aF (dI [] (rE ([d9,nZ]:List ByteArray) bW jZ) (dE [93,94] (gF [0] [] Tryz.func111 (JR fu d47 ([d9,nZ]:List ByteArray) 2 _ z65)) (dI [92] (aW.indexB (sz:=11) (k:=2) (N:=1) (i:=0) rfl rfl rfl rfl (by decide) FZ) (dI [96] (aZ LM) (mZ [97,95] (bV nH) (dN (qS (qR ?_))))))))))))
  refine AL.weak (Wk.freezeE (k:=2) (sz:=11) (es:= [aN.cs (aN.mk eE ([d9]:List ByteArray) x66)]) (es':=aN.trs (([(aN.mk eE ([d9]:List ByteArray) x66)]:List aN))) (s':=⟨[(0,.ptr 0 0),(2,.ptr 1 0),(3,.ptr 3 0),(63,pN (d45.below 12))],⟨[some ⟨151,dC x67⟩,some ⟨55,[pS s_,.nil,pI 0,pS s_,.nil,.nil,pB false,pB false,pI 0,pS s_,.nil,.nil]⟩,none,some ⟨55,[pS y3,.lit 1 (aX (v9)),pI v10,pS v11,a6 v12,.lit 4 (aJ.trs (v13)),pB (decide (v34.below 4=0)),pB v35,pI v36,pS v37,a6 v38,jY ([(aN.mk eE ([d9]:List ByteArray) x66)]:List aN)]⟩],[]⟩⟩) (by simp [aN.trs_map,aN.tr_cs]) rfl mD (by simp [aN.cs]) (Nat.le_of_ble_eq_true rfl) ⟨⟨rfl,c9,rfl⟩,⟨⟨rfl,c9,rfl⟩,⟨⟨rfl,c9,rfl⟩,trivial⟩⟩⟩ rfl rfl (eA hC (jE rfl) (Nat.le_of_ble_eq_true rfl)) (by repeat' first|exact trivial|refine⟨⟨_,rfl,c9,rfl⟩,?_⟩)) ?_;refine q1 (c6 [pS y3,.lit 1 (aX (v9)),pI v10,pS v11,a6 v12,.lit 4 (aJ.trs (v13)),pB (decide (v34.below 4=0)),pB v35,pI v36,pS v37,a6 v38,jY ([(aN.mk eE ([d9]:List ByteArray) x66)]:List aN)] nA) (q1 (bV rB) (qN (aO.ret ?_)))
  obtain rfl:_=r:=(aY H:)
  exact bN (hr:=⟨⟨_,_,_,rfl,rfl,nA,rfl,rfl⟩,trivial⟩)
 refine qS (qR (q1 dP (q1 aF (qN ?_))))
 refine a9 H (fun h68 H=>?_) (fun h68 H=>?_)
 ·refine qR (bO H fun x70 z69 H=>(q1 (bJ Tryz.func147 (rQ fu _ z69)) (q1 (aZ AJ) (q1 (bV iV) (qN (qS (qR ?_)))))))
  refine AL.weak (Wk.freezeE (k:=2) (sz:=11) (es:= [aN.cs (aN.mk eE ([d9]:List ByteArray) x8)]) (es':=aN.trs (([(aN.mk eE ([d9]:List ByteArray) x8)]:List aN))) (s':=⟨[(0,.ptr 0 0),(2,.ptr 1 0),(3,.ptr 3 0),(63,pN (d45.below 12))],⟨[some ⟨151,dC d47⟩,some ⟨55,[pS s_,.nil,pI 0,pS s_,.nil,.nil,pB false,pB false,pI 0,pS s_,.nil,.nil]⟩,none,some ⟨55,[pS y3,.lit 1 (aX (v9)),pI v10,pS v11,a6 v12,.lit 4 (aJ.trs (v13)),pB (decide (v34.below 4=0)),pB v35,pI x70.gKind,pS x70.gName,a6 x70.gArgs,jY ([(aN.mk eE ([d9]:List ByteArray) x8)]:List aN)]⟩],[]⟩⟩) (by simp [aN.trs_map,aN.tr_cs]) rfl mD (by simp [aN.cs]) (Nat.le_of_ble_eq_true rfl) ⟨⟨rfl,c9,rfl⟩,⟨⟨rfl,c9,rfl⟩,⟨⟨rfl,c9,rfl⟩,trivial⟩⟩⟩ rfl rfl (eA hC (jE rfl) (Nat.le_of_ble_eq_true rfl)) (by repeat' first|exact trivial|refine⟨⟨_,rfl,c9,rfl⟩,?_⟩)) ?_;refine q1 (c6 [pS y3,.lit 1 (aX (v9)),pI v10,pS v11,a6 v12,.lit 4 (aJ.trs (v13)),pB (decide (v34.below 4=0)),pB v35,pI x70.gKind,pS x70.gName,a6 x70.gArgs,jY ([(aN.mk eE ([d9]:List ByteArray) x8)]:List aN)] nA) (q1 (bV rB) (qN (aO.ret ?_)))
  obtain rfl:_=r:=(aY H:)
  exact bN (hr:=⟨⟨_,_,_,rfl,rfl,nA,rfl,rfl⟩,trivial⟩)
 refine qS (qR (q1 dP (q1 aF (qN ?_))))
 refine a9 H (fun h71 H=>?_) (fun h71 H=>?_)
 ·refine qR (q1 (aZ uU) (q1 (bB SH) (q1 (rE ([]:List ByteArray) bW jZ) (q1 (aW.indexB (sz:=11) (k:=2) (N:=1) (i:=0) rfl rfl rfl rfl (by decide) FZ) (q1 (aZ BL) (q1 (bV E8) (qN (qS (qR ?_)))))))))
  refine AL.weak (Wk.freezeE (k:=2) (sz:=11) (es:= [aN.cs (aN.mk eE ([]) x8)]) (es':=aN.trs (([(aN.mk eE ([]) x8)]:List aN))) (s':=⟨[(0,.ptr 0 0),(2,.ptr 1 0),(3,.ptr 3 0),(63,pN (d45.below 12))],⟨[some ⟨151,dC d47⟩,some ⟨55,[pS s_,.nil,pI 0,pS s_,.nil,.nil,pB false,pB false,pI 0,pS s_,.nil,.nil]⟩,none,some ⟨55,[pS y3,.lit 1 (aX (v9)),pI v10,pS v11,a6 v12,.lit 4 (aJ.trs (v13)),pB (decide (v34.below 4=0)),pB v35,pI v36,pS v37,a6 v38,jY ([(aN.mk eE ([]) x8)]:List aN)]⟩],[]⟩⟩) (by simp [aN.trs_map,aN.tr_cs]) rfl mD (by simp [aN.cs]) (Nat.le_of_ble_eq_true rfl) ⟨⟨rfl,c9,rfl⟩,⟨⟨rfl,c9,rfl⟩,⟨⟨rfl,c9,rfl⟩,trivial⟩⟩⟩ rfl rfl (eA hC (jE rfl) (Nat.le_of_ble_eq_true rfl)) (by repeat' first|exact trivial|refine⟨⟨_,rfl,c9,rfl⟩,?_⟩)) ?_;refine q1 (c6 [pS y3,.lit 1 (aX (v9)),pI v10,pS v11,a6 v12,.lit 4 (aJ.trs (v13)),pB (decide (v34.below 4=0)),pB v35,pI v36,pS v37,a6 v38,jY ([(aN.mk eE ([]) x8)]:List aN)] nA) (q1 (bV rB) (qN (aO.ret ?_)))
  obtain rfl:_=r:=(aY H:)
  exact bN (hr:=⟨⟨_,_,_,rfl,rfl,nA,rfl,rfl⟩,trivial⟩)
 refine aO.skip (qS (qR ?_))
 refine AL.weak (Wk.freezeE (k:=2) (sz:=11) (es:= [aN.cs (aN.mk eE ([d9]:List ByteArray) x8)]) (es':=aN.trs (([(aN.mk eE ([d9]:List ByteArray) x8)]:List aN))) (s':=⟨[(0,.ptr 0 0),(2,.ptr 1 0),(3,.ptr 3 0),(63,pN (d45.below 12))],⟨[some ⟨151,dC d47⟩,some ⟨55,[pS s_,.nil,pI 0,pS s_,.nil,.nil,pB false,pB false,pI 0,pS s_,.nil,.nil]⟩,none,some ⟨55,[pS y3,.lit 1 (aX (v9)),pI v10,pS v11,a6 v12,.lit 4 (aJ.trs (v13)),pB (decide (v34.below 4=0)),pB v35,pI v36,pS v37,a6 v38,jY ([(aN.mk eE ([d9]:List ByteArray) x8)]:List aN)]⟩],[]⟩⟩) (by simp [aN.trs_map,aN.tr_cs]) rfl mD (by simp [aN.cs]) (Nat.le_of_ble_eq_true rfl) ⟨⟨rfl,c9,rfl⟩,⟨⟨rfl,c9,rfl⟩,⟨⟨rfl,c9,rfl⟩,trivial⟩⟩⟩ rfl rfl (eA hC (jE rfl) (Nat.le_of_ble_eq_true rfl)) (by repeat' first|exact trivial|refine⟨⟨_,rfl,c9,rfl⟩,?_⟩)) ?_;refine q1 (c6 [pS y3,.lit 1 (aX (v9)),pI v10,pS v11,a6 v12,.lit 4 (aJ.trs (v13)),pB (decide (v34.below 4=0)),pB v35,pI v36,pS v37,a6 v38,jY ([(aN.mk eE ([d9]:List ByteArray) x8)]:List aN)] nA) (q1 (bV rB) (qN (aO.ret ?_)))
 obtain rfl:_=r:=(aY H:)
 exact bN (hr:=⟨⟨_,_,_,rfl,rfl,nA,rfl,rfl⟩,trivial⟩)
def aeV(m:DS→Option (aL×DS)):Prop:= ∀(pc:DS) (r:aL×DS),m pc=some r→dG Tryz.prog 170 [.ptr 0 0] ⟨[some ⟨151,dC pc⟩],[]⟩ (fun q t=>q=((aL.pv r.1):PV)∧t=⟨[some ⟨151,dC r.2⟩],[]⟩)
def L7(fu:Nat)(pc:DS):Option (aL×DS):=
 lt (pc.after ([s_f,s_g]:List ByteArray).length) (fun d1=>
 lt (pc.pick ([s_f,s_g]:List ByteArray)) (fun y3=>
 bd (lL fu fU) (fun x6=>
 bd (xH fu) (fun x8=>
 bd (rX fu d9) (fun x10=>
 lt (d1.after 10) (fun d11=>
 sw (decide ((((d1.below 10:Nat):Int):Int)=0))
 (bd (sG fu d11 2) (fun(x15,x16)=>
 some ((aL.mk y3 ([fU]:List ByteArray) ([(aJ.mk bI x6)]:List aJ) ([(aR.mk d9 x6)]:List aR) x15 (aG.mk 5 bI eE 0 (aB.mk 0 s_ []) ([x10]:List aG) [])),x16)))
 (sw (decide ((((d1.below 10:Nat):Int):Int)=1))
 (lt (d11.after ([d9,nZ]:List ByteArray).length) (fun d18=>
 lt (d11.pick ([d9,nZ]:List ByteArray)) (fun y20=>
 gd ((([(aR.mk d9 x6)]:List aR)).length+(([(aR.mk y20 x8)]:List aR)).length≤68719476736)
 (some ((aL.mk y3 ([fU]:List ByteArray) ([(aJ.mk bI x6)]:List aJ) (([(aR.mk d9 x6)]:List aR)++([(aR.mk y20 x8)]:List aR)) x8 (aG.mk 5 bI eE 0 (aB.mk 0 s_ []) ([x10]:List aG) [])),d18)))))
 (sw (decide ((((d1.below 10:Nat):Int):Int)=2))
 (bd (jW fu d11 ([d9,nZ]:List ByteArray) 3) (fun(x25,x26)=>
 some ((aL.mk y3 ([fU]:List ByteArray) ([(aJ.mk bI x6)]:List aJ) ([(aR.mk d9 x6)]:List aR) x8 x25),x26)))
 (sw (decide ((((d1.below 10:Nat):Int):Int)=3))
 (bd (sG fu d11 1) (fun(x29,x30)=>
 some ((aL.mk y3 ([fU]:List ByteArray) ([(aJ.mk bI x29)]:List aJ) ([(aR.mk d9 x6)]:List aR) x8 (aG.mk 5 bI eE 0 (aB.mk 0 s_ []) ([x10]:List aG) [])),x30)))
 (sw (decide ((((d1.below 10:Nat):Int):Int)=4))
 (lt (d11.after ([s_,y1]:List ByteArray).length) (fun d32=>
 lt (d11.pick ([s_,y1]:List ByteArray)) (fun y34=>
 some ((aL.mk y34 ([fU]:List ByteArray) ([(aJ.mk bI x6)]:List aJ) ([(aR.mk d9 x6)]:List aR) x8 (aG.mk 5 bI eE 0 (aB.mk 0 s_ []) ([x10]:List aG) [])),d32))))
 (some ((aL.mk y3 ([fU]:List ByteArray) ([(aJ.mk bI x6)]:List aJ) ([(aR.mk d9 x6)]:List aR) x8 (aG.mk 5 bI eE 0 (aB.mk 0 s_ []) ([x10]:List aG) [])),d11))))))))))))
theorem adA(fu:Nat):aeV (L7 fu):=by
 intro pc r H
 have H:=fC H
 refine qI Tryz.func170 (fun C hC=>?_)
 refine qS (qR (q1 (hH zI) (qN (qS (qR (q1 aF (q1 (rE ([s_f,s_g]:List ByteArray) bW jZ) (gE H fun d1 h2 H=>(gE H fun y3 h4 H=>(q1 (gF [0] [] Tryz.func86 (K6 h2 h4 (f7 pc ([s_f,s_g]:List ByteArray) (by decide)))) (q1 (rE ([fU]:List ByteArray) bW jZ) (bO H fun x6 z5 H=>(q1 (bJ Tryz.func118 (iN fu fU _ z5)) ?_)))))))))))))
 refine q1 (fM GZ acC) (q1 (aW.buildSliceB (cs:= [pS bI,pI x6.gKind,pS x6.gName,a6 x6.gArgs]) rfl rfl vF GZ rfl rfl rfl (by decide) rfl (by decide)) (q1 (bJ Tryz.func118 (iN fu fU _ z5)) (q1 (fM PW aeX) (q1 (rE ([(aR.mk d9 x6)]:List aR) A6 PW) (bO H fun x8 z7 H=>(q1 (bJ Tryz.func147 (rQ fu _ z7)) (bO H fun x10 z9 H=>(q1 (bJ Tryz.func157 (vB fu d9 _ z9)) (q1 (rE ([x10]:List aG) lB jD) (q1 (fM jD vA) (q1 (fM zI WV) (q1 (hH zI) (q1 (bV wQ) ?_)))))))))))))
 refine qN ?_
 iterate 2 refine qS ?_
 refine qR (q1 aF (gE H fun d11 h12 H=>(q1 (gF [0] [] Tryz.func103 (AN h12 (fR d1 10))) (qN (aO.block (qS (qR (q1 dP (q1 aF (qN ?_))))))))))
 refine a9 H (fun h13 H=>?_) (fun h13 H=>?_)
 ·refine qR (q1 aF (f8 H fun x15 x16 z14 H=>(q1 (gF [0] [] Tryz.func87 (u4 fu d11 2 _ z14)) (q1 (aZ TD) (q1 (bV iV) (qN (qS (qR ?_))))))))
  refine AL.weak (Wk.freezeE (k:=2) (sz:=4) (es:= [aJ.cs (aJ.mk bI x6)]) (es':=aJ.trs (([(aJ.mk bI x6)]:List aJ))) (s':=⟨[(0,.ptr 0 0),(2,.ptr 1 0),(3,.ptr 3 0),(20,pN (d1.below 10))],⟨[some ⟨151,dC x16⟩,some ⟨148,[pS s_,.nil,.nil,.nil,pI 0,pS s_,.nil,pI 0,pS s_,pS s_,pI 0,pI 0,pS s_,.nil,.nil,.nil]⟩,none,some ⟨148,[pS y3,.lit 1 (aX (([fU]:List ByteArray))),eK ([(aJ.mk bI x6)]:List aJ),.lit 4 (aR.trs (([(aR.mk d9 x6)]:List aR))),pI x15.gKind,pS x15.gName,a6 x15.gArgs,pI 5,pS bI,pS eE,pI 0,pI 0,pS s_,.nil,.lit 9 (aG.trs (([x10]:List aG))),.nil]⟩],[]⟩⟩) (by simp [aJ.trs_map,aJ.tr_cs]) rfl mD (by simp [aJ.cs]) (Nat.le_of_ble_eq_true rfl) ⟨⟨rfl,c9,rfl⟩,⟨⟨rfl,c9,rfl⟩,⟨⟨rfl,c9,rfl⟩,trivial⟩⟩⟩ rfl rfl (eA hC (jE rfl) (Nat.le_of_ble_eq_true rfl)) (by repeat' first|exact trivial|refine⟨⟨_,rfl,c9,rfl⟩,?_⟩)) ?_;refine q1 (c6 [pS y3,.lit 1 (aX (([fU]:List ByteArray))),eK ([(aJ.mk bI x6)]:List aJ),.lit 4 (aR.trs (([(aR.mk d9 x6)]:List aR))),pI x15.gKind,pS x15.gName,a6 x15.gArgs,pI 5,pS bI,pS eE,pI 0,pI 0,pS s_,.nil,.lit 9 (aG.trs (([x10]:List aG))),.nil] o4) (q1 (bV wQ) (qN (aO.ret ?_)))
  obtain rfl:_=r:=(aY H:)
  exact bN (hr:=⟨⟨_,_,_,rfl,rfl,o4,rfl,rfl⟩,trivial⟩)
 refine qS (qR (q1 dP (q1 aF (qN ?_))))
 refine a9 H (fun h17 H=>?_) (fun h17 H=>?_)
 ·refine gE H fun d18 h19 H=>(gE H fun y20 h21 H=>(dK H fun z22 H=>(dW (dI [3] (aZ sL) (dB [28] 0 1 (s5 J7) (dI [0] aF (dI [] (rE ([d9,nZ]:List ByteArray) bW jZ) (dE [30,31] (gF [0] [] Tryz.func86 (K6 h19 h21 (f7 d11 ([d9,nZ]:List ByteArray) (by decide)))) (dI [] (bJ Tryz.func147 (rQ fu _ z7)) (dI [32,33] (fM PW aeX) (dI [34] (rE ([(aR.mk y20 x8)]:List aR) A6 PW) ?_)))))))))))
  refine dI [29,35] (aW.appendLit (es1:=aR.trs (([(aR.mk d9 x6)]:List aR))) (es2:=aR.trs (([(aR.mk y20 x8)]:List aR))) (es3:=aR.trs (([(aR.mk d9 x6)]:List aR)++([(aR.mk y20 x8)]:List aR))) rfl rfl rfl rfl rfl (fun e he=>by rw [aR.trs_map] at he;obtain⟨x,_,rfl⟩:=List.mem_map.1 he;rw [aR.tr_cs];rfl) (fun e he=>by rw [aR.trs_map] at he;obtain⟨x,_,rfl⟩:=List.mem_map.1 he;rw [aR.tr_cs];rfl) (by rw [aR.trs_map];exact List.cons_ne_nil _ _) (by decide) A6 agO (by decide) (by rw [aR.trs_len,aR.trs_len];exact vV z22 (by decide)) (by rw [aR.trs_map,aR.trs_map,aR.trs_map,List.map_append])) ?_;refine dI [3] (aZ sL) (mZ [37,36] (bV agV) (dN (qS (qR ?_))))
  refine AL.weak (Wk.freezeE (k:=2) (sz:=4) (es:= [aJ.cs (aJ.mk bI x6)]) (es':=aJ.trs (([(aJ.mk bI x6)]:List aJ))) (s':=⟨[(0,.ptr 0 0),(2,.ptr 1 0),(3,.ptr 3 0),(20,pN (d1.below 10))],⟨[some ⟨151,dC d18⟩,some ⟨148,[pS s_,.nil,.nil,.nil,pI 0,pS s_,.nil,pI 0,pS s_,pS s_,pI 0,pI 0,pS s_,.nil,.nil,.nil]⟩,none,some ⟨148,[pS y3,.lit 1 (aX (([fU]:List ByteArray))),eK ([(aJ.mk bI x6)]:List aJ),NN (([(aR.mk d9 x6)]:List aR)++([(aR.mk y20 x8)]:List aR)),pI x8.gKind,pS x8.gName,a6 x8.gArgs,pI 5,pS bI,pS eE,pI 0,pI 0,pS s_,.nil,.lit 9 (aG.trs (([x10]:List aG))),.nil]⟩],[]⟩⟩) (by simp [aJ.trs_map,aJ.tr_cs]) rfl mD (by simp [aJ.cs]) (Nat.le_of_ble_eq_true rfl) ⟨⟨rfl,c9,rfl⟩,⟨⟨rfl,c9,rfl⟩,⟨⟨rfl,c9,rfl⟩,trivial⟩⟩⟩ rfl rfl (eA hC (jE rfl) (Nat.le_of_ble_eq_true rfl)) (by repeat' first|exact trivial|refine⟨⟨_,rfl,c9,rfl⟩,?_⟩)) ?_;refine q1 (c6 [pS y3,.lit 1 (aX (([fU]:List ByteArray))),eK ([(aJ.mk bI x6)]:List aJ),NN (([(aR.mk d9 x6)]:List aR)++([(aR.mk y20 x8)]:List aR)),pI x8.gKind,pS x8.gName,a6 x8.gArgs,pI 5,pS bI,pS eE,pI 0,pI 0,pS s_,.nil,.lit 9 (aG.trs (([x10]:List aG))),.nil] o4) (q1 (bV wQ) (qN (aO.ret ?_)))
  obtain rfl:_=r:=(aY H:)
  exact bN (hr:=⟨⟨_,_,_,rfl,rfl,o4,rfl,rfl⟩,trivial⟩)
 refine qS (qR (q1 dP (q1 aF (qN ?_))))
 refine a9 H (fun h23 H=>?_) (fun h23 H=>?_)
 ·refine qR (q1 aF (q1 (rE ([d9,nZ]:List ByteArray) bW jZ) (f8 H fun x25 x26 z24 H=>(q1 (gF [0] [] Tryz.func111 (JR fu d11 ([d9,nZ]:List ByteArray) 3 _ z24)) (q1 (aZ SG) (q1 (bV nH) (qN (qS (qR ?_)))))))))
  refine AL.weak (Wk.freezeE (k:=2) (sz:=4) (es:= [aJ.cs (aJ.mk bI x6)]) (es':=aJ.trs (([(aJ.mk bI x6)]:List aJ))) (s':=⟨[(0,.ptr 0 0),(2,.ptr 1 0),(3,.ptr 3 0),(20,pN (d1.below 10))],⟨[some ⟨151,dC x26⟩,some ⟨148,[pS s_,.nil,.nil,.nil,pI 0,pS s_,.nil,pI 0,pS s_,pS s_,pI 0,pI 0,pS s_,.nil,.nil,.nil]⟩,none,some ⟨148,[pS y3,.lit 1 (aX (([fU]:List ByteArray))),eK ([(aJ.mk bI x6)]:List aJ),.lit 4 (aR.trs (([(aR.mk d9 x6)]:List aR))),pI x8.gKind,pS x8.gName,a6 x8.gArgs,pI x25.gKind,pS x25.gTrait,pS x25.gName,pI x25.gN,pI x25.gType.gKind,pS x25.gType.gName,a6 x25.gType.gArgs,fD x25.gArgs,lH x25.gArms]⟩],[]⟩⟩) (by simp [aJ.trs_map,aJ.tr_cs]) rfl mD (by simp [aJ.cs]) (Nat.le_of_ble_eq_true rfl) ⟨⟨rfl,c9,rfl⟩,⟨⟨rfl,c9,rfl⟩,⟨⟨rfl,c9,rfl⟩,trivial⟩⟩⟩ rfl rfl (eA hC (jE rfl) (Nat.le_of_ble_eq_true rfl)) (by repeat' first|exact trivial|refine⟨⟨_,rfl,c9,rfl⟩,?_⟩)) ?_;refine q1 (c6 [pS y3,.lit 1 (aX (([fU]:List ByteArray))),eK ([(aJ.mk bI x6)]:List aJ),.lit 4 (aR.trs (([(aR.mk d9 x6)]:List aR))),pI x8.gKind,pS x8.gName,a6 x8.gArgs,pI x25.gKind,pS x25.gTrait,pS x25.gName,pI x25.gN,pI x25.gType.gKind,pS x25.gType.gName,a6 x25.gType.gArgs,fD x25.gArgs,lH x25.gArms] o4) (q1 (bV wQ) (qN (aO.ret ?_)))
  obtain rfl:_=r:=(aY H:)
  exact bN (hr:=⟨⟨_,_,_,rfl,rfl,o4,rfl,rfl⟩,trivial⟩)
 refine qS (qR (q1 dP (q1 aF (qN ?_))))
 refine a9 H (fun h27 H=>?_) (fun h27 H=>?_)
 ·refine f8 H fun x29 x30 z28 H=>(dW (dI [3] (aZ S9) (dB [46] 0 1 (s5 ZR) (dI [0] aF (dE [48] (gF [0] [] Tryz.func87 (u4 fu d11 1 _ z28)) (dI [47] (aW.indexB (sz:=4) (k:=2) (N:=1) (i:=0) rfl rfl rfl rfl (by decide) vF) (dI [50] (aZ JH) (mZ [51,49] (bV iV) (dN (qS (qR ?_)))))))))))
  refine AL.weak (Wk.freezeE (k:=2) (sz:=4) (es:= [aJ.cs (aJ.mk bI x29)]) (es':=aJ.trs (([(aJ.mk bI x29)]:List aJ))) (s':=⟨[(0,.ptr 0 0),(2,.ptr 1 0),(3,.ptr 3 0),(20,pN (d1.below 10))],⟨[some ⟨151,dC x30⟩,some ⟨148,[pS s_,.nil,.nil,.nil,pI 0,pS s_,.nil,pI 0,pS s_,pS s_,pI 0,pI 0,pS s_,.nil,.nil,.nil]⟩,none,some ⟨148,[pS y3,.lit 1 (aX (([fU]:List ByteArray))),eK ([(aJ.mk bI x29)]:List aJ),.lit 4 (aR.trs (([(aR.mk d9 x6)]:List aR))),pI x8.gKind,pS x8.gName,a6 x8.gArgs,pI 5,pS bI,pS eE,pI 0,pI 0,pS s_,.nil,.lit 9 (aG.trs (([x10]:List aG))),.nil]⟩],[]⟩⟩) (by simp [aJ.trs_map,aJ.tr_cs]) rfl mD (by simp [aJ.cs]) (Nat.le_of_ble_eq_true rfl) ⟨⟨rfl,c9,rfl⟩,⟨⟨rfl,c9,rfl⟩,⟨⟨rfl,c9,rfl⟩,trivial⟩⟩⟩ rfl rfl (eA hC (jE rfl) (Nat.le_of_ble_eq_true rfl)) (by repeat' first|exact trivial|refine⟨⟨_,rfl,c9,rfl⟩,?_⟩)) ?_;refine q1 (c6 [pS y3,.lit 1 (aX (([fU]:List ByteArray))),eK ([(aJ.mk bI x29)]:List aJ),.lit 4 (aR.trs (([(aR.mk d9 x6)]:List aR))),pI x8.gKind,pS x8.gName,a6 x8.gArgs,pI 5,pS bI,pS eE,pI 0,pI 0,pS s_,.nil,.lit 9 (aG.trs (([x10]:List aG))),.nil] o4) (q1 (bV wQ) (qN (aO.ret ?_)))
  obtain rfl:_=r:=(aY H:)
  exact bN (hr:=⟨⟨_,_,_,rfl,rfl,o4,rfl,rfl⟩,trivial⟩)
 refine qS (qR (q1 dP (q1 aF (qN ?_))))
 refine a9 H (fun h31 H=>?_) (fun h31 H=>?_)
 ·refine qR (q1 aF (q1 (rE ([s_,y1]:List ByteArray) bW jZ) (gE H fun d32 h33 H=>(gE H fun y34 h35 H=>(q1 (gF [0] [] Tryz.func86 (K6 h33 h35 (f7 d11 ([s_,y1]:List ByteArray) (by decide)))) (q1 (aZ LL) (q1 (bV sz9) (qN (qS (qR ?_))))))))))
  refine AL.weak (Wk.freezeE (k:=2) (sz:=4) (es:= [aJ.cs (aJ.mk bI x6)]) (es':=aJ.trs (([(aJ.mk bI x6)]:List aJ))) (s':=⟨[(0,.ptr 0 0),(2,.ptr 1 0),(3,.ptr 3 0),(20,pN (d1.below 10))],⟨[some ⟨151,dC d32⟩,some ⟨148,[pS s_,.nil,.nil,.nil,pI 0,pS s_,.nil,pI 0,pS s_,pS s_,pI 0,pI 0,pS s_,.nil,.nil,.nil]⟩,none,some ⟨148,[pS y34,.lit 1 (aX (([fU]:List ByteArray))),eK ([(aJ.mk bI x6)]:List aJ),.lit 4 (aR.trs (([(aR.mk d9 x6)]:List aR))),pI x8.gKind,pS x8.gName,a6 x8.gArgs,pI 5,pS bI,pS eE,pI 0,pI 0,pS s_,.nil,.lit 9 (aG.trs (([x10]:List aG))),.nil]⟩],[]⟩⟩) (by simp [aJ.trs_map,aJ.tr_cs]) rfl mD (by simp [aJ.cs]) (Nat.le_of_ble_eq_true rfl) ⟨⟨rfl,c9,rfl⟩,⟨⟨rfl,c9,rfl⟩,⟨⟨rfl,c9,rfl⟩,trivial⟩⟩⟩ rfl rfl (eA hC (jE rfl) (Nat.le_of_ble_eq_true rfl)) (by repeat' first|exact trivial|refine⟨⟨_,rfl,c9,rfl⟩,?_⟩)) ?_;refine q1 (c6 [pS y34,.lit 1 (aX (([fU]:List ByteArray))),eK ([(aJ.mk bI x6)]:List aJ),.lit 4 (aR.trs (([(aR.mk d9 x6)]:List aR))),pI x8.gKind,pS x8.gName,a6 x8.gArgs,pI 5,pS bI,pS eE,pI 0,pI 0,pS s_,.nil,.lit 9 (aG.trs (([x10]:List aG))),.nil] o4) (q1 (bV wQ) (qN (aO.ret ?_)))
  obtain rfl:_=r:=(aY H:)
  exact bN (hr:=⟨⟨_,_,_,rfl,rfl,o4,rfl,rfl⟩,trivial⟩)
 refine aO.skip (qS (qR ?_))
 refine AL.weak (Wk.freezeE (k:=2) (sz:=4) (es:= [aJ.cs (aJ.mk bI x6)]) (es':=aJ.trs (([(aJ.mk bI x6)]:List aJ))) (s':=⟨[(0,.ptr 0 0),(2,.ptr 1 0),(3,.ptr 3 0),(20,pN (d1.below 10))],⟨[some ⟨151,dC d11⟩,some ⟨148,[pS s_,.nil,.nil,.nil,pI 0,pS s_,.nil,pI 0,pS s_,pS s_,pI 0,pI 0,pS s_,.nil,.nil,.nil]⟩,none,some ⟨148,[pS y3,.lit 1 (aX (([fU]:List ByteArray))),eK ([(aJ.mk bI x6)]:List aJ),.lit 4 (aR.trs (([(aR.mk d9 x6)]:List aR))),pI x8.gKind,pS x8.gName,a6 x8.gArgs,pI 5,pS bI,pS eE,pI 0,pI 0,pS s_,.nil,.lit 9 (aG.trs (([x10]:List aG))),.nil]⟩],[]⟩⟩) (by simp [aJ.trs_map,aJ.tr_cs]) rfl mD (by simp [aJ.cs]) (Nat.le_of_ble_eq_true rfl) ⟨⟨rfl,c9,rfl⟩,⟨⟨rfl,c9,rfl⟩,⟨⟨rfl,c9,rfl⟩,trivial⟩⟩⟩ rfl rfl (eA hC (jE rfl) (Nat.le_of_ble_eq_true rfl)) (by repeat' first|exact trivial|refine⟨⟨_,rfl,c9,rfl⟩,?_⟩)) ?_;refine q1 (c6 [pS y3,.lit 1 (aX (([fU]:List ByteArray))),eK ([(aJ.mk bI x6)]:List aJ),.lit 4 (aR.trs (([(aR.mk d9 x6)]:List aR))),pI x8.gKind,pS x8.gName,a6 x8.gArgs,pI 5,pS bI,pS eE,pI 0,pI 0,pS s_,.nil,.lit 9 (aG.trs (([x10]:List aG))),.nil] o4) (q1 (bV wQ) (qN (aO.ret ?_)))
 obtain rfl:_=r:=(aY H:)
 exact bN (hr:=⟨⟨_,_,_,rfl,rfl,o4,rfl,rfl⟩,trivial⟩)
end
end Go.Proofs.YtpioomclpaiomaaGreat.W

namespace Go.Proofs.YtpioomclpaiomaaGreat.W
set_option maxRecDepth 100000
set_option maxHeartbeats 40000000
noncomputable section
open Go.RowKit Go.Proofs
set_option linter.unusedSimpArgs false
set_option linter.unusedVariables false
attribute [local irreducible] lt
def VH(m:DS→Option (aP×DS)):Prop:= ∀(pq0:DS) (r:aP×DS),m pq0=some r→dG Tryz.prog 167 [.ptr 0 0] ⟨[some ⟨151,dC pq0⟩],[]⟩ (fun q t=>q=((aP.pv r.1):PV)∧t=⟨[some ⟨151,dC r.2⟩],[]⟩)
def QQ(fu:Nat)(pq0:DS)(x2:aB)(d3:DS)(y5:ByteArray)(d7:DS)(x10:aB)(d13:DS)(x17 x19 x21:aG):Option ((aP×DS)⊕((List ByteArray))):=
 lt (d13.after 3) (fun d24=>
 sw (decide (d13.below 3=0))
 (some (.inr ([jV]:List ByteArray)))
 (some (.inr ([]))))
def SF(fu:Nat)(pq0:DS)(x2:aB)(d3:DS)(y5:ByteArray)(d7:DS)(x10:aB)(d37:DS):Option ((aP×DS)⊕((List ByteArray))):=
 lt (d37.after 3) (fun d41=>
 sw (decide (d37.below 3=0))
 (some (.inr ([jV]:List ByteArray)))
 (some (.inr ([]))))
def RT(fu:Nat)(pq0:DS)(x2:aB)(d3:DS)(y5:ByteArray)(d7:DS)(x10:aB):Option ((aP×DS)⊕((List aD))):=
 lt (d7.after 2) (fun d56=>
 sw (decide (d7.below 2=0))
 (bd (rX fu d9) (fun x61=>
 bd (qD fu 1) (fun x63=>
 bd (qM fu 10 vG ([(aG.mk 5 y5 eE 0 (aB.mk 0 s_ []) ([x61]:List aG) []),x63]:List aG)) (fun x65=>
 gd ((([(aD.mk eE [] x10 false [] (aG.mk 0 s_ s_ 0 (aB.mk 0 s_ []) [] []))]:List aD)).length+(([(aD.mk eV ([x2]:List aB) x10 true ([d9,nZ]:List ByteArray) x65)]:List aD)).length≤68719476736)
 (some (.inr (([(aD.mk eE [] x10 false [] (aG.mk 0 s_ s_ 0 (aB.mk 0 s_ []) [] []))]:List aD)++([(aD.mk eV ([x2]:List aB) x10 true ([d9,nZ]:List ByteArray) x65)]:List aD))))))))
 (some (.inr ([(aD.mk eE [] x10 false [] (aG.mk 0 s_ s_ 0 (aB.mk 0 s_ []) [] []))]:List aD))))
def SP(fu:Nat)(pq0:DS)(x2:aB)(d3:DS)(y5:ByteArray)(d7:DS)(x10:aB)(v55:List aD):Option ((aP×DS)⊕((List ByteArray))):=
 lt ((d7.after 2).after 3) (fun d68=>
 sw (decide ((d7.after 2).below 3=0))
 (some (.inr ([jV]:List ByteArray)))
 (some (.inr ([]))))
def BB(fu:Nat)(pq0:DS):Option (aP×DS):=
 bd (lL fu hU) (fun x2=>
 lt (pq0.after ([bI,s9,iU]:List ByteArray).length) (fun d3=>
 lt (pq0.pick ([bI,s9,iU]:List ByteArray)) (fun y5=>
 lt (d3.after 3) (fun d7=>
 bd (xH fu) (fun x10=>
 sw (decide ((((((d7.after 2).after 3).below 12:Nat):Int):Int)=2)||decide ((((((d7.after 2).after 3).below 12:Nat):Int):Int)=3))
 (sw (decide (d7.below 2=0))
 (lt (d7.after 2) (fun d13=>
 bd (rX fu d9) (fun x17=>
 bd (qD fu 1) (fun x19=>
 bd (qM fu 10 vG ([(aG.mk 5 y5 eE 0 (aB.mk 0 s_ []) ([x17]:List aG) []),x19]:List aG)) (fun x21=>
 gd ((([(aD.mk eE [] x10 false [] (aG.mk 0 s_ s_ 0 (aB.mk 0 s_ []) [] []))]:List aD)).length+(([(aD.mk eV ([x2]:List aB) x10 true ([d9,nZ]:List ByteArray) x21)]:List aD)).length≤68719476736)
 (so (QQ fu pq0 x2 d3 y5 d7 x10 d13 x17 x19 x21) (fun v23=>
 lt ((d13.after 3).after 12) (fun d28=>
 sw (decide (((((d13.after 3).below 12:Nat):Int):Int)=2))
 (lt (d28.after ([hU,z0]:List ByteArray).length) (fun d31=>
 lt (d28.pick ([hU,z0]:List ByteArray)) (fun y33=>
 bd (lL fu y33) (fun x36=>
 some ((aP.mk y5 v23 false (decide (d3.below 3=0)) ([(aD.mk eE ([]) x36 false ([]) (aG.mk 0 s_ s_ 0 (aB.mk 0 s_ ([])) ([]) ([]))),(aD.mk eV ([x2]:List aB) x10 true ([d9,nZ]:List ByteArray) x21)]:List aD)),d31)))))
 (some ((aP.mk y5 v23 false (decide (d3.below 3=0)) ([(aD.mk eE ([]) x10 true ([]) (aG.mk 0 s_ s_ 0 (aB.mk 0 s_ ([])) ([]) ([]))),(aD.mk eV ([x2]:List aB) x10 true ([d9,nZ]:List ByteArray) x21)]:List aD)),d28))))))))))
 (lt (d7.after 2) (fun d37=>
 so (SF fu pq0 x2 d3 y5 d7 x10 d37) (fun v40=>
 lt ((d37.after 3).after 12) (fun d45=>
 sw (decide (((((d37.after 3).below 12:Nat):Int):Int)=2))
 (lt (d45.after ([hU,z0]:List ByteArray).length) (fun d48=>
 lt (d45.pick ([hU,z0]:List ByteArray)) (fun y50=>
 bd (lL fu y50) (fun x53=>
 some ((aP.mk y5 v40 false (decide (d3.below 3=0)) ([(aD.mk eE [] x53 false [] (aG.mk 0 s_ s_ 0 (aB.mk 0 s_ []) [] []))]:List aD)),d48)))))
 (some ((aP.mk y5 v40 false (decide (d3.below 3=0)) ([(aD.mk eE [] x10 true [] (aG.mk 0 s_ s_ 0 (aB.mk 0 s_ []) [] []))]:List aD)),d45)))))))
 (so (RT fu pq0 x2 d3 y5 d7 x10) (fun v55=>
 so (SP fu pq0 x2 d3 y5 d7 x10 v55) (fun v67=>
 lt (((d7.after 2).after 3).after 12) (fun d72=>
 sw (decide ((((((d7.after 2).after 3).below 12:Nat):Int):Int)=0))
 (some ((aP.mk y5 v67 true (decide (d3.below 3=0)) v55),d72))
 (sw (decide ((((((d7.after 2).after 3).below 12:Nat):Int):Int)=1))
 (lt (d72.after ([s_,e7,s_A]:List ByteArray).length) (fun d76=>
 lt (d72.pick ([s_,e7,s_A]:List ByteArray)) (fun y78=>
 some ((aP.mk y78 v67 false (decide (d3.below 3=0)) v55),d76))))
 (sw (decide ((((((d7.after 2).after 3).below 12:Nat):Int):Int)=4))
 (gd ((v67).length+(([jV]:List ByteArray)).length≤68719476736)
 (some ((aP.mk y5 (v67++([jV]:List ByteArray)) false (decide (d3.below 3=0)) v55),d72)))
 (sw (decide ((((((d7.after 2).after 3).below 12:Nat):Int):Int)=5))
 (gd (0<(v55).length)
 (lt (a5 v55 0) (fun y84=>
 gd ((v55).length+(([y84]:List aD)).length≤68719476736)
 (some ((aP.mk y5 v67 false (decide (d3.below 3=0)) (v55++([y84]:List aD))),d72)))))
 (some ((aP.mk y5 v67 false (decide (d3.below 3=0)) v55),d72))))))))))))))
theorem Q9(fu:Nat):VH (BB fu):=by
 intro pq0 r H
 have H:=fC H
 refine qI Tryz.func167 (fun C hC=>?_)
 refine qS (qR (q1 (hH rY) (qN (qS (qR (bO H fun x2 z1 H=>(q1 (bJ Tryz.func118 (iN fu hU _ z1)) (q1 (hH jO) (q1 (bV iV) (qN (qS (qR (q1 aF ?_)))))))))))))
 refine q1 (rE ([bI,s9,iU]:List ByteArray) bW jZ) (gE H fun d3 h4 H=>(gE H fun y5 h6 H=>(q1 (gF [0] [] Tryz.func86 (K6 h4 h6 (f7 pq0 ([bI,s9,iU]:List ByteArray) (by decide)))) (q1 aF (gE H fun d7 h8 H=>(q1 (gF [0] [] Tryz.func112 (AN h8 (mB d3 3))) (bO H fun x10 z9 H=>(q1 (bJ Tryz.func147 (rQ fu _ z9)) (q1 (fM s6 aaV) ?_)))))))))
 rcases jS (decide ((((((d7.after 2).after 3).below 12:Nat):Int):Int)=2)||decide ((((((d7.after 2).after 3).below 12:Nat):Int):Int)=3)) with g11|g11
 ·have H:=oJ H g11
  rcases jS (decide (d7.below 2=0)) with g12|g12
  ·have H:=oJ H g12
   refine q1 (aW.buildSliceB (cs:= [pS eE,.nil,pI x10.gKind,pS x10.gName,a6 x10.gArgs,pB false,.nil,pI 0,pS s_,pS s_,pI 0,pI 0,pS s_,.nil,.nil,.nil]) rfl rfl qT s6 rfl rfl rfl (by decide) rfl (by decide)) (q1 (fM rY RZ) (q1 (hH rY) (q1 (bV qY) (qN ?_))))
   iterate 2 refine qS ?_
   refine qR (q1 aF (gE H fun d13 h14 H=>?_))
   have g15:=g11
   rw [← h14] at g15
   refine q1 (gF [0] [] Tryz.func112 (AN h14 (mB d7 2))) (qN (dT g12 (bO H fun x17 z16 H=>(bO H fun x19 z18 H=>(bO H fun x21 z20 H=>?_)))))
   refine aO.wk (Wk.freezeE (k:=3) (sz:=16) (es:= [aD.cs (aD.mk eE [] x10 false [] (aG.mk 0 s_ s_ 0 (aB.mk 0 s_ []) [] []))]) (es':=aD.trs (([(aD.mk eE [] x10 false [] (aG.mk 0 s_ s_ 0 (aB.mk 0 s_ []) [] []))]:List aD))) (s':=⟨[(0,.ptr 0 0),(2,.ptr 1 0),(3,.ptr 2 0),(4,.ptr 4 0),(5,(aB.pv x2)),(6,.ptr 0 0),(7,.lit 1 (aX (([bI,s9,iU]:List ByteArray)))),(8,pS y5),(9,.ptr 0 0),(10,pB (decide (d3.below 3=0))),(11,(aB.pv x10)),(12,.agg [pS eE,.nil,pI x10.gKind,pS x10.gName,a6 x10.gArgs,pB false,.nil,pI 0,pS s_,pS s_,pI 0,pI 0,pS s_,.nil,.nil,.nil]),(13,.lit 16 (aD.trs (([(aD.mk eE [] x10 false [] (aG.mk 0 s_ s_ 0 (aB.mk 0 s_ []) [] []))]:List aD)))),(14,.agg [pS y5,.nil,pB false,pB (decide (d3.below 3=0)),.lit 16 (aD.trs (([(aD.mk eE [] x10 false [] (aG.mk 0 s_ s_ 0 (aB.mk 0 s_ []) [] []))]:List aD)))]),(15,.ptr 0 0),(16,pB (decide (d7.below 2=0)))],⟨[some ⟨151,dC d13⟩,some ⟨60,[pS s_,.nil,pB false,pB false,.nil]⟩,some ⟨35,fB x2⟩,none,some ⟨60,[pS y5,.nil,pB false,pB (decide (d3.below 3=0)),.lit 16 (aD.trs (([(aD.mk eE [] x10 false [] (aG.mk 0 s_ s_ 0 (aB.mk 0 s_ []) [] []))]:List aD)))]⟩],[]⟩⟩) (by simp [aD.trs_map,aD.tr_cs]) rfl mD (by simp [aD.cs]) (Nat.le_of_ble_eq_true rfl) ⟨⟨rfl,c9,rfl⟩,⟨⟨rfl,c9,rfl⟩,⟨⟨rfl,c9,rfl⟩,⟨⟨rfl,c9,rfl⟩,trivial⟩⟩⟩⟩ rfl rfl (eA hC (jE rfl) (Nat.le_of_ble_eq_true rfl)) (by repeat' first|exact trivial|refine⟨⟨_,rfl,c9,rfl⟩,?_⟩)) ?_;refine dK H fun z22 H=>(dW (dI [4] (aZ jB) (dD [17] (bB zU) (dD [3] (c6 [pI x2.gKind,pS x2.gName,a6 x2.gArgs] dL) (dI [19] (rE ([x2]:List aB) fX jO) (dI [] (bJ Tryz.func147 (rQ fu _ z9)) (dI [] (rE ([d9,nZ]:List ByteArray) bW jZ) (dI [4] (aZ y7) (dD [23] (bB e8) (dI [] (bJ Tryz.func157 (vB fu d9 _ z16)) (dI [25] (rE ([x17]:List aG) lB jD) (dI [24,26] (fM jD vA) (dI [] (bJ Tryz.func159 (rW fu 1 _ z18)) ?_)))))))))))))
   refine dI [27,28] (rE ([(aG.mk 5 y5 eE 0 (aB.mk 0 s_ []) ([x17]:List aG) []),x19]:List aG) lB jD) (dI [29] (bJ Tryz.func158 (rK fu 10 vG ([(aG.mk 5 y5 eE 0 (aB.mk 0 s_ []) ([x17]:List aG) []),x19]:List aG) _ z20)) (dI [20,21,22,30] (fM s6 aaV) (dI [31] (rE ([(aD.mk eV ([x2]:List aB) x10 true ([d9,nZ]:List ByteArray) x21)]:List aD) qT s6) ?_)))
   refine dE [18,32] (aW.appendLitBE (es1:=aD.trs (([(aD.mk eE [] x10 false [] (aG.mk 0 s_ s_ 0 (aB.mk 0 s_ []) [] []))]:List aD))) (es2:=aD.trs (([(aD.mk eV ([x2]:List aB) x10 true ([d9,nZ]:List ByteArray) x21)]:List aD))) (es3:= [aD.cs (aD.mk eE [] x10 false [] (aG.mk 0 s_ s_ 0 (aB.mk 0 s_ []) [] [])),aD.cs (aD.mk eV ([x2]:List aB) x10 true ([d9,nZ]:List ByteArray) x21)]) (cs:= [pS eE,a6 [],pI x10.gKind,pS x10.gName,a6 x10.gArgs,pB false,rS [],pI 0,pS s_,pS s_,pI 0,pI 0,pS s_,a6 [],fD [],lH [],pS eV,a6 ([x2]:List aB),pI x10.gKind,pS x10.gName,a6 x10.gArgs,pB true,rS ([d9,nZ]:List ByteArray),pI x21.gKind,pS x21.gTrait,pS x21.gName,pI x21.gN,pI x21.gType.gKind,pS x21.gType.gName,a6 x21.gType.gArgs,fD x21.gArgs,lH x21.gArms]) rfl rfl rfl rfl rfl (fun e he=>by rw [aD.trs_map] at he;obtain⟨x,_,rfl⟩:=List.mem_map.1 he;rw [aD.tr_cs];rfl) (fun e he=>by rw [aD.trs_map] at he;obtain⟨x,_,rfl⟩:=List.mem_map.1 he;rw [aD.tr_cs];rfl) (by rw [aD.trs_map];exact List.cons_ne_nil _ _) (by decide) qT ab0 (by decide) (by rw [aD.trs_len,aD.trs_len];exact vV z22 (by decide)) (by simp [aD.trs_map,aD.tr_cs]) rfl rfl) ?_;refine dI [4] (aZ jB) (mZ [34,33] (bV abH) (dN (qS ?_)))
   refine oM (σ:=(List ByteArray)) (fun v23=>⟨[(0,.ptr 0 0),(2,.ptr 1 0),(4,.ptr 4 0)],⟨[some ⟨151,dC (d13.after 3)⟩,some ⟨60,[pS s_,.nil,pB false,pB false,.nil]⟩,some ⟨35,fB x2⟩,none,some ⟨60,[pS y5,.lit 1 (aX (v23)),pB false,pB (decide (d3.below 3=0)),.gsl 5 2]⟩,some ⟨164,[pS eE,a6 [],pI x10.gKind,pS x10.gName,a6 x10.gArgs,pB false,rS [],pI 0,pS s_,pS s_,pI 0,pI 0,pS s_,a6 [],fD [],lH [],pS eV,a6 ([x2]:List aB),pI x10.gKind,pS x10.gName,a6 x10.gArgs,pB true,rS ([d9,nZ]:List ByteArray),pI x21.gKind,pS x21.gTrait,pS x21.gName,pI x21.gN,pI x21.gType.gKind,pS x21.gType.gName,a6 x21.gType.gArgs,fD x21.gArgs,lH x21.gArms]⟩],[]⟩⟩) (f9 H) (fun H=>?_) ?_
   ·refine qS (qR (q1 aF (gE H fun d24 h25 H=>?_)))
    have g26:=g15
    rw [← h25] at g26
    refine q1 (gF [0] [] Tryz.func112 (AN h25 (mB d13 3))) (qN ?_)
    refine a9 H (fun h27 H=>?_) (fun h27 H=>?_)
    ·refine qR (q1 (rE ([jV]:List ByteArray) bW jZ) (q1 (aZ vE) (q1 (bV E8) (qN ?_))))
     subst h25
     exact dH ⟨_,(aY H:),bZ⟩
    refine aO.skip ?_
    subst h25
    exact dH ⟨_,(aY H:),bZ⟩
   rintro v23 H
   iterate 2 refine qS ?_
   refine qR (q1 aF (gE H fun d28 h29 H=>(q1 (gF [0] [] Tryz.func103 (AN h29 (fR (d13.after 3) 12))) (qN (aO.block (qS (qR (q1 dP (q1 aF (qN (kL (aa1 (b:=0) g15 (by decide) (by decide)) (qS (qR ?_)))))))))))))
   refine q1 dP (q1 aF (qN (kL (aa1 (b:=1) g15 (by decide) (by decide)) (qS (qR (q1 dP (q1 aF (qN ?_))))))))
   refine a9 H (fun h30 H=>?_) (fun h30 H=>?_)
   ·refine gE H fun d31 h32 H=>(gE H fun y33 h34 H=>(bO H fun x36 z35 H=>(dW (dI [4] (aZ jB) (dB [52] 0 1 (s5 zU) (dI [0] aF (dI [] (rE ([hU,z0]:List ByteArray) bW jZ) (dE [54,55] (gF [0] [] Tryz.func86 (K6 h32 h34 (f7 d28 ([hU,z0]:List ByteArray) (by decide)))) (dI [56] (bJ Tryz.func118 (iN fu y33 _ z35)) (dI [53] (aW.indexG (sz:=16) (k:=5) (N:=2) (i:=0) rfl rfl rfl rfl (by decide) qT) (dI [58] (aZ CB) (mZ [59,57] (bV iV) (dN ?_)))))))))))))
    refine qS (qR ?_)
    refine AL.weak (Wk.freezeE (k:=5) (sz:=16) (es:= [aD.cs (aD.mk eE ([]) x36 false ([]) (aG.mk 0 s_ s_ 0 (aB.mk 0 s_ ([])) ([]) ([]))),aD.cs (aD.mk eV ([x2]:List aB) x10 true ([d9,nZ]:List ByteArray) x21)]) (es':=aD.trs (([(aD.mk eE ([]) x36 false ([]) (aG.mk 0 s_ s_ 0 (aB.mk 0 s_ ([])) ([]) ([]))),(aD.mk eV ([x2]:List aB) x10 true ([d9,nZ]:List ByteArray) x21)]:List aD))) (s':=⟨[(0,.ptr 0 0),(2,.ptr 1 0),(4,.ptr 4 0),(40,pN ((d13.after 3).below 12))],⟨[some ⟨151,dC d31⟩,some ⟨60,[pS s_,.nil,pB false,pB false,.nil]⟩,some ⟨35,fB x2⟩,none,some ⟨60,[pS y5,.lit 1 (aX (v23)),pB false,pB (decide (d3.below 3=0)),hM ([(aD.mk eE ([]) x36 false ([]) (aG.mk 0 s_ s_ 0 (aB.mk 0 s_ ([])) ([]) ([]))),(aD.mk eV ([x2]:List aB) x10 true ([d9,nZ]:List ByteArray) x21)]:List aD)]⟩,none],[]⟩⟩) (by simp [aD.trs_map,aD.tr_cs]) rfl mD (by simp [aD.cs]) (Nat.le_of_ble_eq_true rfl) ⟨⟨rfl,c9,rfl⟩,⟨⟨rfl,c9,rfl⟩,⟨⟨rfl,c9,rfl⟩,⟨⟨rfl,c9,rfl⟩,trivial⟩⟩⟩⟩ rfl rfl (eA hC (jE rfl) (Nat.le_of_ble_eq_true rfl)) (by repeat' first|exact trivial|refine⟨⟨_,rfl,c9,rfl⟩,?_⟩)) ?_;refine q1 (c6 [pS y5,.lit 1 (aX (v23)),pB false,pB (decide (d3.below 3=0)),hM ([(aD.mk eE ([]) x36 false ([]) (aG.mk 0 s_ s_ 0 (aB.mk 0 s_ ([])) ([]) ([]))),(aD.mk eV ([x2]:List aB) x10 true ([d9,nZ]:List ByteArray) x21)]:List aD)] mU) (q1 (bV qY) (qN (aO.ret ?_)))
    obtain rfl:_=r:=(aY H:)
    exact bN (hr:=⟨⟨_,_,_,rfl,rfl,mU,rfl,rfl⟩,trivial⟩)
   refine qS (qR (q1 dP (q1 aF (qN (dT (agT g15 h30) (qR (q1 (aZ jB) (q1 (bB zU) (q1 (aW.indexG (sz:=16) (k:=5) (N:=2) (i:=0) rfl rfl rfl rfl (by decide) qT) (q1 (aZ GJ) (q1 (bV sz4) (qN (qS ?_)))))))))))))
   refine qR ?_;refine AL.weak (Wk.freezeE (k:=5) (sz:=16) (es:= [aD.cs (aD.mk eE ([]) x10 true ([]) (aG.mk 0 s_ s_ 0 (aB.mk 0 s_ ([])) ([]) ([]))),aD.cs (aD.mk eV ([x2]:List aB) x10 true ([d9,nZ]:List ByteArray) x21)]) (es':=aD.trs (([(aD.mk eE ([]) x10 true ([]) (aG.mk 0 s_ s_ 0 (aB.mk 0 s_ ([])) ([]) ([]))),(aD.mk eV ([x2]:List aB) x10 true ([d9,nZ]:List ByteArray) x21)]:List aD))) (s':=⟨[(0,.ptr 0 0),(2,.ptr 1 0),(4,.ptr 4 0),(40,pN ((d13.after 3).below 12))],⟨[some ⟨151,dC d28⟩,some ⟨60,[pS s_,.nil,pB false,pB false,.nil]⟩,some ⟨35,fB x2⟩,none,some ⟨60,[pS y5,.lit 1 (aX (v23)),pB false,pB (decide (d3.below 3=0)),hM ([(aD.mk eE ([]) x10 true ([]) (aG.mk 0 s_ s_ 0 (aB.mk 0 s_ ([])) ([]) ([]))),(aD.mk eV ([x2]:List aB) x10 true ([d9,nZ]:List ByteArray) x21)]:List aD)]⟩,none],[]⟩⟩) (by simp [aD.trs_map,aD.tr_cs]) rfl mD (by simp [aD.cs]) (Nat.le_of_ble_eq_true rfl) ⟨⟨rfl,c9,rfl⟩,⟨⟨rfl,c9,rfl⟩,⟨⟨rfl,c9,rfl⟩,⟨⟨rfl,c9,rfl⟩,trivial⟩⟩⟩⟩ rfl rfl (eA hC (jE rfl) (Nat.le_of_ble_eq_true rfl)) (by repeat' first|exact trivial|refine⟨⟨_,rfl,c9,rfl⟩,?_⟩)) ?_;refine q1 (c6 [pS y5,.lit 1 (aX (v23)),pB false,pB (decide (d3.below 3=0)),hM ([(aD.mk eE ([]) x10 true ([]) (aG.mk 0 s_ s_ 0 (aB.mk 0 s_ ([])) ([]) ([]))),(aD.mk eV ([x2]:List aB) x10 true ([d9,nZ]:List ByteArray) x21)]:List aD)] mU) (q1 (bV qY) (qN (aO.ret ?_)))
   obtain rfl:_=r:=(aY H:)
   exact bN (hr:=⟨⟨_,_,_,rfl,rfl,mU,rfl,rfl⟩,trivial⟩)
  have H:=oH H g12
  refine q1 (aW.buildSliceB (cs:= [pS eE,.nil,pI x10.gKind,pS x10.gName,a6 x10.gArgs,pB false,.nil,pI 0,pS s_,pS s_,pI 0,pI 0,pS s_,.nil,.nil,.nil]) rfl rfl qT s6 rfl rfl rfl (by decide) rfl (by decide)) (q1 (fM rY RZ) (q1 (hH rY) (q1 (bV qY) (qN ?_))))
  iterate 2 refine qS ?_
  refine qR (q1 aF (gE H fun d37 h38 H=>?_))
  have g39:=g11
  rw [← h38] at g39
  refine q1 (gF [0] [] Tryz.func112 (AN h38 (mB d7 2))) (qN (kL g12 (aO.skip (qS ?_))))
  refine oM (σ:=(List ByteArray)) (fun v40=>⟨[(0,.ptr 0 0),(2,.ptr 1 0),(4,.ptr 4 0)],⟨[some ⟨151,dC (d37.after 3)⟩,some ⟨60,[pS s_,.nil,pB false,pB false,.nil]⟩,some ⟨35,fB x2⟩,some ⟨164,[pS eE,.nil,pI x10.gKind,pS x10.gName,a6 x10.gArgs,pB false,.nil,pI 0,pS s_,pS s_,pI 0,pI 0,pS s_,.nil,.nil,.nil]⟩,some ⟨60,[pS y5,.lit 1 (aX (v40)),pB false,pB (decide (d3.below 3=0)),.bsl 3 1]⟩],[]⟩⟩) (f9 H) (fun H=>?_) ?_
  ·refine qS (qR (q1 aF (gE H fun d41 h42 H=>?_)))
   have g43:=g39
   rw [← h42] at g43
   refine q1 (gF [0] [] Tryz.func112 (AN h42 (mB d37 3))) (qN ?_)
   refine a9 H (fun h44 H=>?_) (fun h44 H=>?_)
   ·refine qR (q1 (rE ([jV]:List ByteArray) bW jZ) (q1 (aZ vE) (q1 (bV E8) (qN ?_))))
    subst h42
    exact dH ⟨_,(aY H:),bZ⟩
   refine aO.skip ?_
   subst h42
   exact dH ⟨_,(aY H:),bZ⟩
  rintro v40 H
  iterate 2 refine qS ?_
  refine qR (q1 aF (gE H fun d45 h46 H=>(q1 (gF [0] [] Tryz.func103 (AN h46 (fR (d37.after 3) 12))) (qN (aO.block (qS (qR (q1 dP (q1 aF (qN (kL (aa1 (b:=0) g39 (by decide) (by decide)) (qS (qR ?_)))))))))))))
  refine q1 dP (q1 aF (qN (kL (aa1 (b:=1) g39 (by decide) (by decide)) (qS (qR (q1 dP (q1 aF (qN ?_))))))))
  refine a9 H (fun h47 H=>?_) (fun h47 H=>?_)
  ·refine gE H fun d48 h49 H=>(gE H fun y50 h51 H=>(bO H fun x53 z52 H=>(dW (dI [4] (aZ jB) (dB [52] 0 1 (s5 zU) (dI [0] aF (dI [] (rE ([hU,z0]:List ByteArray) bW jZ) (dE [54,55] (gF [0] [] Tryz.func86 (K6 h49 h51 (f7 d45 ([hU,z0]:List ByteArray) (by decide)))) (dI [56] (bJ Tryz.func118 (iN fu y50 _ z52)) (dI [53] (aW.indexB (sz:=16) (k:=3) (N:=1) (i:=0) rfl rfl rfl rfl (by decide) qT) (dI [58] (aZ CB) (mZ [59,57] (bV iV) (dN ?_)))))))))))))
   refine qS (qR ?_)
   refine AL.weak (Wk.freezeE (k:=3) (sz:=16) (es:= [aD.cs (aD.mk eE [] x53 false [] (aG.mk 0 s_ s_ 0 (aB.mk 0 s_ []) [] []))]) (es':=aD.trs (([(aD.mk eE [] x53 false [] (aG.mk 0 s_ s_ 0 (aB.mk 0 s_ []) [] []))]:List aD))) (s':=⟨[(0,.ptr 0 0),(2,.ptr 1 0),(4,.ptr 4 0),(40,pN ((d37.after 3).below 12))],⟨[some ⟨151,dC d48⟩,some ⟨60,[pS s_,.nil,pB false,pB false,.nil]⟩,some ⟨35,fB x2⟩,none,some ⟨60,[pS y5,.lit 1 (aX (v40)),pB false,pB (decide (d3.below 3=0)),hM ([(aD.mk eE [] x53 false [] (aG.mk 0 s_ s_ 0 (aB.mk 0 s_ []) [] []))]:List aD)]⟩],[]⟩⟩) (by simp [aD.trs_map,aD.tr_cs]) rfl mD (by simp [aD.cs]) (Nat.le_of_ble_eq_true rfl) ⟨⟨rfl,c9,rfl⟩,⟨⟨rfl,c9,rfl⟩,⟨⟨rfl,c9,rfl⟩,⟨⟨rfl,c9,rfl⟩,trivial⟩⟩⟩⟩ rfl rfl (eA hC (jE rfl) (Nat.le_of_ble_eq_true rfl)) (by repeat' first|exact trivial|refine⟨⟨_,rfl,c9,rfl⟩,?_⟩)) ?_;refine q1 (c6 [pS y5,.lit 1 (aX (v40)),pB false,pB (decide (d3.below 3=0)),hM ([(aD.mk eE [] x53 false [] (aG.mk 0 s_ s_ 0 (aB.mk 0 s_ []) [] []))]:List aD)] mU) (q1 (bV qY) (qN (aO.ret ?_)))
   obtain rfl:_=r:=(aY H:)
   exact bN (hr:=⟨⟨_,_,_,rfl,rfl,mU,rfl,rfl⟩,trivial⟩)
  refine qS (qR (q1 dP (q1 aF (qN (dT (agT g39 h47) (qR (q1 (aZ jB) (q1 (bB zU) (q1 (aW.indexB (sz:=16) (k:=3) (N:=1) (i:=0) rfl rfl rfl rfl (by decide) qT) (q1 (aZ GJ) (q1 (bV sz4) (qN (qS ?_)))))))))))))
  refine qR ?_;refine AL.weak (Wk.freezeE (k:=3) (sz:=16) (es:= [aD.cs (aD.mk eE [] x10 true [] (aG.mk 0 s_ s_ 0 (aB.mk 0 s_ []) [] []))]) (es':=aD.trs (([(aD.mk eE [] x10 true [] (aG.mk 0 s_ s_ 0 (aB.mk 0 s_ []) [] []))]:List aD))) (s':=⟨[(0,.ptr 0 0),(2,.ptr 1 0),(4,.ptr 4 0),(40,pN ((d37.after 3).below 12))],⟨[some ⟨151,dC d45⟩,some ⟨60,[pS s_,.nil,pB false,pB false,.nil]⟩,some ⟨35,fB x2⟩,none,some ⟨60,[pS y5,.lit 1 (aX (v40)),pB false,pB (decide (d3.below 3=0)),hM ([(aD.mk eE [] x10 true [] (aG.mk 0 s_ s_ 0 (aB.mk 0 s_ []) [] []))]:List aD)]⟩],[]⟩⟩) (by simp [aD.trs_map,aD.tr_cs]) rfl mD (by simp [aD.cs]) (Nat.le_of_ble_eq_true rfl) ⟨⟨rfl,c9,rfl⟩,⟨⟨rfl,c9,rfl⟩,⟨⟨rfl,c9,rfl⟩,⟨⟨rfl,c9,rfl⟩,trivial⟩⟩⟩⟩ rfl rfl (eA hC (jE rfl) (Nat.le_of_ble_eq_true rfl)) (by repeat' first|exact trivial|refine⟨⟨_,rfl,c9,rfl⟩,?_⟩)) ?_;refine q1 (c6 [pS y5,.lit 1 (aX (v40)),pB false,pB (decide (d3.below 3=0)),hM ([(aD.mk eE [] x10 true [] (aG.mk 0 s_ s_ 0 (aB.mk 0 s_ []) [] []))]:List aD)] mU) (q1 (bV qY) (qN (aO.ret ?_)))
  obtain rfl:_=r:=(aY H:)
  exact bN (hr:=⟨⟨_,_,_,rfl,rfl,mU,rfl,rfl⟩,trivial⟩)
 have H:=oH H g11
 refine q1 (rC ([(aD.mk eE [] x10 false [] (aG.mk 0 s_ s_ 0 (aB.mk 0 s_ []) [] []))]:List aD) qT s6) (q1 (fM rY RZ) (q1 (hH rY) (q1 (bV qY) (qN (qS ?_)))))
 refine oM (σ:=(List aD)) (fun v55=>⟨[(0,.ptr 0 0),(2,.ptr 1 0),(4,.ptr 3 0)],⟨[some ⟨151,dC (d7.after 2)⟩,some ⟨60,[pS s_,.nil,pB false,pB false,.nil]⟩,some ⟨35,fB x2⟩,some ⟨60,[pS y5,.nil,pB false,pB (decide (d3.below 3=0)),gR v55 0]⟩],[⟨164,16,aD.trs (v55),false⟩]⟩⟩) (f9 H) (fun H=>?_) ?_
 ·refine qS (qR (q1 aF (gE H fun d56 h57 H=>?_)))
  have g58:=g11
  rw [← h57] at g58
  refine q1 (gF [0] [] Tryz.func112 (AN h57 (mB d7 2))) (qN ?_)
  refine a9 H (fun h59 H=>?_) (fun h59 H=>?_)
  ·refine bO H fun x61 z60 H=>(bO H fun x63 z62 H=>(bO H fun x65 z64 H=>(dK H fun z66 H=>(dW (dI [4] (aZ jB) (dD [17] (bB zU) (dD [3] (c6 [pI x2.gKind,pS x2.gName,a6 x2.gArgs] dL) (dI [19] (rE ([x2]:List aB) fX jO) (dI [] (bJ Tryz.func147 (rQ fu _ z9)) (dI [] (rE ([d9,nZ]:List ByteArray) bW jZ) (dI [4] (aZ y7) (dD [23] (bB e8) (dI [] (bJ Tryz.func157 (vB fu d9 _ z60)) ?_)))))))))))))
   refine dI [25] (rE ([x61]:List aG) lB jD) (dI [24,26] (fM jD vA) (dI [] (bJ Tryz.func159 (rW fu 1 _ z62)) (dI [27,28] (rE ([(aG.mk 5 y5 eE 0 (aB.mk 0 s_ []) ([x61]:List aG) []),x63]:List aG) lB jD) (dI [29] (bJ Tryz.func158 (rK fu 10 vG ([(aG.mk 5 y5 eE 0 (aB.mk 0 s_ []) ([x61]:List aG) []),x63]:List aG) _ z64)) (dI [20,21,22,30] (fM s6 aaV) (dI [31] (rE ([(aD.mk eV ([x2]:List aB) x10 true ([d9,nZ]:List ByteArray) x65)]:List aD) qT s6) (dE [18,32] (lC z66 qT ab0) (dI [4] (aZ jB) (mZ [34,33] (bV abH) (dN ?_))))))))))
   subst h57
   exact dH ⟨_,(aY H:),bZ⟩
  refine aO.skip ?_
  subst h57
  exact dH ⟨_,(aY H:),bZ⟩
 rintro v55 H
 refine qS ?_;refine oM (σ:=(List ByteArray)) (fun v67=>⟨[(0,.ptr 0 0),(2,.ptr 1 0),(4,.ptr 3 0)],⟨[some ⟨151,dC ((d7.after 2).after 3)⟩,some ⟨60,[pS s_,.nil,pB false,pB false,.nil]⟩,some ⟨35,fB x2⟩,some ⟨60,[pS y5,.lit 1 (aX (v67)),pB false,pB (decide (d3.below 3=0)),gR v55 0]⟩],[⟨164,16,aD.trs (v55),false⟩]⟩⟩) (f9 H) (fun H=>?_) ?_
 ·refine qS (qR (q1 aF (gE H fun d68 h69 H=>?_)))
  have g70:=g11
  rw [← h69] at g70
  refine q1 (gF [0] [] Tryz.func112 (AN h69 (mB (d7.after 2) 3))) (qN ?_)
  refine a9 H (fun h71 H=>?_) (fun h71 H=>?_)
  ·refine qR (q1 (rE ([jV]:List ByteArray) bW jZ) (q1 (aZ vE) (q1 (bV E8) (qN ?_))))
   subst h69
   exact dH ⟨_,(aY H:),bZ⟩
  refine aO.skip ?_
  subst h69
  exact dH ⟨_,(aY H:),bZ⟩
 rintro v67 H
 iterate 2 refine qS ?_
 refine qR (q1 aF (gE H fun d72 h73 H=>(q1 (gF [0] [] Tryz.func103 (AN h73 (fR ((d7.after 2).after 3) 12))) (qN (aO.block (qS (qR (q1 dP (q1 aF (qN ?_))))))))))
 refine a9 H (fun h74 H=>?_) (fun h74 H=>?_)
 ·refine qR (q1 (aZ Y4) (q1 (bV sz4) (qN (qS (qR (q1 (c6 [pS y5,.lit 1 (aX (v67)),pB true,pB (decide (d3.below 3=0)),gR v55 0] mU) (q1 (bV qY) (qN (aO.ret ?_)))))))))
  obtain rfl:_=r:=(aY H:)
  exact bN (hr:=⟨⟨_,_,_,rfl,rfl,mU,rfl,rfl⟩,trivial⟩)
 refine qS (qR (q1 dP (q1 aF (qN ?_))))
 refine a9 H (fun h75 H=>?_) (fun h75 H=>?_)
 ·refine qR (q1 aF (q1 (rE ([s_,e7,s_A]:List ByteArray) bW jZ) (gE H fun d76 h77 H=>(gE H fun y78 h79 H=>(q1 (gF [0] [] Tryz.func86 (K6 h77 h79 (f7 d72 ([s_,e7,s_A]:List ByteArray) (by decide)))) (q1 (aZ y7) (q1 (bV sz9) (qN (qS (qR (q1 (c6 [pS y78,.lit 1 (aX (v67)),pB false,pB (decide (d3.below 3=0)),gR v55 0] mU) (q1 (bV qY) (qN ?_)))))))))))))
  refine aO.ret ?_
  obtain rfl:_=r:=(aY H:)
  exact bN (hr:=⟨⟨_,_,_,rfl,rfl,mU,rfl,rfl⟩,trivial⟩)
 refine qS (qR (q1 dP (q1 aF (qN (kL (ah6 g11) (qS (qR (q1 dP (q1 aF (qN (kL (aiR g11) (qS (qR ?_)))))))))))))
 refine q1 dP (q1 aF (qN ?_))
 refine a9 H (fun h80 H=>?_) (fun h80 H=>?_)
 ·refine qR (q1 (aZ vE) (q1 (bB jM) (q1 (rE ([jV]:List ByteArray) bW jZ) (dK H fun z81 H=>?_))))
  refine q1 (aW.appendLit (es1:=aX (v67)) (es2:=aX (([jV]:List ByteArray))) (es3:=aX (v67++([jV]:List ByteArray))) rfl rfl rfl rfl rfl (nQ _) (nQ _) (by exact List.cons_ne_nil _ _) (by decide) bW oT (by decide) (by rw [bE,bE];exact vV z81 (by decide)) (sJ _ _)) ?_;refine q1 (aZ vE) (q1 (bV E8) (qN (qS (qR (q1 (c6 [pS y5,rS (v67++([jV]:List ByteArray)),pB false,pB (decide (d3.below 3=0)),gR v55 0] mU) (q1 (bV qY) (qN (aO.ret ?_))))))))
  obtain rfl:_=r:=(aY H:)
  exact bN (hr:=⟨⟨_,_,_,rfl,rfl,mU,rfl,rfl⟩,trivial⟩)
 refine qS (qR (q1 dP (q1 aF (qN ?_))))
 refine a9 H (fun h82 H=>?_) (fun h82 H=>?_)
 ·refine dK H fun z83 H=>(gE H fun y84 h85 H=>(dK H fun z86 H=>(dW (dI [4] (aZ jB) (dD [75] (bB zU) (dI [4] (aZ jB) (dD [77] (bB zU) (dI [78] (pA h85 z83 qT) (dI [79] (j7 (aD.cs y84) JV) (dI [80] (rE ([y84]:List aD) qT s6) (dE [76,81] (lC z86 qT ab0) (dI [4] (aZ jB) (mZ [83,82] (bV abH) ?_)))))))))))))
  refine dN (qS (qR (q1 (c6 [pS y5,.lit 1 (aX (v67)),pB false,pB (decide (d3.below 3=0)),gR (v55++([y84]:List aD)) 0] mU) (q1 (bV qY) (qN (aO.ret ?_))))))
  obtain rfl:_=r:=(aY H:)
  exact bN (hr:=⟨⟨_,_,_,rfl,rfl,mU,rfl,rfl⟩,trivial⟩)
 refine aO.skip (qS (qR (q1 (c6 [pS y5,.lit 1 (aX (v67)),pB false,pB (decide (d3.below 3=0)),gR v55 0] mU) (q1 (bV qY) (qN (aO.ret ?_))))))
 obtain rfl:_=r:=(aY H:)
 exact bN (hr:=⟨⟨_,_,_,rfl,rfl,mU,rfl,rfl⟩,trivial⟩)
def YI(m:DS→Option (aI×DS)):Prop:= ∀(pc:DS) (r:aI×DS),m pc=some r→dG Tryz.prog 168 [.ptr 0 0] ⟨[some ⟨151,dC pc⟩],[]⟩ (fun q t=>q=((aI.pv r.1):PV)∧t=⟨[some ⟨151,dC r.2⟩],[]⟩)
def FS(fu:Nat)(pc:DS):Option (aI×DS):=
 bd (lL fu fU) (fun x2=>
 bd (iX fu cR ([x2]:List aB)) (fun x4=>
 lt (pc.after 10) (fun d5=>
 sw (decide ((((pc.below 10:Nat):Int):Int)=0))
 (lt (d5.after ([fU,z0]:List ByteArray).length) (fun d8=>
 lt (d5.pick ([fU,z0]:List ByteArray)) (fun y10=>
 gd ((([fU]:List ByteArray)).length+(([y10]:List ByteArray)).length≤68719476736)
 (some ((aI.mk cR (([fU]:List ByteArray)++([y10]:List ByteArray)) ([(aC.mk fA []),(aC.mk cD ([x2,x4]:List aB))]:List aC)),d8)))))
 (sw (decide ((((pc.below 10:Nat):Int):Int)=1))
 (lt (d5.after 2) (fun d14=>
 gd ((0:Int)≤0∧(0:Int)≤((d5.below 2:Nat):Int)∧(((d5.below 2:Nat):Int):Int)≤((([(aC.mk fA []),(aC.mk cD ([x2,x4]:List aB))]:List aC).length:Nat):Int))
 (some ((aI.mk cR ([fU]:List ByteArray) (List.drop (0:Int).toNat (List.take (((d5.below 2:Nat):Int):Int).toNat ([(aC.mk fA []),(aC.mk cD ([x2,x4]:List aB))]:List aC)))),d14))))
 (sw (decide ((((pc.below 10:Nat):Int):Int)=2))
 (bd (sG fu d5 2) (fun(x19,x20)=>
 some ((aI.mk cR ([fU]:List ByteArray) ([(aC.mk fA ([x19]:List aB)),(aC.mk cD ([x2,x4]:List aB))]:List aC)),x20)))
 (sw (decide ((((pc.below 10:Nat):Int):Int)=3))
 (lt (d5.after ([cD,s_,NE]:List ByteArray).length) (fun d22=>
 lt (d5.pick ([cD,s_,NE]:List ByteArray)) (fun y24=>
 some ((aI.mk cR ([fU]:List ByteArray) ([(aC.mk y24 []),(aC.mk cD ([x2,x4]:List aB))]:List aC)),d22))))
 (some ((aI.mk cR ([fU]:List ByteArray) ([(aC.mk fA []),(aC.mk cD ([x2,x4]:List aB))]:List aC)),d5))))))))
theorem T3(fu:Nat):YI (FS fu):=by
 intro pc r H
 have H:=fC H
 refine qI Tryz.func168 (fun C hC=>?_)
 refine qS (qR (q1 (hH qF) (qN (qS (qR (q1 (rE ([fU]:List ByteArray) bW jZ) (q1 (fM T5 aeU) (bO H fun x2 z1 H=>?_))))))))
 iterate 2 refine q1 (bJ Tryz.func118 (iN fu fU _ z1)) ?_
 refine q1 (rE ([x2]:List aB) fX jO) (bO H fun x4 z3 H=>(q1 (bJ Tryz.func85 (iM fu cR ([x2]:List aB) _ z3)) (q1 (rE ([x2,x4]:List aB) fX jO) (q1 (fM T5 aeU) (q1 (aW.buildSliceB (cs:= [pS fA,.nil,pS cD,.lit 3 (aB.trs (([x2,x4]:List aB)))]) rfl rfl tX T5 rfl rfl rfl (by decide) rfl (by decide)) (q1 (fM qF MN) (q1 (hH qF) (q1 (bV qU) (qN ?_)))))))))
 iterate 2 refine qS ?_
 refine qR (q1 aF (gE H fun d5 h6 H=>(q1 (gF [0] [] Tryz.func103 (AN h6 (fR pc 10))) (qN (aO.block (qS (qR (q1 dP (q1 aF (qN ?_))))))))))
 refine a9 H (fun h7 H=>?_) (fun h7 H=>?_)
 ·refine gE H fun d8 h9 H=>(gE H fun y10 h11 H=>(dK H fun z12 H=>(dW (dI [3] (aZ GH) (dB [18] 0 1 (s5 jM) (dI [0] aF (dI [] (rE ([fU,z0]:List ByteArray) bW jZ) (dE [20,21] (gF [0] [] Tryz.func86 (K6 h9 h11 (f7 d5 ([fU,z0]:List ByteArray) (by decide)))) (dI [22] (rE ([y10]:List ByteArray) bW jZ) ?_)))))))))
  refine dI [19,23] (aW.appendLit (es1:=aX (([fU]:List ByteArray))) (es2:=aX (([y10]:List ByteArray))) (es3:=aX (([fU]:List ByteArray)++([y10]:List ByteArray))) rfl rfl rfl rfl rfl (nQ _) (nQ _) (by exact List.cons_ne_nil _ _) (by decide) bW oT (by decide) (by rw [bE,bE];exact vV z12 (by decide)) (sJ _ _)) ?_;refine dI [3] (aZ GH) (mZ [25,24] (bV E8) (dN (qS (qR ?_))))
  refine AL.weak (Wk.freezeE (k:=2) (sz:=2) (es:= [aC.cs (aC.mk fA []),aC.cs (aC.mk cD ([x2,x4]:List aB))]) (es':=aC.trs (([(aC.mk fA []),(aC.mk cD ([x2,x4]:List aB))]:List aC))) (s':=⟨[(0,.ptr 0 0),(2,.ptr 1 0),(3,.ptr 3 0),(15,pN (pc.below 10))],⟨[some ⟨151,dC d8⟩,some ⟨116,[pS s_,.nil,.nil]⟩,none,some ⟨116,[pS cR,rS (([fU]:List ByteArray)++([y10]:List ByteArray)),eF ([(aC.mk fA []),(aC.mk cD ([x2,x4]:List aB))]:List aC)]⟩],[]⟩⟩) (by simp [aC.trs_map,aC.tr_cs]) rfl mD (by simp [aC.cs]) (Nat.le_of_ble_eq_true rfl) ⟨⟨rfl,c9,rfl⟩,⟨⟨rfl,c9,rfl⟩,⟨⟨rfl,c9,rfl⟩,trivial⟩⟩⟩ rfl rfl (eA hC (jE rfl) (Nat.le_of_ble_eq_true rfl)) (by repeat' first|exact trivial|refine⟨⟨_,rfl,c9,rfl⟩,?_⟩)) ?_;refine q1 (c6 [pS cR,rS (([fU]:List ByteArray)++([y10]:List ByteArray)),eF ([(aC.mk fA []),(aC.mk cD ([x2,x4]:List aB))]:List aC)] lT) (q1 (bV qU) (qN (aO.ret ?_)))
  obtain rfl:_=r:=(aY H:)
  exact bN (hr:=⟨⟨_,_,_,rfl,rfl,lT,rfl,rfl⟩,trivial⟩)
 refine qS (qR (q1 dP (q1 aF (qN ?_))))
 refine a9 H (fun h13 H=>?_) (fun h13 H=>?_)
 ·refine gE H fun d14 h15 H=>?_;refine aO.wk (Wk.freezeE (k:=2) (sz:=2) (es:= [aC.cs (aC.mk fA []),aC.cs (aC.mk cD ([x2,x4]:List aB))]) (es':=aC.trs (([(aC.mk fA []),(aC.mk cD ([x2,x4]:List aB))]:List aC))) (s':=⟨[(0,.ptr 0 0),(2,.ptr 1 0),(3,.ptr 3 0),(4,.lit 1 (aX (([fU]:List ByteArray)))),(5,.agg [pS fA,.nil]),(6,(aB.pv x2)),(7,(aB.pv x2)),(8,.lit 3 (aB.trs (([x2]:List aB)))),(9,(aB.pv x4)),(10,.lit 3 (aB.trs (([x2,x4]:List aB)))),(11,.agg [pS cD,.lit 3 (aB.trs (([x2,x4]:List aB)))]),(12,eF ([(aC.mk fA []),(aC.mk cD ([x2,x4]:List aB))]:List aC)),(13,.agg [pS cR,.lit 1 (aX (([fU]:List ByteArray))),eF ([(aC.mk fA []),(aC.mk cD ([x2,x4]:List aB))]:List aC)]),(14,.ptr 0 0),(15,pN (pc.below 10)),(16,pB (decide ((((pc.below 10:Nat):Int):Int)=0))),(17,pB (decide ((((pc.below 10:Nat):Int):Int)=0))),(26,pB (decide ((((pc.below 10:Nat):Int):Int)=1))),(27,pB (decide ((((pc.below 10:Nat):Int):Int)=1)))],⟨[some ⟨151,dC d5⟩,some ⟨116,[pS s_,.nil,.nil]⟩,none,some ⟨116,[pS cR,.lit 1 (aX (([fU]:List ByteArray))),eF ([(aC.mk fA []),(aC.mk cD ([x2,x4]:List aB))]:List aC)]⟩],[]⟩⟩) (by simp [aC.trs_map,aC.tr_cs]) rfl mD (by simp [aC.cs]) (Nat.le_of_ble_eq_true rfl) ⟨⟨rfl,c9,rfl⟩,⟨⟨rfl,c9,rfl⟩,⟨⟨rfl,c9,rfl⟩,trivial⟩⟩⟩ rfl rfl (eA hC (jE rfl) (Nat.le_of_ble_eq_true rfl)) (by repeat' first|exact trivial|refine⟨⟨_,rfl,c9,rfl⟩,?_⟩)) ?_;refine dK H fun z16 H=>(dW (dI [3] (aZ lD) (dB [28] 0 1 (s5 vN) (dI [0] aF (dE [30] (gF [0] [] Tryz.func103 (AN h15 (fR d5 2))) ?_)))))
  refine dI [29,31] (aW.congrP (aW.sliceR (es:=aC.trs (([(aC.mk fA []),(aC.mk cD ([x2,x4]:List aB))]:List aC))) (l:=0) (k:=((d5.below 2:Nat):Int)) rfl rfl rfl rfl rfl (by rw [aC.trs_len];exact rfl) (by rw [aC.trs_len];exact z16) tX) (aC.trs_part _ _ _)) ?_;refine dI [3] (aZ lD) (mZ [33,32] (bV agK) (dN (qS (qR (q1 (c6 [pS cR,.lit 1 (aX (([fU]:List ByteArray))),eF (List.drop (0:Int).toNat (List.take (((d5.below 2:Nat):Int):Int).toNat ([(aC.mk fA []),(aC.mk cD ([x2,x4]:List aB))]:List aC)))] lT) (q1 (bV qU) (qN (aO.ret ?_))))))))
  obtain rfl:_=r:=(aY H:)
  exact bN (hr:=⟨⟨_,_,_,rfl,rfl,lT,rfl,rfl⟩,trivial⟩)
 refine qS (qR (q1 dP (q1 aF (qN ?_))))
 refine a9 H (fun h17 H=>?_) (fun h17 H=>?_)
 ·refine f8 H fun x19 x20 z18 H=>(dW (dI [3] (aZ lD) (dB [36] 0 1 (s5 vN) (dI [0] aF (dE [38] (gF [0] [] Tryz.func87 (u4 fu d5 2 _ z18)) (dI [39] (rE ([x19]:List aB) fX jO) (dI [37] (aW.indexB (sz:=2) (k:=2) (N:=2) (i:=0) rfl rfl rfl rfl (by decide) tX) (dI [41] (aZ G5) (mZ [42,40] (bV ah2) (dN (qS (qR ?_))))))))))))
  refine AL.weak (Wk.freezeE (k:=2) (sz:=2) (es:= [aC.cs (aC.mk fA ([x19]:List aB)),aC.cs (aC.mk cD ([x2,x4]:List aB))]) (es':=aC.trs (([(aC.mk fA ([x19]:List aB)),(aC.mk cD ([x2,x4]:List aB))]:List aC))) (s':=⟨[(0,.ptr 0 0),(2,.ptr 1 0),(3,.ptr 3 0),(15,pN (pc.below 10))],⟨[some ⟨151,dC x20⟩,some ⟨116,[pS s_,.nil,.nil]⟩,none,some ⟨116,[pS cR,.lit 1 (aX (([fU]:List ByteArray))),eF ([(aC.mk fA ([x19]:List aB)),(aC.mk cD ([x2,x4]:List aB))]:List aC)]⟩],[]⟩⟩) (by simp [aC.trs_map,aC.tr_cs]) rfl mD (by simp [aC.cs]) (Nat.le_of_ble_eq_true rfl) ⟨⟨rfl,c9,rfl⟩,⟨⟨rfl,c9,rfl⟩,⟨⟨rfl,c9,rfl⟩,trivial⟩⟩⟩ rfl rfl (eA hC (jE rfl) (Nat.le_of_ble_eq_true rfl)) (by repeat' first|exact trivial|refine⟨⟨_,rfl,c9,rfl⟩,?_⟩)) ?_;refine q1 (c6 [pS cR,.lit 1 (aX (([fU]:List ByteArray))),eF ([(aC.mk fA ([x19]:List aB)),(aC.mk cD ([x2,x4]:List aB))]:List aC)] lT) (q1 (bV qU) (qN (aO.ret ?_)))
  obtain rfl:_=r:=(aY H:)
  exact bN (hr:=⟨⟨_,_,_,rfl,rfl,lT,rfl,rfl⟩,trivial⟩)
 refine qS (qR (q1 dP (q1 aF (qN ?_))))
 refine a9 H (fun h21 H=>?_) (fun h21 H=>?_)
 ·refine gE H fun d22 h23 H=>(gE H fun y24 h25 H=>(dW (dI [3] (aZ lD) (dB [45] 0 1 (s5 vN) (dI [0] aF (dI [] (rE ([cD,s_,NE]:List ByteArray) bW jZ) (dE [47,48] (gF [0] [] Tryz.func86 (K6 h23 h25 (f7 d5 ([cD,s_,NE]:List ByteArray) (by decide)))) (dI [46] (aW.indexB (sz:=2) (k:=2) (N:=2) (i:=0) rfl rfl rfl rfl (by decide) tX) (dI [50] (aZ LU) (mZ [51,49] (bV sz9) (dN (qS (qR ?_)))))))))))))
  refine AL.weak (Wk.freezeE (k:=2) (sz:=2) (es:= [aC.cs (aC.mk y24 []),aC.cs (aC.mk cD ([x2,x4]:List aB))]) (es':=aC.trs (([(aC.mk y24 []),(aC.mk cD ([x2,x4]:List aB))]:List aC))) (s':=⟨[(0,.ptr 0 0),(2,.ptr 1 0),(3,.ptr 3 0),(15,pN (pc.below 10))],⟨[some ⟨151,dC d22⟩,some ⟨116,[pS s_,.nil,.nil]⟩,none,some ⟨116,[pS cR,.lit 1 (aX (([fU]:List ByteArray))),eF ([(aC.mk y24 []),(aC.mk cD ([x2,x4]:List aB))]:List aC)]⟩],[]⟩⟩) (by simp [aC.trs_map,aC.tr_cs]) rfl mD (by simp [aC.cs]) (Nat.le_of_ble_eq_true rfl) ⟨⟨rfl,c9,rfl⟩,⟨⟨rfl,c9,rfl⟩,⟨⟨rfl,c9,rfl⟩,trivial⟩⟩⟩ rfl rfl (eA hC (jE rfl) (Nat.le_of_ble_eq_true rfl)) (by repeat' first|exact trivial|refine⟨⟨_,rfl,c9,rfl⟩,?_⟩)) ?_;refine q1 (c6 [pS cR,.lit 1 (aX (([fU]:List ByteArray))),eF ([(aC.mk y24 []),(aC.mk cD ([x2,x4]:List aB))]:List aC)] lT) (q1 (bV qU) (qN (aO.ret ?_)))
  obtain rfl:_=r:=(aY H:)
  exact bN (hr:=⟨⟨_,_,_,rfl,rfl,lT,rfl,rfl⟩,trivial⟩)
 refine aO.skip (qS (qR ?_))
 refine AL.weak (Wk.freezeE (k:=2) (sz:=2) (es:= [aC.cs (aC.mk fA []),aC.cs (aC.mk cD ([x2,x4]:List aB))]) (es':=aC.trs (([(aC.mk fA []),(aC.mk cD ([x2,x4]:List aB))]:List aC))) (s':=⟨[(0,.ptr 0 0),(2,.ptr 1 0),(3,.ptr 3 0),(15,pN (pc.below 10))],⟨[some ⟨151,dC d5⟩,some ⟨116,[pS s_,.nil,.nil]⟩,none,some ⟨116,[pS cR,.lit 1 (aX (([fU]:List ByteArray))),eF ([(aC.mk fA []),(aC.mk cD ([x2,x4]:List aB))]:List aC)]⟩],[]⟩⟩) (by simp [aC.trs_map,aC.tr_cs]) rfl mD (by simp [aC.cs]) (Nat.le_of_ble_eq_true rfl) ⟨⟨rfl,c9,rfl⟩,⟨⟨rfl,c9,rfl⟩,⟨⟨rfl,c9,rfl⟩,trivial⟩⟩⟩ rfl rfl (eA hC (jE rfl) (Nat.le_of_ble_eq_true rfl)) (by repeat' first|exact trivial|refine⟨⟨_,rfl,c9,rfl⟩,?_⟩)) ?_;refine q1 (c6 [pS cR,.lit 1 (aX (([fU]:List ByteArray))),eF ([(aC.mk fA []),(aC.mk cD ([x2,x4]:List aB))]:List aC)] lT) (q1 (bV qU) (qN (aO.ret ?_)))
 obtain rfl:_=r:=(aY H:)
 exact bN (hr:=⟨⟨_,_,_,rfl,rfl,lT,rfl,rfl⟩,trivial⟩)
end
end Go.Proofs.YtpioomclpaiomaaGreat.W

namespace Go.Proofs.YtpioomclpaiomaaGreat.W
set_option maxRecDepth 100000
set_option maxHeartbeats 40000000
noncomputable section
open Go.RowKit Go.Proofs
set_option linter.unusedSimpArgs false
set_option linter.unusedVariables false
attribute [local irreducible] lt
def acK(m:DS→Option (aK×DS)):Prop:= ∀(pq0:DS) (r:aK×DS),m pq0=some r→dG Tryz.prog 117 [.ptr 0 0] ⟨[some ⟨151,dC pq0⟩],[]⟩ (fun q t=>q=((aK.pv r.1):PV)∧t=⟨[some ⟨151,dC r.2⟩],[]⟩)
def aaB(fu:Nat)(pq0 d1:DS):Nat→((List aP)×(List aI)×(List aH)×(List aL)×DS)→Option (LR ((List aP)×(List aI)×(List aH)×(List aL)×DS) (aK×DS)):=
 fun i3 (v9,v10,v11,v12,v4)=>lt (v4.after 4) (fun d15=>
 sw (decide ((((v4.below 4:Nat):Int):Int)=0))
 (bd (BB fu d15) (fun(x19,x20)=>
 gd ((v9).length+(([x19]:List aP)).length≤68719476736)
 (some (.next ((v9++([x19]:List aP)),v10,v11,v12,x20)))))
 (sw (decide ((((v4.below 4:Nat):Int):Int)=1))
 (bd (FS fu d15) (fun(x24,x25)=>
 gd ((v10).length+(([x24]:List aI)).length≤68719476736)
 (some (.next (v9,(v10++([x24]:List aI)),v11,v12,x25)))))
 (sw (decide ((((v4.below 4:Nat):Int):Int)=2))
 (bd (D7 fu d15) (fun(x29,x30)=>
 gd ((v11).length+(([x29]:List aH)).length≤68719476736)
 (some (.next (v9,v10,(v11++([x29]:List aH)),v12,x30)))))
 (bd (L7 fu d15) (fun(x33,x34)=>
 gd ((v12).length+(([x33]:List aL)).length≤68719476736)
 (some (.next (v9,v10,v11,(v12++([x33]:List aL)),x34))))))))
def Z2(fu:Nat)(pq0 d1:DS):Option ((aK×DS)⊕((List aP)×(List aI)×(List aH)×(List aL)×DS)):=
 loopN (aaB fu pq0 d1) (pq0.below 5-0) 0 (([]),([]),([]),([]),d1)
def IF(fu:Nat)(pq0:DS):Option (aK×DS):=
 lt (pq0.after 5) (fun d1=>
 so (Z2 fu pq0 d1) (fun(v9,v10,v11,v12,v4)=>
 lt (v4.after 10) (fun d36=>
 sw (decide ((((v4.below 10:Nat):Int):Int)=0))
 (lt (d36.after ([s_,fK]:List ByteArray).length) (fun d39=>
 lt (d36.pick ([s_,fK]:List ByteArray)) (fun y41=>
 some ((aK.mk y41 ([fK]:List ByteArray) v9 v10 v11 v12),d39))))
 (sw (decide ((((v4.below 10:Nat):Int):Int)=1))
 (lt (d36.after ([fK,s_q,XN]:List ByteArray).length) (fun d44=>
 lt (d36.pick ([fK,s_q,XN]:List ByteArray)) (fun y46=>
 gd ((([fK]:List ByteArray)).length+(([y46]:List ByteArray)).length≤68719476736)
 (some ((aK.mk XN (([fK]:List ByteArray)++([y46]:List ByteArray)) v9 v10 v11 v12),d44)))))
 (some ((aK.mk XN ([fK]:List ByteArray) v9 v10 v11 v12),d36))))))
theorem aaO(fu:Nat):acK (IF fu):=by
 intro pq0 r H
 have H:=fC H
 refine qI Tryz.func117 (fun C hC=>?_)
 refine qS (qR (q1 (hH o5) (qN (qS (qR (q1 (rE ([fK]:List ByteArray) bW jZ) (q1 (fM o5 DP) (q1 (hH o5) (q1 (bV qV) (qN (qS (qR (q1 aF ?_)))))))))))))
 refine gE H fun d1 h2 H=>(q1 (gF [0] [] Tryz.func103 (AN h2 (fR pq0 5))) (q1 aF (qN ?_)))
 iterate 2 refine qS ?_
 refine qR (q1 aF (qN (aO.wk (Wk.regBox (k:=2) (j:=2) 60 5 (by decide) rfl rfl) (aO.wk (Wk.regBox (k:=2) (j:=3) 116 3 (by decide) rfl rfl) (aO.wk (Wk.regBox (k:=2) (j:=4) 55 12 (by decide) rfl rfl) (aO.wk (Wk.regBox (k:=2) (j:=5) 148 16 (by decide) rfl rfl) ?_))))))
 have hb13:=DS.below_lt (d:=pq0) (n:=5) (by decide)
 refine cG (σ:=(List aP)×(List aI)×(List aH)×(List aL)×DS) (fun i3 (v9,v10,v11,v12,v4)=>⟨[(0,.ptr 0 0),(2,.ptr 1 0),(3,.ptr 2 0),(4,pN (pq0.below 5)),(5,pN i3)],⟨[some ⟨151,dC v4⟩,some ⟨131,[pS s_,.nil,.nil,.nil,.nil,.nil]⟩,some ⟨131,[pS XN,.lit 1 (aX (([fK]:List ByteArray))),u7 v9 0,lS v10 1,lJ v11 2,lM v12 3]⟩],[⟨60,5,aP.trs (v9),false⟩,⟨116,3,aI.trs (v10),false⟩,⟨55,12,aH.trs (v11),false⟩,⟨148,16,aL.trs (v12),false⟩]⟩⟩) (fun(v9,v10,v11,v12,v4)=>⟨[(0,.ptr 0 0),(2,.ptr 1 0),(3,.ptr 2 0)],⟨[some ⟨151,dC v4⟩,some ⟨131,[pS s_,.nil,.nil,.nil,.nil,.nil]⟩,some ⟨131,[pS XN,.lit 1 (aX (([fK]:List ByteArray))),u7 v9 0,lS v10 1,lJ v11 2,lM v12 3]⟩],[⟨60,5,aP.trs (v9),false⟩,⟨116,3,aI.trs (v10),false⟩,⟨55,12,aH.trs (v11),false⟩,⟨148,16,aL.trs (v12),false⟩]⟩⟩) (f9 H) ?_ ?_
 ·rintro i3 ⟨v9,v10,v11,v12,v4⟩ H
  iterate 2 refine qS ?_
  refine qR ?_
  iterate 2 refine q1 aF ?_
  refine q1 gU (qN ?_)
  refine eJ H (fun h14 h14l H=>?_) (fun h14 H=>?_)
  ·have h14n:i3<pq0.below 5:=by have:=of_decide_eq_true h14;omega
   refine aO.skip (qS (aO.block (qS (qR (q1 aF (gE H fun d15 h16 H=>(q1 (gF [0] [] Tryz.func103 (AN h16 (fR v4 4))) (qN (aO.block (qS (qR (q1 dP (q1 aF ?_)))))))))))))
   refine qN ?_;refine a9 H (fun h17 H=>?_) (fun h17 H=>?_)
   ·refine f8 H fun x19 x20 z18 H=>(dK H fun z21 H=>(dW (dI [3] (aZ n4) (dB [26] 0 1 (s5 AC) (dI [0] aF (dE [28] (gF [0] [] Tryz.func167 (Q9 fu d15 _ z18)) (dI [29] (rE ([x19]:List aP) vU rY) (dE [27,30] (lC z21 vU agH) (dI [3] (aZ n4) (mZ [32,31] (bV agE) (dN (qR (q1 aF ?_)))))))))))))
    refine q1 (aW.addI rfl rfl rfl rfl (c:=((i3+1:Nat):Int)) (by omega) (by omega)) (q1 aF (qN ?_))
    exact jA h14l ⟨_,(aY H:),bZ⟩
   refine qS (qR (q1 dP (q1 aF (qN ?_))))
   refine a9 H (fun h22 H=>?_) (fun h22 H=>?_)
   ·refine f8 H fun x24 x25 z23 H=>(dK H fun z26 H=>(dW (dI [3] (aZ lX) (dB [35] 0 1 (s5 xA) (dI [0] aF (dE [37] (gF [0] [] Tryz.func168 (T3 fu d15 _ z23)) (dI [38] (rE ([x24]:List aI) t0 qF) (dE [36,39] (lC z26 t0 agR) (dI [3] (aZ lX) (mZ [41,40] (bV agJ) (dN (qR (q1 aF ?_)))))))))))))
    refine q1 (aW.addI rfl rfl rfl rfl (c:=((i3+1:Nat):Int)) (by omega) (by omega)) (q1 aF (qN ?_))
    exact jA h14l ⟨_,(aY H:),bZ⟩
   refine qS (qR (q1 dP (q1 aF (qN ?_))))
   refine a9 H (fun h27 H=>?_) (fun h27 H=>?_)
   ·refine f8 H fun x29 x30 z28 H=>(dK H fun z31 H=>(dW (dI [3] (aZ n3) (dB [44] 0 1 (s5 AA) (dI [0] aF (dE [46] (gF [0] [] Tryz.func169 (T6 fu d15 _ z28)) (dI [47] (rE ([x29]:List aH) wS sZ) (dE [45,48] (lC z31 wS agN) (dI [3] (aZ n3) (mZ [50,49] (bV agP) (dN (qR (q1 aF ?_)))))))))))))
    refine q1 (aW.addI rfl rfl rfl rfl (c:=((i3+1:Nat):Int)) (by omega) (by omega)) (q1 aF (qN ?_))
    exact jA h14l ⟨_,(aY H:),bZ⟩
   refine f8 H fun x33 x34 z32 H=>(dK H fun z35 H=>(dW (dI [3] (aZ t1) (dB [17] 0 1 (s5 NV) (dI [0] aF (dE [19] (gF [0] [] Tryz.func170 (adA fu d15 _ z32)) (dI [20] (rE ([x33]:List aL) GA zI) (dE [18,21] (lC z35 GA agQ) (dI [3] (aZ t1) (mZ [23,22] (bV agG) (dN (qR (q1 aF ?_)))))))))))))
   refine q1 (aW.addI rfl rfl rfl rfl (c:=((i3+1:Nat):Int)) (by omega) (by omega)) (q1 aF (qN ?_))
   exact jA h14l ⟨_,(aY H:),bZ⟩
  refine aO.exit ?_;exact k7 ⟨_,H,bZ⟩
 rintro⟨v9,v10,v11,v12,v4⟩ H
 iterate 2 refine qS ?_
 refine qR (q1 aF (gE H fun d36 h37 H=>(q1 (gF [0] [] Tryz.func103 (AN h37 (fR v4 10))) (qN (aO.block (qS (qR (q1 dP (q1 aF (qN ?_))))))))))
 refine a9 H (fun h38 H=>?_) (fun h38 H=>?_)
 ·refine qR (q1 aF (q1 (rE ([s_,fK]:List ByteArray) bW jZ) (gE H fun d39 h40 H=>(gE H fun y41 h42 H=>(q1 (gF [0] [] Tryz.func86 (K6 h40 h42 (f7 d36 ([s_,fK]:List ByteArray) (by decide)))) (q1 (aZ Q7) (q1 (bV sz9) (qN (qS (qR (q1 (c6 [pS y41,.lit 1 (aX (([fK]:List ByteArray))),u7 v9 0,lS v10 1,lJ v11 2,lM v12 3] nE) (q1 (bV qV) (qN ?_)))))))))))))
  refine aO.ret ?_
  obtain rfl:_=r:=(aY H:)
  exact bN (hr:=⟨⟨_,_,_,rfl,rfl,nE,rfl,rfl⟩,trivial⟩)
 refine qS (qR (q1 dP (q1 aF (qN ?_))))
 refine a9 H (fun h43 H=>?_) (fun h43 H=>?_)
 ·refine gE H fun d44 h45 H=>(gE H fun y46 h47 H=>(dK H fun z48 H=>(dW (dI [3] (aZ LH) (dB [61] 0 1 (s5 jM) (dI [0] aF (dI [] (rE ([fK,s_q,XN]:List ByteArray) bW jZ) (dE [63,64] (gF [0] [] Tryz.func86 (K6 h45 h47 (f7 d36 ([fK,s_q,XN]:List ByteArray) (by decide)))) (dI [65] (rE ([y46]:List ByteArray) bW jZ) ?_)))))))))
  refine dI [62,66] (aW.appendLit (es1:=aX (([fK]:List ByteArray))) (es2:=aX (([y46]:List ByteArray))) (es3:=aX (([fK]:List ByteArray)++([y46]:List ByteArray))) rfl rfl rfl rfl rfl (nQ _) (nQ _) (by exact List.cons_ne_nil _ _) (by decide) bW oT (by decide) (by rw [bE,bE];exact vV z48 (by decide)) (sJ _ _)) ?_;refine dI [3] (aZ LH) (mZ [68,67] (bV E8) (dN (qS (qR (q1 (c6 [pS XN,rS (([fK]:List ByteArray)++([y46]:List ByteArray)),u7 v9 0,lS v10 1,lJ v11 2,lM v12 3] nE) (q1 (bV qV) (qN (aO.ret ?_))))))))
  obtain rfl:_=r:=(aY H:)
  exact bN (hr:=⟨⟨_,_,_,rfl,rfl,nE,rfl,rfl⟩,trivial⟩)
 refine aO.skip (qS (qR (q1 (c6 [pS XN,.lit 1 (aX (([fK]:List ByteArray))),u7 v9 0,lS v10 1,lJ v11 2,lM v12 3] nE) (q1 (bV qV) (qN (aO.ret ?_))))))
 obtain rfl:_=r:=(aY H:)
 exact bN (hr:=⟨⟨_,_,_,rfl,rfl,nE,rfl,rfl⟩,trivial⟩)
def VM(m:DS→Option (aM×DS)):Prop:= ∀(pc:DS) (r:aM×DS),m pc=some r→dG Tryz.prog 55 [.ptr 0 0] ⟨[some ⟨151,dC pc⟩],[]⟩ (fun q t=>q=((aM.pv r.1):PV)∧t=⟨[some ⟨151,dC r.2⟩],[]⟩)
def AB(fu:Nat)(pc:DS):Option (aM×DS):=
 bd (EF fu pc) (fun(x2,x3)=>
 lt (x3.after 5) (fun d4=>
 sw (decide (x3.below 5=0))
 (bd (IF fu d4) (fun(x8,x9)=>
 gd ((x2.gPackages).length+(([x8]:List aK)).length≤68719476736)
 (some ((aM.mk (x2.gPackages++([x8]:List aK))),x9))))
 (some ((aM.mk x2.gPackages),d4))))
theorem QS(fu:Nat):VM (AB fu):=by
 intro pc r H
 have H:=fC H
 refine qI Tryz.func55 (fun C hC=>?_)
 refine qS (qR (q1 (hH NZ) (qN (qS (qR (q1 aF (f8 H fun x2 x3 z1 H=>(q1 (aW.callOwn (pre:=⟨[some ⟨151,dC pc⟩],[]⟩) (B:= [some ⟨151,dC x3⟩]) (R:=fun k=> .agg [o6 x2.gPackages k]) (ps:= [_]) (qs:= [.ptr 0 0]) [0] rfl rfl Tryz.func116 (by kernel_rfl) rfl rfl rfl (mO.of ⟨⟨_,rfl,rfl,mD,rfl⟩,trivial⟩ trivial (by decide) (by decide)) rfl mD rfl rfl rfl (fun k k'=>(.agg (.cons Mv.acc QV.nil))) (T4 fu pc _ z1)) (q1 (hH NZ) (q1 (bV NQ) (qN ?_)))))))))))
 iterate 2 refine qS ?_
 refine qR (q1 aF (gE H fun d4 h5 H=>(q1 (gF [0] [] Tryz.func112 (AN h5 (mB x3 5))) (qN ?_))))
 refine a9 H (fun h6 H=>?_) (fun h6 H=>?_)
 ·refine f8 H fun x8 x9 z7 H=>(dK H fun z10 H=>(dW (dI [3] (aZ gQ) (dB [8] 0 1 (s5 sE) (dI [0] aF (dE [10] (gF [0] [] Tryz.func117 (aaO fu d4 _ z7)) (dI [11] (iI ([x8]:List aK) o3 o5) (dE [9,12] (lC z10 o3 aiV) (dI [3] (aZ gQ) (mZ [14,13] (bV aiI) (dN (qS (qR ?_)))))))))))))
  refine q1 (c6 [o6 (x2.gPackages++([x8]:List aK)) 0] nI) (q1 (bV NQ) (qN (aO.ret ?_)))
  obtain rfl:_=r:=(aY H:)
  exact bN (hr:=⟨⟨_,_,_,rfl,rfl,nI,rfl,rfl⟩,trivial⟩)
 refine aO.skip (qS (qR (q1 (c6 [o6 x2.gPackages 0] nI) (q1 (bV NQ) (qN (aO.ret ?_))))))
 obtain rfl:_=r:=(aY H:)
 exact bN (hr:=⟨⟨_,_,_,rfl,rfl,nI,rfl,rfl⟩,trivial⟩)
end
end Go.Proofs.YtpioomclpaiomaaGreat.W

namespace Go.Proofs.YtpioomclpaiomaaGreat.W
set_option maxRecDepth 100000
set_option maxHeartbeats 40000000
noncomputable section
open Go.RowKit Go.Proofs
set_option linter.unusedSimpArgs false
set_option linter.unusedVariables false
attribute [local irreducible] lt
def K8(m:aM→Option ((List aE))):Prop:= ∀(pw:aM) (r:(List aE)),m pw=some r→cH Tryz.prog 75 [(aM.pv pw)] (jH r:PV)
def n7(fu:Nat)(pw:aM)(i1:Nat)(v3:List aE):((List aE)×Int)→Option (LR ((List aE)×Int) (LR ((List aE)) ((List aE)))):=
 fun(v8,v7)=>lt (a5 pw.gPackages i1) (fun y11=>
 sw (decide ((v7:Int)<((y11.gInstances.length:Nat):Int)))
 (gd ((v8).length+(([(aE.mk ((i1:Nat):Int) v7)]:List aE)).length≤68719476736)
 (some (.next ((v8++([(aE.mk ((i1:Nat):Int) v7)]:List aE)),(aQ (v7+1))))))
 (some (.brk (v8,v7))))
def w8(fu:Nat)(pw:aM)(i1:Nat)(v3:List aE):Option ((LR ((List aE)) ((List aE)))⊕((List aE)×Int)):=
 loopW (n7 fu pw i1 v3) fu (v3,0)
def sH(fu:Nat)(pw:aM):Nat→((List aE))→Option (LR ((List aE)) ((List aE))):=
 fun i1 v3=>so (w8 fu pw i1 v3) (fun(v8,v7)=>
 some (.next v8))
def xS(fu:Nat)(pw:aM):Option (((List aE))⊕((List aE))):=
 loopN (sH fu pw) (pw.gPackages.length-0) 0 ([])
def o7(fu:Nat)(pw:aM):Option ((List aE)):=
 so (xS fu pw) (fun v3=>
 some v3)
theorem H1(fu:Nat):K8 (o7 fu):=by
 intro pw r H
 have H:=fC H
 refine qI Tryz.func75 (fun C hC=>?_)
 refine qS (qR (q1 (lA ([bA pw.gPackages])) (q1 aF (qN (qS (qR (q1 (rC ([]:List aE) rN U2) (q1 aF (qN ?_)))))))))
 iterate 2 refine qS ?_
 refine qR (q1 aF (qN ?_))
 refine aO.fact (cB 0 0 rfl rfl rfl (aK.trs_len _)) (fun hl4=>?_)
 refine cG (σ:=(List aE)) (fun i1 v3=>⟨[(1,.ptr 0 0),(2,.nil),(3,iC v3 0),(4,pN i1)],⟨[some ⟨26,[bA pw.gPackages]⟩],[⟨45,2,aE.trs (v3),false⟩]⟩⟩) (fun v3=>⟨[(2,.nil),(3,iC v3 0)],⟨[some ⟨26,[bA pw.gPackages]⟩],[⟨45,2,aE.trs (v3),false⟩]⟩⟩) (f9 H) ?_ ?_
 ·rintro i1 v3 H
  iterate 2 refine qS ?_
  refine qR (q1 aF (q1 (aZ gQ) (q1 (bB sE) (q1 (eM o3 (aK.trs_len _)) (q1 gU (qN ?_))))))
  refine eJ H (fun h5 h5l H=>?_) (fun h5 H=>?_)
  ·have h5n:=a7 h5
   refine aO.skip (qS (aO.block (qS (qR (q1 aF (qN ?_))))))
   refine nF 3 (aE.trs_len _) (fun hl10=>?_)
   refine J6 (σ:=(List aE)×Int) (fun(v8,v7)=>⟨[(1,.ptr 0 0),(2,.nil),(3,iC v8 0),(4,pN i1),(5,pI v7),(7,pN i1),(8,.ptr 0 0),(9,bA pw.gPackages),(10,pN pw.gPackages.length),(11,pB (decide ((((i1:Nat):Int):Int)<((pw.gPackages.length:Nat):Int))))],⟨[some ⟨26,[bA pw.gPackages]⟩],[⟨45,2,aE.trs (v8),false⟩]⟩⟩) (fun(v8,v7)=>⟨[(1,.ptr 0 0),(2,.nil),(3,iC v8 0),(4,pN i1),(5,pI v7),(7,pN i1),(8,.ptr 0 0),(9,bA pw.gPackages),(10,pN pw.gPackages.length),(11,pB (decide ((((i1:Nat):Int):Int)<((pw.gPackages.length:Nat):Int))))],⟨[some ⟨26,[bA pw.gPackages]⟩],[⟨45,2,aE.trs (v8),false⟩]⟩⟩) (f9 H) ?_ ?_
   ·rintro k9 ⟨v8,v7⟩ H
    iterate 2 refine qS ?_
    refine qR (q1 aF (q1 (aZ gQ) (q1 (bB sE) (q1 aF (gE H fun y11 h12 H=>(q1 (pA h12 h5n o3) (q1 (nD n3) (q1 (mR AA) ?_))))))))
    refine ZL 20 (aH.trs_len _) (fun hl13=>?_)
    refine q1 (eM wS (aH.trs_len _)) (q1 gU (qN ?_))
    refine a9 H (fun h14 H=>?_) (fun h14 H=>?_)
    ·refine aO.skip (qS (aO.block (qR ?_)))
     iterate 3 refine q1 aF ?_
     refine q1 (fM U2 aiL) (q1 (iI ([(aE.mk ((i1:Nat):Int) v7)]:List aE) rN U2) (dK H fun z15 H=>(q1 (lC z15 rN ahP) (q1 aF (qN (qR (q1 aF (q1 LQ (q1 aF (qN ?_))))))))))
     exact lwN ⟨_,(aY H:),bZ⟩
    refine aO.exit ?_;exact lwB ⟨_,(aY H:),bZ⟩
   rintro⟨v8,v7⟩ H
   refine qR (q1 aF (q1 (aW.addI rfl rfl rfl rfl (c:=((i1+1:Nat):Int)) (by omega) (by omega)) (q1 aF (qN ?_))))
   exact jA h5l ⟨_,(aY H:),bZ⟩
  refine aO.exit ?_;exact k7 ⟨_,H,bZ⟩
 rintro v3 H
 refine qS (qR ?_)
 iterate 2 refine q1 aF ?_
 refine qN (aO.ret ?_)
 obtain rfl:_=r:=(aY H:)
 exact bN
def xM(fu:Nat)(pw:aM)(i1:Nat)(v3:List aE)(y6:aK):Nat→((List aE))→Option (LR ((List aE)) (LR ((List aE)) ((List aE)))):=
 fun i9 v11=>gd ((v11).length+(([(aE.mk ((i1:Nat):Int) ((i9:Nat):Int))]:List aE)).length≤68719476736)
 (some (.next (v11++([(aE.mk ((i1:Nat):Int) ((i9:Nat):Int))]:List aE))))
def xF(fu:Nat)(pw:aM)(i1:Nat)(v3:List aE)(y6:aK):Option ((LR ((List aE)) ((List aE)))⊕((List aE))):=
 loopN (xM fu pw i1 v3 y6) (y6.gInstances.length-0) 0 v3
def sD(fu:Nat)(pw:aM):Nat→((List aE))→Option (LR ((List aE)) ((List aE))):=
 fun i1 v3=>lt (a5 pw.gPackages i1) (fun y6=>
 so (xF fu pw i1 v3 y6) (fun v11=>
 some (.next v11)))
def xK(fu:Nat)(pw:aM):Option (((List aE))⊕((List aE))):=
 loopN (sD fu pw) (pw.gPackages.length-0) 0 ([])
def tS(fu:Nat)(pw:aM):Option ((List aE)):=
 so (xK fu pw) (fun v3=>
 some v3)
theorem G9(fu:Nat)(pw:aM)(r:(List aE))(H:tS fu pw=some r):af9 Tryz.prog 73 [(aM.pv pw)] 45 2 (aE.trs (r)) none:=by
 unfold af9
 have H:=fC H
 refine qI Tryz.func73 (fun C hC=>?_)
 refine qS ?_;refine qR ?_;refine q1 (lA ([bA pw.gPackages])) ?_;refine q1 aF ?_;refine qN ?_;refine qS ?_;refine qR ?_;refine q1 (rC ([]:List aE) rN U2) ?_;refine q1 aF ?_;refine qN ?_;refine qS ?_;refine qS ?_;refine qR ?_;refine q1 (aZ gQ) ?_;refine q1 (bB sE) ?_;refine q1 (eM o3 (aK.trs_len _)) ?_;refine q1 aF ?_;refine qN ?_;refine nF 9 (aK.trs_len _) (fun hl4=>?_)
 refine cG (σ:=(List aE)) (fun i1 v3=>⟨[(2,.nil),(3,iC v3 0),(9,bA pw.gPackages),(10,pN pw.gPackages.length),(11,pN i1)],⟨[some ⟨26,[bA pw.gPackages]⟩],[⟨45,2,aE.trs (v3),false⟩]⟩⟩) (fun v3=>⟨[(2,.nil),(3,iC v3 0)],⟨[some ⟨26,[bA pw.gPackages]⟩],[⟨45,2,aE.trs (v3),false⟩]⟩⟩) (f9 H) ?_ ?_
 ·rintro i1 v3 H
  refine qS ?_;refine qR ?_;refine q1 gU ?_;refine qN ?_;refine qS ?_;refine eJ H (fun h5 h5l H=>?_) (fun h5 H=>?_)
  ·have h5n:=a7 h5
   refine aO.skip ?_;refine qS ?_;refine aO.block ?_;refine qS ?_;refine qR ?_;refine q1 aF ?_;refine gE H fun y6 h7 H=>?_;refine q1 (pA h7 h5n o3) ?_;refine q1 (j7 (aK.cs y6) nE) ?_;refine q1 (hH o5) ?_;refine q1 aF ?_;refine q1 (bV qV) ?_;refine qN ?_;refine qS ?_;refine qR ?_;refine q1 (aZ n3) ?_;refine q1 (bB AA) ?_;refine ZL 17 (aH.trs_len _) (fun hl8=>?_)
   refine q1 (eM wS (aH.trs_len _)) ?_;refine q1 aF ?_;refine qN ?_;refine cG (σ:=(List aE)) (fun i9 v11=>⟨[(2,.nil),(3,iC v11 0),(4,pN i1),(5,.ptr 1 0),(9,bA pw.gPackages),(10,pN pw.gPackages.length),(11,pN i1),(12,pB (decide ((((i1:Nat):Int):Int)<((pw.gPackages.length:Nat):Int)))),(13,pN i1),(14,.eptr (aK.cs y6)),(15,(aK.pv y6)),(16,.ptr 1 4),(17,uD y6.gInstances),(18,pN y6.gInstances.length),(19,pN i9)],⟨[some ⟨26,[bA pw.gPackages]⟩,some ⟨131,eR y6⟩],[⟨45,2,aE.trs (v11),false⟩]⟩⟩) (fun v11=>⟨[(2,.nil),(3,iC v11 0),(4,pN i1),(5,.ptr 1 0),(9,bA pw.gPackages),(10,pN pw.gPackages.length),(11,pN i1),(12,pB (decide ((((i1:Nat):Int):Int)<((pw.gPackages.length:Nat):Int)))),(13,pN i1),(14,.eptr (aK.cs y6)),(15,(aK.pv y6)),(16,.ptr 1 4),(17,uD y6.gInstances),(18,pN y6.gInstances.length)],⟨[some ⟨26,[bA pw.gPackages]⟩,some ⟨131,eR y6⟩],[⟨45,2,aE.trs (v11),false⟩]⟩⟩) (f9 H) ?_ ?_
   ·rintro i9 v11 H
    refine qS ?_;refine qR ?_;refine q1 gU ?_;refine qN ?_;refine qS ?_;refine eJ H (fun h12 h12l H=>?_) (fun h12 H=>?_)
    ·have h12n:=a7 h12
     refine aO.skip ?_;refine qS ?_;refine aO.block ?_;refine qS ?_;refine qR ?_;refine q1 aF ?_;refine q1 aF ?_;refine qN ?_;refine qR ?_;refine q1 aF ?_;refine q1 aF ?_;refine q1 aF ?_;refine q1 (fM U2 aiL) ?_;refine q1 (iI ([(aE.mk ((i1:Nat):Int) ((i9:Nat):Int))]:List aE) rN U2) ?_;refine dK H fun z13 H=>?_;refine q1 (lC z13 rN ahP) ?_;refine q1 aF ?_;refine qN ?_;refine qR ?_;refine q1 (aW.addI rfl rfl rfl rfl (c:=((i9+1:Nat):Int)) (by omega) (by omega)) ?_;refine q1 aF ?_;refine qN ?_;exact jA h12l ⟨_,(aY H:),bZ⟩
    refine aO.exit ?_;exact k7 ⟨_,H,bZ⟩
   rintro v11 H
   refine qR ?_;refine q1 (aW.addI rfl rfl rfl rfl (c:=((i1+1:Nat):Int)) (by omega) (by omega)) ?_;refine q1 aF ?_;refine qN ?_;exact jA h5l ⟨_,(aY H:),bZ⟩
  refine aO.exit ?_;exact k7 ⟨_,H,bZ⟩
 rintro v3 H
 refine qS ?_;refine qR ?_;refine q1 aF ?_;refine q1 aF ?_;refine qN ?_;refine aO.ret ?_
 obtain rfl:_=r:=(aY H:)
 exact uW.mk (ps:= [_]) (by first|exact .inr rfl|exact .inl rfl) ⟨rfl,trivial⟩ rfl (mQ.mk' (st':=⟨[],[⟨45,2,aE.trs (v3),false⟩]⟩) trivial (by first|rfl|simp)) ⟨fun k x h=>by simp [hC] at h,fun r row h=>by simp [hC] at h⟩ (q:= .acc 2 (aE.trs (v3)) 0) mD rfl ⟨0,rfl,rfl⟩
def WY(m:aM→aE→Option (aH×Bool)):Prop:= ∀(pw:aM) (po:aE) (r:aH×Bool),m pw po=some r→cH Tryz.prog 81 [(aM.pv pw),(aE.pv po)] (.tup [(aH.pv r.1),pB r.2]:PV)
def vL(fu:Nat)(pw:aM)(po:aE):Option (aH×Bool):=
 sw (decide ((po.gPackage:Int)<0))
 (some ((aH.mk s_ [] (aB.mk 0 s_ []) [] false false (aB.mk 0 s_ []) []),false))
 (sw (decide ((po.gPackage:Int)≥((pw.gPackages.length:Nat):Int)))
 (some ((aH.mk s_ [] (aB.mk 0 s_ []) [] false false (aB.mk 0 s_ []) []),false))
 (sw (decide ((po.gAt:Int)<0))
 (some ((aH.mk s_ [] (aB.mk 0 s_ []) [] false false (aB.mk 0 s_ []) []),false))
 (gd (0≤po.gPackage∧(po.gPackage).toNat<(pw.gPackages).length)
 (lt (a5 pw.gPackages ((po.gPackage).toNat)) (fun y5=>
 sw (decide ((po.gAt:Int)≥((y5.gInstances.length:Nat):Int)))
 (some ((aH.mk s_ [] (aB.mk 0 s_ []) [] false false (aB.mk 0 s_ []) []),false))
 (gd (0≤po.gAt∧(po.gAt).toNat<(y5.gInstances).length)
 (lt (a5 y5.gInstances ((po.gAt).toNat)) (fun y9=>
 some (y9,true)))))))))
theorem R0(fu:Nat):WY (vL fu):=by
 intro pw po r H
 have H:=fC H
 refine qI Tryz.func81 (fun C hC=>?_)
 refine qS (qR (q1 (lA ([bA pw.gPackages])) (q1 (lA ([pI po.gPackage,pI po.gAt])) (q1 (hH sZ) (q1 aF (qN ?_))))))
 iterate 2 refine qS ?_
 rcases jS (decide ((po.gPackage:Int)<0)) with g1|g1
 ·have H:=oJ H g1
  refine dW (dI [3] (aZ iS) (dD [6] (bB iG) (dI [7] gU (dI [8] aF ?_))))
  iterate 6 refine wD g1 ?_
  refine dI [9] (bS g1) (dI [16] aF ?_)
  iterate 3 refine wD rfl ?_
  refine dI [17] (bS rfl) (dI [21] aF ?_)
  iterate 11 refine wD rfl ?_
  refine dI [22] (bS rfl) (dN (dT rfl (qS (qR (q1 (fM sZ MW) (q1 (bV rB) (q1 aF (qN (aO.ret ?_)))))))))
  obtain rfl:_=r:=(aY H:)
  exact rA (hr:=⟨⟨_,_,_,rfl,rfl,nA,rfl,rfl⟩,rfl,trivial⟩)
 have H:=oH H g1
 rcases jS (decide ((po.gPackage:Int)≥((pw.gPackages.length:Nat):Int))) with g2|g2
 ·have H:=oJ H g2
  refine dW (dI [3] (aZ iS) (dD [6] (bB iG) (dI [7] gU (dI [8] aF (dI (hg:=aT g1) [3] (aZ iS) (dD (hg:=aT g1) [10] (bB iG) (dI (hg:=aT g1) [2] (aZ gQ) (dD (hg:=aT g1) [12] (bB sE) (dI (hg:=aT g1) [13] (eM o3 (aK.trs_len _)) (dI (hg:=aT g1) [11,14] P7 (dI [9,15] (b4 g1) (dI [16] aF ?_))))))))))))
  iterate 3 refine wD g2 ?_
  refine dI [17] (bS g2) (dI [21] aF ?_)
  iterate 11 refine wD rfl ?_
  refine dI [22] (bS rfl) (dN (dT rfl (qS (qR (q1 (fM sZ MW) (q1 (bV rB) (q1 aF (qN (aO.ret ?_)))))))))
  obtain rfl:_=r:=(aY H:)
  exact rA (hr:=⟨⟨_,_,_,rfl,rfl,nA,rfl,rfl⟩,rfl,trivial⟩)
 have H:=oH H g2
 rcases jS (decide ((po.gAt:Int)<0)) with g3|g3
 ·have H:=oJ H g3
  refine dW (dI [3] (aZ iS) (dD [6] (bB iG) (dI [7] gU (dI [8] aF (dI (hg:=aT g1) [3] (aZ iS) (dD (hg:=aT g1) [10] (bB iG) (dI (hg:=aT g1) [2] (aZ gQ) (dD (hg:=aT g1) [12] (bB sE) (dI (hg:=aT g1) [13] (eM o3 (aK.trs_len _)) (dI (hg:=aT g1) [11,14] P7 (dI [9,15] (b4 g1) (dI [16] aF (dI (hg:=aT g2) [3] (aZ JI) ?_)))))))))))))
  refine dD (hg:=aT g2) [18] (bB iG) (dI (hg:=aT g2) [19] gU (dI [17,20] (b4 g2) (dI [21] aF ?_)))
  iterate 11 refine wD g3 ?_
  refine dI [22] (bS g3) (dN (dT rfl (qS (qR (q1 (fM sZ MW) (q1 (bV rB) (q1 aF (qN (aO.ret ?_)))))))))
  obtain rfl:_=r:=(aY H:)
  exact rA (hr:=⟨⟨_,_,_,rfl,rfl,nA,rfl,rfl⟩,rfl,trivial⟩)
 have H:=oH H g3
 refine dK H fun z4 H=>(gE H fun y5 h6 H=>(dW (dI [3] (aZ iS) (dD [6] (bB iG) (dI [7] gU (dI [8] aF (dI (hg:=aT g1) [3] (aZ iS) (dD (hg:=aT g1) [10] (bB iG) (dI (hg:=aT g1) [2] (aZ gQ) (dD (hg:=aT g1) [12] (bB sE) (dI (hg:=aT g1) [13] (eM o3 (aK.trs_len _)) (dI (hg:=aT g1) [11,14] P7 (dI [9,15] (b4 g1) ?_)))))))))))))
 refine dI [16] aF (dI (hg:=aT g2) [3] (aZ JI) (dD (hg:=aT g2) [18] (bB iG) (dI (hg:=aT g2) [19] gU (dI [17,20] (b4 g2) (dI [21] aF (dI (hg:=aT g3) [3] (aZ JI) (dD (hg:=aT g3) [23] (bB iG) (dI (hg:=aT g3) [2] (aZ gQ) (dD (hg:=aT g3) [25] (bB sE) (dI (hg:=aT g3) [3] (aZ iS) (dD (hg:=aT g3) [27] (bB iG) (dI (hg:=aT g3) [26,28] (rIm h6 z4 o3) (dI (hg:=aT g3) [29] (nD n3) ?_)))))))))))))
 refine dI (hg:=aT g3) [30] (mR AA) (dI (hg:=aT g3) [31] (eM wS (aH.trs_len _)) (dI (hg:=aT g3) [24,32] P7 (dI [22,33] (b4 g3) (dN ?_))))
 refine a9 H (fun h7 H=>?_) (fun h7 H=>?_)
 ·refine qS (qR (q1 (fM sZ MW) (q1 (bV rB) (q1 aF (qN (aO.ret ?_))))))
  obtain rfl:_=r:=(aY H:)
  exact rA (hr:=⟨⟨_,_,_,rfl,rfl,nA,rfl,rfl⟩,rfl,trivial⟩)
 refine aO.skip (qS (dK H fun z8 H=>(gE H fun y9 h10 H=>(dW (dI [2] (aZ gQ) (dD [36] (bB sE) (dI [3] (aZ iS) (dD [38] (bB iG) (dI [37,39] (rIm h6 z4 o3) (dI [40] (nD n3) (dI [41] (mR AA) (dI [3] (aZ JI) (dD [43] (bB iG) ?_)))))))))))))
 refine dI [42,44] (rIm h10 z8 wS) (dI [45] (j7 (aH.cs y9) nA) (mZ [4,46] (bV rB) (dI [] aF (dN (aO.ret ?_)))))
 obtain rfl:_=r:=(aY H:)
 exact rA (hr:=⟨⟨_,_,_,rfl,rfl,nA,rfl,rfl⟩,rfl,trivial⟩)
def aeL(m:aM→ByteArray→Option (aP×Int×Bool)):Prop:= ∀(pw:aM) (pname:ByteArray) (r:aP×Int×Bool),m pw pname=some r→cH Tryz.prog 82 [(aM.pv pw),pS pname] (.tup [(aP.pv r.1),pI r.2.1,pB r.2.2]:PV)
def IT(fu:Nat)(pw:aM)(pname:ByteArray)(i1:Nat)(y4:aK):Nat→Unit→Option (LR Unit (LR Unit (aP×Int×Bool))):=
 fun i7 _=>sw (decide ((a5 y4.gTraits i7).gName=pname))
 (some (.ret (.ret ((a5 y4.gTraits i7),((i1:Nat):Int),true))))
 (some (.next ()))
def P9(fu:Nat)(pw:aM)(pname:ByteArray)(i1:Nat)(y4:aK):Option ((LR Unit (aP×Int×Bool))⊕Unit):=
 loopN (IT fu pw pname i1 y4) (y4.gTraits.length-0) 0 ()
def JC(fu:Nat)(pw:aM)(pname:ByteArray):Nat→Unit→Option (LR Unit (aP×Int×Bool)):=
 fun i1 _=>lt (a5 pw.gPackages i1) (fun y4=>
 so (P9 fu pw pname i1 y4) (fun _=>
 some (.next ())))
def P5(fu:Nat)(pw:aM)(pname:ByteArray):Option ((aP×Int×Bool)⊕Unit):=
 loopN (JC fu pw pname) (pw.gPackages.length-0) 0 ()
def AT(fu:Nat)(pw:aM)(pname:ByteArray):Option (aP×Int×Bool):=
 so (P5 fu pw pname) (fun _=>
 some ((aP.mk s_ [] false false []),0,false))
theorem abK(fu:Nat):aeL (AT fu):=by
 intro pw pname r H
 have H:=fC H
 refine qI Tryz.func82 (fun C hC=>?_)
 refine qS (qR (q1 (lA ([bA pw.gPackages])) (q1 (hH rY) ?_)))
 iterate 2 refine q1 aF ?_
 refine qN ?_
 iterate 2 refine qS ?_
 refine qR (q1 (aZ gQ) (q1 (bB sE) (q1 (eM o3 (aK.trs_len _)) (q1 aF (qN ?_)))))
 refine nF 12 (aK.trs_len _) (fun hl2=>?_)
 refine cG (σ:=Unit) (fun i1 _=>⟨[(1,pS pname),(4,.ptr 1 0),(5,pI 0),(6,pB false),(12,bA pw.gPackages),(13,pN pw.gPackages.length),(14,pN i1)],⟨[some ⟨26,[bA pw.gPackages]⟩,some ⟨60,[pS s_,.nil,pB false,pB false,.nil]⟩],[]⟩⟩) (fun _=>⟨[(4,.ptr 1 0),(5,pI 0),(6,pB false)],⟨[some ⟨26,[bA pw.gPackages]⟩,some ⟨60,[pS s_,.nil,pB false,pB false,.nil]⟩],[]⟩⟩) (f9 H) ?_ ?_
 ·rintro i1 ⟨⟩ H
  refine qS (qR (q1 gU (qN (qS ?_))))
  refine eJ H (fun h3 h3l H=>?_) (fun h3 H=>?_)
  ·have h3n:=a7 h3
   refine aO.skip (qS (aO.block (qS (qR (q1 aF (gE H fun y4 h5 H=>(q1 (pA h5 h3n o3) (q1 (j7 (aK.cs y4) nE) (q1 (hH o5) (q1 aF (q1 (bV qV) (qN (qS ?_)))))))))))))
   refine qR (q1 (aZ n4) (q1 (bB AC) ?_))
   refine ZL 20 (aP.trs_len _) (fun hl6=>?_)
   refine q1 (eM vU (aP.trs_len _)) (q1 aF (qN ?_))
   refine cG (σ:=Unit) (fun i7 _=>⟨[(1,pS pname),(4,.ptr 1 0),(5,pI 0),(6,pB false),(7,pN i1),(8,.ptr 2 0),(12,bA pw.gPackages),(13,pN pw.gPackages.length),(14,pN i1),(15,pB (decide ((((i1:Nat):Int):Int)<((pw.gPackages.length:Nat):Int)))),(16,pN i1),(17,.eptr (aK.cs y4)),(18,(aK.pv y4)),(19,.ptr 2 2),(20,HZ y4.gTraits),(21,pN y4.gTraits.length),(22,pN i7)],⟨[some ⟨26,[bA pw.gPackages]⟩,some ⟨60,[pS s_,.nil,pB false,pB false,.nil]⟩,some ⟨131,eR y4⟩],[]⟩⟩) (fun _=>⟨[(1,pS pname),(4,.ptr 1 0),(5,pI 0),(6,pB false),(7,pN i1),(8,.ptr 2 0),(12,bA pw.gPackages),(13,pN pw.gPackages.length),(14,pN i1),(15,pB (decide ((((i1:Nat):Int):Int)<((pw.gPackages.length:Nat):Int)))),(16,pN i1),(17,.eptr (aK.cs y4)),(18,(aK.pv y4)),(19,.ptr 2 2),(20,HZ y4.gTraits),(21,pN y4.gTraits.length)],⟨[some ⟨26,[bA pw.gPackages]⟩,some ⟨60,[pS s_,.nil,pB false,pB false,.nil]⟩,some ⟨131,eR y4⟩],[]⟩⟩) (f9 H) ?_ ?_
   ·rintro i7 ⟨⟩ H
    refine qS (qR (q1 gU (qN (qS ?_))))
    refine eJ H (fun h8 h8l H=>?_) (fun h8 H=>?_)
    ·have h8n:=a7 h8
     refine aO.skip (qS (aO.block (qS (qR (q1 (j0 h8n vU) (q1 (j7 (aP.cs (a5 y4.gTraits i7)) mU) (q1 (hH rY) (q1 (bV qY) (qN (qS (qR (q1 (aZ y7) (q1 (bB e8) ?_)))))))))))))
     refine q1 aF (q1 EC (qN ?_))
     refine a9 H (fun h9 H=>?_) (fun h9 H=>?_)
     ·refine qS (qR (q1 (c6 [pS ((a5 y4.gTraits i7).gName),rS ((a5 y4.gTraits i7).gSupertraits),pB ((a5 y4.gTraits i7).gAuto),pB ((a5 y4.gTraits i7).gAssoc),hM ((a5 y4.gTraits i7).gSignatures)] mU) (q1 aF (q1 (bV qY) ?_))))
      iterate 2 refine q1 aF ?_
      refine qN (aO.ret ?_)
      obtain rfl:_=r:=(pY (zV (pY (aY H))):)
      exact qe3 (hr:=⟨⟨_,_,_,rfl,rfl,mU,rfl,rfl⟩,rfl,rfl,trivial⟩)
     refine aO.skip (qR (q1 (aW.addI rfl rfl rfl rfl (c:=((i7+1:Nat):Int)) (by omega) (by omega)) (q1 aF (qN ?_))))
     exact jA h8l ⟨_,(aY H:),bZ⟩
    refine aO.exit ?_;exact k7 ⟨_,H,bZ⟩
   rintro⟨⟩ H
   refine qR (q1 (aW.addI rfl rfl rfl rfl (c:=((i1+1:Nat):Int)) (by omega) (by omega)) (q1 aF (qN ?_)))
   exact jA h3l ⟨_,(aY H:),bZ⟩
  refine aO.exit ?_;exact k7 ⟨_,H,bZ⟩
 rintro⟨⟩ H
 refine qS (qR (q1 (fM rY RZ) (q1 (bV qY) ?_)))
 iterate 2 refine q1 aF ?_
 refine qN (aO.ret ?_)
 obtain rfl:_=r:=(aY H:)
 exact qe3 (hr:=⟨⟨_,_,_,rfl,rfl,mU,rfl,rfl⟩,rfl,rfl,trivial⟩)
def SL(m:ByteArray→Option Bool):Prop:= ∀(pname:ByteArray) (r:Bool),m pname=some r→cH Tryz.prog 83 [pS pname] (pB r:PV)
def zA(fu:Nat)(pname:ByteArray):Option Bool:=
 sw (decide (pname=e7))
 (some true)
 (some (decide (pname=eO)))
theorem OH(fu:Nat):SL (zA fu):=by
 intro pname r H
 have H:=fC H
 refine qI Tryz.func83 (fun C hC=>?_)
 refine qS (qR (q1 aF (qN (qS (qR (q1 aF (q1 EC (q1 aF ?_))))))))
 refine dY 5 H (fun g1 H=>?_) fun g1 H=>?_
 ·refine qk g1 (qk g1 (q1 (bS g1) (q1 aF (qN (aO.ret ?_)))))
  obtain rfl:_=r:=(aY H:)
  exact bN
 refine qg g1 aF (qg g1 EC (q1 (b4 g1) (q1 aF (qN (aO.ret ?_)))))
 obtain rfl:_=r:=(aY H:)
 exact bN
def af3(m:aM→ByteArray→Option (aI×Int×Bool)):Prop:= ∀(pw:aM) (pname:ByteArray) (r:aI×Int×Bool),m pw pname=some r→cH Tryz.prog 84 [(aM.pv pw),pS pname] (.tup [(aI.pv r.1),pI r.2.1,pB r.2.2]:PV)
def L8(fu:Nat)(pw:aM)(pname:ByteArray)(i1:Nat)(y4:aK):Nat→Unit→Option (LR Unit (LR Unit (aI×Int×Bool))):=
 fun i7 _=>sw (decide ((a5 y4.gDataTypes i7).gName=pname))
 (some (.ret (.ret ((a5 y4.gDataTypes i7),((i1:Nat):Int),true))))
 (some (.next ()))
def VB(fu:Nat)(pw:aM)(pname:ByteArray)(i1:Nat)(y4:aK):Option ((LR Unit (aI×Int×Bool))⊕Unit):=
 loopN (L8 fu pw pname i1 y4) (y4.gDataTypes.length-0) 0 ()
def MC(fu:Nat)(pw:aM)(pname:ByteArray):Nat→Unit→Option (LR Unit (aI×Int×Bool)):=
 fun i1 _=>lt (a5 pw.gPackages i1) (fun y4=>
 so (VB fu pw pname i1 y4) (fun _=>
 some (.next ())))
def WT(fu:Nat)(pw:aM)(pname:ByteArray):Option ((aI×Int×Bool)⊕Unit):=
 loopN (MC fu pw pname) (pw.gPackages.length-0) 0 ()
def LX(fu:Nat)(pw:aM)(pname:ByteArray):Option (aI×Int×Bool):=
 so (WT fu pw pname) (fun _=>
 some ((aI.mk s_ [] []),0,false))
theorem ad8(fu:Nat):af3 (LX fu):=by
 intro pw pname r H
 have H:=fC H
 refine qI Tryz.func84 (fun C hC=>?_)
 refine qS (qR (q1 (lA ([bA pw.gPackages])) (q1 (hH qF) ?_)))
 iterate 2 refine q1 aF ?_
 refine qN ?_
 iterate 2 refine qS ?_
 refine qR (q1 (aZ gQ) (q1 (bB sE) (q1 (eM o3 (aK.trs_len _)) (q1 aF (qN ?_)))))
 refine nF 12 (aK.trs_len _) (fun hl2=>?_)
 refine cG (σ:=Unit) (fun i1 _=>⟨[(1,pS pname),(4,.ptr 1 0),(5,pI 0),(6,pB false),(12,bA pw.gPackages),(13,pN pw.gPackages.length),(14,pN i1)],⟨[some ⟨26,[bA pw.gPackages]⟩,some ⟨116,[pS s_,.nil,.nil]⟩],[]⟩⟩) (fun _=>⟨[(4,.ptr 1 0),(5,pI 0),(6,pB false)],⟨[some ⟨26,[bA pw.gPackages]⟩,some ⟨116,[pS s_,.nil,.nil]⟩],[]⟩⟩) (f9 H) ?_ ?_
 ·rintro i1 ⟨⟩ H
  refine qS (qR (q1 gU (qN (qS ?_))))
  refine eJ H (fun h3 h3l H=>?_) (fun h3 H=>?_)
  ·have h3n:=a7 h3
   refine aO.skip (qS (aO.block (qS (qR (q1 aF (gE H fun y4 h5 H=>(q1 (pA h5 h3n o3) (q1 (j7 (aK.cs y4) nE) (q1 (hH o5) (q1 aF (q1 (bV qV) (qN (qS ?_)))))))))))))
   refine qR (q1 (aZ lX) (q1 (bB xA) ?_))
   refine ZL 20 (aI.trs_len _) (fun hl6=>?_)
   refine q1 (eM t0 (aI.trs_len _)) (q1 aF (qN ?_))
   refine cG (σ:=Unit) (fun i7 _=>⟨[(1,pS pname),(4,.ptr 1 0),(5,pI 0),(6,pB false),(7,pN i1),(8,.ptr 2 0),(12,bA pw.gPackages),(13,pN pw.gPackages.length),(14,pN i1),(15,pB (decide ((((i1:Nat):Int):Int)<((pw.gPackages.length:Nat):Int)))),(16,pN i1),(17,.eptr (aK.cs y4)),(18,(aK.pv y4)),(19,.ptr 2 3),(20,m8 y4.gDataTypes),(21,pN y4.gDataTypes.length),(22,pN i7)],⟨[some ⟨26,[bA pw.gPackages]⟩,some ⟨116,[pS s_,.nil,.nil]⟩,some ⟨131,eR y4⟩],[]⟩⟩) (fun _=>⟨[(1,pS pname),(4,.ptr 1 0),(5,pI 0),(6,pB false),(7,pN i1),(8,.ptr 2 0),(12,bA pw.gPackages),(13,pN pw.gPackages.length),(14,pN i1),(15,pB (decide ((((i1:Nat):Int):Int)<((pw.gPackages.length:Nat):Int)))),(16,pN i1),(17,.eptr (aK.cs y4)),(18,(aK.pv y4)),(19,.ptr 2 3),(20,m8 y4.gDataTypes),(21,pN y4.gDataTypes.length)],⟨[some ⟨26,[bA pw.gPackages]⟩,some ⟨116,[pS s_,.nil,.nil]⟩,some ⟨131,eR y4⟩],[]⟩⟩) (f9 H) ?_ ?_
   ·rintro i7 ⟨⟩ H
    refine qS (qR (q1 gU (qN (qS ?_))))
    refine eJ H (fun h8 h8l H=>?_) (fun h8 H=>?_)
    ·have h8n:=a7 h8
     refine aO.skip (qS (aO.block (qS (qR (q1 (j0 h8n t0) (q1 (j7 (aI.cs (a5 y4.gDataTypes i7)) lT) (q1 (hH qF) (q1 (bV qU) (qN (qS (qR (q1 (aZ GW) (q1 (bB e8) ?_)))))))))))))
     refine q1 aF (q1 EC (qN ?_))
     refine a9 H (fun h9 H=>?_) (fun h9 H=>?_)
     ·refine qS (qR (q1 (c6 [pS ((a5 y4.gDataTypes i7).gName),rS ((a5 y4.gDataTypes i7).gVars),eF ((a5 y4.gDataTypes i7).gConstructors)] lT) (q1 aF (q1 (bV qU) ?_))))
      iterate 2 refine q1 aF ?_
      refine qN (aO.ret ?_)
      obtain rfl:_=r:=(pY (zV (pY (aY H))):)
      exact qe3 (hr:=⟨⟨_,_,_,rfl,rfl,lT,rfl,rfl⟩,rfl,rfl,trivial⟩)
     refine aO.skip (qR (q1 (aW.addI rfl rfl rfl rfl (c:=((i7+1:Nat):Int)) (by omega) (by omega)) (q1 aF (qN ?_))))
     exact jA h8l ⟨_,(aY H:),bZ⟩
    refine aO.exit ?_;exact k7 ⟨_,H,bZ⟩
   rintro⟨⟩ H
   refine qR (q1 (aW.addI rfl rfl rfl rfl (c:=((i1+1:Nat):Int)) (by omega) (by omega)) (q1 aF (qN ?_)))
   exact jA h3l ⟨_,(aY H:),bZ⟩
  refine aO.exit ?_;exact k7 ⟨_,H,bZ⟩
 rintro⟨⟩ H
 refine qS (qR (q1 (fM qF MN) (q1 (bV qU) ?_)))
 iterate 2 refine q1 aF ?_
 refine qN (aO.ret ?_)
 obtain rfl:_=r:=(aY H:)
 exact qe3 (hr:=⟨⟨_,_,_,rfl,rfl,lT,rfl,rfl⟩,rfl,rfl,trivial⟩)
def M9(m:aM→aB→Option Int):Prop:= ∀(pw:aM) (pt:aB) (r:Int),m pw pt=some r→cH Tryz.prog 29 [(aM.pv pw),(aB.pv pt)] (pI r:PV)
def gP(fu:Nat)(pw:aM)(pt:aB):Option Int:=
 sw (!decide ((pt.gKind:Int)=2))
 (some (-1))
 (bd (zA fu pt.gName) (fun x3=>
 sw (x3)
 (some (-1))
 (bd (LX fu pw pt.gName) (fun(x6,x7,x8)=>
 sw (!(x8))
 (some (-1))
 (some x7)))))
theorem o8(fu:Nat):M9 (gP fu):=by
 intro pw pt r H
 have H:=fC H
 refine qI Tryz.func29 (fun C hC=>?_)
 refine qS (qR (q1 (lA ([bA pw.gPackages])) (q1 (lA (fB pt)) (q1 aF (qN ?_)))))
 iterate 2 refine qS ?_
 refine qR (q1 (aZ oQ) (q1 (bB iG) (q1 QI (q1 aF ?_))))
 refine dY 11 H (fun g1 H=>?_) fun g1 H=>?_
 ·refine qk g1 ?_
  iterate 2 refine qk g1 ?_
  refine q1 (bS g1) (qN (dT rfl (qS (qR (q1 aF (qN (aO.ret ?_)))))))
  obtain rfl:_=r:=(aY H:)
  exact bN
 refine qg g1 (aZ l6) (qg g1 (bB e8) (bO H fun x3 z2 H=>(qg g1 (bJ Tryz.func83 (OH fu pt.gName _ z2)) (q1 (b4 g1) (qN ?_)))))
 refine a9 H (fun h4 H=>?_) (fun h4 H=>?_)
 ·refine qS (qR (q1 aF (qN (aO.ret ?_))))
  obtain rfl:_=r:=(aY H:)
  exact bN
 refine aO.skip (qS (qR (q1 (c6 [bA pw.gPackages] nI) (q1 (aZ l6) (q1 (bB e8) (abO H fun x6 x7 x8 z5 H=>(q1 (bJ Tryz.func84 (ad8 fu pw pt.gName _ z5)) (q1 aF ?_))))))))
 iterate 3 refine q1 KJ ?_
 refine q1 (hH qF) (q1 (bV qU) ?_)
 iterate 2 refine q1 aF ?_
 refine qN ?_
 iterate 2 refine qS ?_
 refine qR (q1 aF (q1 gS (qN ?_)))
 refine a9 H (fun h9 H=>?_) (fun h9 H=>?_)
 ·refine qS (qR (q1 aF (qN (aO.ret ?_))))
  obtain rfl:_=r:=(aY H:)
  exact bN
 refine aO.skip (qS (qR ?_))
 iterate 2 refine q1 aF ?_
 refine qN (aO.ret ?_)
 obtain rfl:_=r:=(aY H:)
 exact bN
def xX(m:aM→aE→Option Bool):Prop:= ∀(pw:aM) (po:aE) (r:Bool),m pw po=some r→cH Tryz.prog 28 [(aM.pv pw),(aE.pv po)] (pB r:PV)
def jF(fu:Nat)(pw:aM)(po:aE):Option Bool:=
 bd (vL fu pw po) (fun(x2,x3)=>
 sw (!(x3))
 (some false)
 (bd (AT fu pw x2.gTrait) (fun(x6,x7,x8)=>
 sw (x8)
 (sw (decide ((x7:Int)=po.gPackage))
 (some true)
 (bd (gP fu pw x2.gHead) (fun x12=>
 some (decide ((x12:Int)=po.gPackage)))))
 (bd (gP fu pw x2.gHead) (fun x14=>
 some (decide ((x14:Int)=po.gPackage)))))))
theorem gH(fu:Nat):xX (jF fu):=by
 intro pw po r H
 have H:=fC H
 refine qI Tryz.func28 (fun C hC=>?_)
 refine qS (qR (q1 (lA ([bA pw.gPackages])) (q1 (lA ([pI po.gPackage,pI po.gAt])) (q1 aF (qN (qS (qR (q1 (c6 [bA pw.gPackages] nI) (q1 (c6 [pI po.gPackage,pI po.gAt] KW) (f8 H fun x2 x3 z1 H=>(q1 (bJ Tryz.func81 (R0 fu pw po _ z1)) (q1 aF ?_))))))))))))
 iterate 2 refine q1 KJ ?_
 refine q1 (hH sZ) (q1 (bV rB) (q1 aF (qN ?_)))
 iterate 2 refine qS ?_
 refine qR (q1 aF (q1 gS (qN ?_)))
 refine a9 H (fun h4 H=>?_) (fun h4 H=>?_)
 ·refine qS (qR (q1 aF (qN (aO.ret ?_))))
  obtain rfl:_=r:=(aY H:)
  exact bN
 refine aO.skip (qS (qR (q1 (c6 [bA pw.gPackages] nI) (q1 (aZ IU) (q1 (bB e8) (abO H fun x6 x7 x8 z5 H=>(q1 (bJ Tryz.func82 (abK fu pw x2.gTrait _ z5)) (q1 aF ?_))))))))
 iterate 3 refine q1 KJ ?_
 refine q1 (hH rY) (q1 (bV qY) ?_)
 iterate 2 refine q1 aF ?_
 refine qN (qS ?_)
 rcases jS (x8) with g9|g9
 ·have H:=oJ H g9
  rcases jS (decide ((x7:Int)=po.gPackage)) with g10|g10
  ·have H:=oJ H g10
   refine dW (dI [9] aF (dI [26] aF (dI (hg:=aT g9) [8] aF (dI (hg:=aT g9) [3] (aZ iS) (dD (hg:=aT g9) [29] (bB iG) (dI (hg:=aT g9) [28,30] dP (dI [27,31] (bS g9) (dI [32] aF ?_))))))))
   iterate 7 refine wD g10 ?_
   refine dI [33] (bS g10) (dI [41] aF (dN (aO.ret ?_)))
   obtain rfl:_=r:=(aY H:)
   exact bN
  have H:=oH H g10
  refine bO H fun x12 z11 H=>(dW (dI [9] aF (dI [26] aF (dI (hg:=aT g9) [8] aF (dI (hg:=aT g9) [3] (aZ iS) (dD (hg:=aT g9) [29] (bB iG) (dI (hg:=aT g9) [28,30] dP (dI [27,31] (bS g9) (dI [32] aF (dD (hg:=aT g10) [2] (c6 [bA pw.gPackages] nI) (dI (hg:=aT g10) [5] (aZ nB) (dD (hg:=aT g10) [35] (c6 [pI x2.gHead.gKind,pS x2.gHead.gName,a6 x2.gHead.gArgs] dL) (dI (hg:=aT g10) [34,36] (bJ Tryz.func29 (o8 fu pw x2.gHead _ z11)) ?_)))))))))))))
  refine dI (hg:=aT g10) [3] (aZ iS) (dD (hg:=aT g10) [38] (bB iG) (dI (hg:=aT g10) [37,39] dP (dI [33,40] (b4 g10) (dI [41] aF (dN (aO.ret ?_))))))
  obtain rfl:_=r:=(aY H:)
  exact bN
 have H:=oH H g9
 refine bO H fun x14 z13 H=>(dW (dI [9] aF (dI [26] aF ?_)))
 iterate 4 refine wD g9 ?_
 refine dI [27] (b4 g9) (dI [32] aF (dD (hg:=aT rfl) [2] (c6 [bA pw.gPackages] nI) (dI (hg:=aT rfl) [5] (aZ nB) (dD (hg:=aT rfl) [35] (c6 [pI x2.gHead.gKind,pS x2.gHead.gName,a6 x2.gHead.gArgs] dL) (dI (hg:=aT rfl) [34,36] (bJ Tryz.func29 (o8 fu pw x2.gHead _ z13)) (dI (hg:=aT rfl) [3] (aZ iS) (dD (hg:=aT rfl) [38] (bB iG) (dI (hg:=aT rfl) [37,39] dP (dI [33,40] (b4 rfl) (dI [41] aF (dN (aO.ret ?_))))))))))))
 obtain rfl:_=r:=(aY H:)
 exact bN
def S5(m:aM→aE→Option (aH×Bool)):Prop:= ∀(pw:aM) (po:aE) (r:aH×Bool),m pw po=some r→cH Tryz.prog 77 [(aM.pv pw),(aE.pv po)] (.tup [(aH.pv r.1),pB r.2]:PV)
def qL(fu:Nat)(pw:aM)(po:aE):Option (aH×Bool):=
 bd (nX fu po.gPackage 0 (aQ (((pw.gPackages.length:Nat):Int)-1))) (fun x2=>
 sw (!(x2))
 (some ((aH.mk s_ [] (aB.mk 0 s_ []) [] false false (aB.mk 0 s_ []) []),false))
 (gd (0≤po.gPackage∧(po.gPackage).toNat<(pw.gPackages).length)
 (lt (a5 pw.gPackages ((po.gPackage).toNat)) (fun y5=>
 bd (nX fu po.gAt 0 (aQ (((y5.gInstances.length:Nat):Int)-1))) (fun x8=>
 sw (!(x8))
 (some ((aH.mk s_ [] (aB.mk 0 s_ []) [] false false (aB.mk 0 s_ []) []),false))
 (gd (0≤po.gAt∧(po.gAt).toNat<(y5.gInstances).length)
 (lt (a5 y5.gInstances ((po.gAt).toNat)) (fun y11=>
 some (y11,true)))))))))
theorem DI(fu:Nat):S5 (qL fu):=by
 intro pw po r H
 have H:=fC H
 refine qI Tryz.func77 (fun C hC=>?_)
 refine qS (qR (q1 (lA ([bA pw.gPackages])) (q1 (lA ([pI po.gPackage,pI po.gAt])) (q1 (hH sZ) (q1 aF (qN ?_))))))
 iterate 2 refine qS ?_
 refine bO H fun x2 z1 H=>?_
 rcases jS (!(x2)) with g3|g3
 ·have H:=oJ H g3
  refine dW (dI [3] (aZ iS) (dD [6] (bB iG) (dI [2] (aZ gQ) (dD [8] (bB sE) (dI [9] (eM o3 (aK.trs_len _)) (dI [10] zZ (dI [7,11] (bJ Tryz.func108 (sY fu po.gPackage 0 (aQ (((pw.gPackages.length:Nat):Int)-1)) _ z1)) (dI [12] gS (dI [13] aF ?_)))))))))
  iterate 13 refine wD g3 ?_
  refine dI [14] (bS g3) (dN (dT rfl (qS (qR (q1 (fM sZ MW) (q1 (bV rB) (q1 aF (qN (aO.ret ?_)))))))))
  obtain rfl:_=r:=(aY H:)
  exact rA (hr:=⟨⟨_,_,_,rfl,rfl,nA,rfl,rfl⟩,rfl,trivial⟩)
 have H:=oH H g3
 refine dK H fun z4 H=>(gE H fun y5 h6 H=>(bO H fun x8 z7 H=>(dW (dI [3] (aZ iS) (dD [6] (bB iG) (dI [2] (aZ gQ) (dD [8] (bB sE) (dI [9] (eM o3 (aK.trs_len _)) (dI [10] zZ (dI [7,11] (bJ Tryz.func108 (sY fu po.gPackage 0 (aQ (((pw.gPackages.length:Nat):Int)-1)) _ z1)) (dI [12] gS (dI [13] aF (dI (hg:=aT g3) [3] (aZ JI) ?_)))))))))))))
 refine dD (hg:=aT g3) [15] (bB iG) (dI (hg:=aT g3) [2] (aZ gQ) (dD (hg:=aT g3) [17] (bB sE) (dI (hg:=aT g3) [3] (aZ iS) (dD (hg:=aT g3) [19] (bB iG) (dI (hg:=aT g3) [18,20] (rIm h6 z4 o3) (dI (hg:=aT g3) [21] (nD n3) (dI (hg:=aT g3) [22] (mR AA) (dI (hg:=aT g3) [23] (eM wS (aH.trs_len _)) (dI (hg:=aT g3) [24] zZ (dI (hg:=aT g3) [16,25] (bJ Tryz.func108 (sY fu po.gAt 0 (aQ (((y5.gInstances.length:Nat):Int)-1)) _ z7)) (dI (hg:=aT g3) [26] gS (dI [14,27] (b4 g3) (dN ?_)))))))))))))
 refine a9 H (fun h9 H=>?_) (fun h9 H=>?_)
 ·refine qS (qR (q1 (fM sZ MW) (q1 (bV rB) (q1 aF (qN (aO.ret ?_))))))
  obtain rfl:_=r:=(aY H:)
  exact rA (hr:=⟨⟨_,_,_,rfl,rfl,nA,rfl,rfl⟩,rfl,trivial⟩)
 refine aO.skip (qS (dK H fun z10 H=>(gE H fun y11 h12 H=>(dW (dI [2] (aZ gQ) (dD [30] (bB sE) (dI [3] (aZ iS) (dD [32] (bB iG) (dI [31,33] (rIm h6 z4 o3) (dI [34] (nD n3) (dI [35] (mR AA) (dI [3] (aZ JI) (dD [37] (bB iG) ?_)))))))))))))
 refine dI [36,38] (rIm h12 z10 wS) (dI [39] (j7 (aH.cs y11) nA) (mZ [4,40] (bV rB) (dI [] aF (dN (aO.ret ?_)))))
 obtain rfl:_=r:=(aY H:)
 exact rA (hr:=⟨⟨_,_,_,rfl,rfl,nA,rfl,rfl⟩,rfl,trivial⟩)
def PJ(m:aM→ByteArray→Option (aP×Int×Bool)):Prop:= ∀(pw:aM) (pname:ByteArray) (r:aP×Int×Bool),m pw pname=some r→cH Tryz.prog 79 [(aM.pv pw),pS pname] (.tup [(aP.pv r.1),pI r.2.1,pB r.2.2]:PV)
def qQ(fu:Nat)(pw:aM)(pname:ByteArray)(i1:Nat):Int→Option (LR Int (LR Unit (aP×Int×Bool))):=
 fun v4=>lt (a5 pw.gPackages i1) (fun y6=>
 sw (decide ((v4:Int)<((y6.gTraits.length:Nat):Int)))
 (gd (0≤v4∧(v4).toNat<(y6.gTraits).length)
 (sw (decide ((a5 y6.gTraits ((v4).toNat)).gName=pname))
 (some (.ret (.ret ((a5 y6.gTraits ((v4).toNat)),((i1:Nat):Int),true))))
 (some (.next (v4+1)))))
 (some (.brk v4)))
def AO(fu:Nat)(pw:aM)(pname:ByteArray)(i1:Nat):Option ((LR Unit (aP×Int×Bool))⊕Int):=
 loopW (qQ fu pw pname i1) fu 0
def vC(fu:Nat)(pw:aM)(pname:ByteArray):Nat→Unit→Option (LR Unit (aP×Int×Bool)):=
 fun i1 _=>so (AO fu pw pname i1) (fun v4=>
 some (.next ()))
def BI(fu:Nat)(pw:aM)(pname:ByteArray):Option ((aP×Int×Bool)⊕Unit):=
 loopN (vC fu pw pname) (pw.gPackages.length-0) 0 ()
def m7(fu:Nat)(pw:aM)(pname:ByteArray):Option (aP×Int×Bool):=
 so (BI fu pw pname) (fun _=>
 some ((aP.mk s_ [] false false []),0,false))
theorem AG(fu:Nat):PJ (m7 fu):=by
 intro pw pname r H
 have H:=fC H
 refine qI Tryz.func79 (fun C hC=>?_)
 refine qS (qR (q1 (lA ([bA pw.gPackages])) (q1 (hH rY) ?_)))
 iterate 2 refine q1 aF ?_
 refine qN ?_
 iterate 2 refine qS ?_
 refine qR (q1 aF (qN ?_))
 refine aO.fact (cB 0 0 rfl rfl rfl (aK.trs_len _)) (fun hl2=>?_)
 refine cG (σ:=Unit) (fun i1 _=>⟨[(1,pS pname),(2,.ptr 0 0),(4,.ptr 1 0),(5,pI 0),(6,pB false),(7,pN i1)],⟨[some ⟨26,[bA pw.gPackages]⟩,some ⟨60,[pS s_,.nil,pB false,pB false,.nil]⟩],[]⟩⟩) (fun _=>⟨[(4,.ptr 1 0),(5,pI 0),(6,pB false)],⟨[some ⟨26,[bA pw.gPackages]⟩,some ⟨60,[pS s_,.nil,pB false,pB false,.nil]⟩],[]⟩⟩) (f9 H) ?_ ?_
 ·rintro i1 ⟨⟩ H
  iterate 2 refine qS ?_
  refine qR (q1 aF (q1 (aZ gQ) (q1 (bB sE) (q1 (eM o3 (aK.trs_len _)) (q1 gU (qN ?_))))))
  refine eJ H (fun h3 h3l H=>?_) (fun h3 H=>?_)
  ·have h3n:=a7 h3
   refine aO.skip (qS (aO.block (qS (qR (q1 aF (qN ?_))))))
   refine J6 (σ:=Int) (fun v4=>⟨[(1,pS pname),(2,.ptr 0 0),(4,.ptr 1 0),(5,pI 0),(6,pB false),(7,pN i1),(8,pI v4),(9,pN i1),(10,.ptr 0 0),(11,bA pw.gPackages),(12,pN pw.gPackages.length),(13,pB (decide ((((i1:Nat):Int):Int)<((pw.gPackages.length:Nat):Int))))],⟨[some ⟨26,[bA pw.gPackages]⟩,some ⟨60,[pS s_,.nil,pB false,pB false,.nil]⟩],[]⟩⟩) (fun v4=>⟨[(1,pS pname),(2,.ptr 0 0),(4,.ptr 1 0),(5,pI 0),(6,pB false),(7,pN i1),(8,pI v4),(9,pN i1),(10,.ptr 0 0),(11,bA pw.gPackages),(12,pN pw.gPackages.length),(13,pB (decide ((((i1:Nat):Int):Int)<((pw.gPackages.length:Nat):Int))))],⟨[some ⟨26,[bA pw.gPackages]⟩,some ⟨60,[pS s_,.nil,pB false,pB false,.nil]⟩],[]⟩⟩) (f9 H) ?_ ?_
   ·rintro k5 v4 H
    iterate 2 refine qS ?_
    refine qR (q1 aF (q1 (aZ gQ) (q1 (bB sE) (q1 aF (gE H fun y6 h7 H=>(q1 (pA h7 h3n o3) (q1 (nD n4) (q1 (mR AC) ?_))))))))
    refine ZL 22 (aP.trs_len _) (fun hl8=>?_)
    refine q1 (eM vU (aP.trs_len _)) (q1 gU (qN ?_))
    refine a9 H (fun h9 H=>?_) (fun h9 H=>?_)
    ·refine aO.skip (qS (aO.block (qS (qR (q1 (aZ gQ) (q1 (bB sE) (q1 aF (q1 (pA h7 h3n o3) (q1 (nD n4) (q1 (mR AC) (q1 aF (dK H fun z10 H=>(q1 (rIy z10 vU) ?_)))))))))))))
     refine q1 (nD y7) (q1 (mR e8) (q1 aF (q1 EC (qN ?_))))
     refine a9 H (fun h11 H=>?_) (fun h11 H=>?_)
     ·refine qS (qR (q1 (aZ gQ) (q1 (bB sE) (q1 aF (q1 (pA h7 h3n o3) (q1 (nD n4) (q1 (mR AC) (q1 aF (q1 (rIy z10 vU) (q1 (j7 (aP.cs (a5 y6.gTraits ((v4).toNat))) mU) (q1 aF (q1 (bV qY) ?_))))))))))))
      iterate 2 refine q1 aF ?_
      refine qN (aO.ret ?_)
      obtain rfl:_=r:=(pY (zV (lwR (aY H))):)
      exact qe3 (hr:=⟨⟨_,_,_,rfl,rfl,mU,rfl,rfl⟩,rfl,rfl,trivial⟩)
     refine aO.skip (qR (q1 aF (q1 (aW.addI rfl rfl rfl rfl (c:=v4+1) (by omega) (by omega)) (q1 aF (qN ?_)))))
     exact lwN ⟨_,(aY H:),bZ⟩
    refine aO.exit ?_;exact lwB ⟨_,(aY H:),bZ⟩
   rintro v4 H
   refine qR (q1 aF (q1 (aW.addI rfl rfl rfl rfl (c:=((i1+1:Nat):Int)) (by omega) (by omega)) (q1 aF (qN ?_))))
   exact jA h3l ⟨_,(aY H:),bZ⟩
  refine aO.exit ?_;exact k7 ⟨_,H,bZ⟩
 rintro⟨⟩ H
 refine qS (qR (q1 (fM rY RZ) (q1 (bV qY) ?_)))
 iterate 2 refine q1 aF ?_
 refine qN (aO.ret ?_)
 obtain rfl:_=r:=(aY H:)
 exact qe3 (hr:=⟨⟨_,_,_,rfl,rfl,mU,rfl,rfl⟩,rfl,rfl,trivial⟩)
def QP(m:aM→ByteArray→Option (aI×Int×Bool)):Prop:= ∀(pw:aM) (pname:ByteArray) (r:aI×Int×Bool),m pw pname=some r→cH Tryz.prog 173 [(aM.pv pw),pS pname] (.tup [(aI.pv r.1),pI r.2.1,pB r.2.2]:PV)
def sO(fu:Nat)(pw:aM)(pname:ByteArray)(i1:Nat):Int→Option (LR Int (LR Unit (aI×Int×Bool))):=
 fun v4=>lt (a5 pw.gPackages i1) (fun y6=>
 sw (decide ((v4:Int)<((y6.gDataTypes.length:Nat):Int)))
 (gd (0≤v4∧(v4).toNat<(y6.gDataTypes).length)
 (sw (decide ((a5 y6.gDataTypes ((v4).toNat)).gName=pname))
 (some (.ret (.ret ((a5 y6.gDataTypes ((v4).toNat)),((i1:Nat):Int),true))))
 (some (.next (v4+1)))))
 (some (.brk v4)))
def DU(fu:Nat)(pw:aM)(pname:ByteArray)(i1:Nat):Option ((LR Unit (aI×Int×Bool))⊕Int):=
 loopW (sO fu pw pname i1) fu 0
def wE(fu:Nat)(pw:aM)(pname:ByteArray):Nat→Unit→Option (LR Unit (aI×Int×Bool)):=
 fun i1 _=>so (DU fu pw pname i1) (fun v4=>
 some (.next ()))
def DV(fu:Nat)(pw:aM)(pname:ByteArray):Option ((aI×Int×Bool)⊕Unit):=
 loopN (wE fu pw pname) (pw.gPackages.length-0) 0 ()
def t6(fu:Nat)(pw:aM)(pname:ByteArray):Option (aI×Int×Bool):=
 so (DV fu pw pname) (fun _=>
 some ((aI.mk s_ [] []),0,false))
theorem OX(fu:Nat):QP (t6 fu):=by
 intro pw pname r H
 have H:=fC H
 refine qI Tryz.func173 (fun C hC=>?_)
 refine qS (qR (q1 (lA ([bA pw.gPackages])) (q1 (hH qF) ?_)))
 iterate 2 refine q1 aF ?_
 refine qN ?_
 iterate 2 refine qS ?_
 refine qR (q1 aF (qN ?_))
 refine aO.fact (cB 0 0 rfl rfl rfl (aK.trs_len _)) (fun hl2=>?_)
 refine cG (σ:=Unit) (fun i1 _=>⟨[(1,pS pname),(2,.ptr 0 0),(4,.ptr 1 0),(5,pI 0),(6,pB false),(7,pN i1)],⟨[some ⟨26,[bA pw.gPackages]⟩,some ⟨116,[pS s_,.nil,.nil]⟩],[]⟩⟩) (fun _=>⟨[(4,.ptr 1 0),(5,pI 0),(6,pB false)],⟨[some ⟨26,[bA pw.gPackages]⟩,some ⟨116,[pS s_,.nil,.nil]⟩],[]⟩⟩) (f9 H) ?_ ?_
 ·rintro i1 ⟨⟩ H
  iterate 2 refine qS ?_
  refine qR (q1 aF (q1 (aZ gQ) (q1 (bB sE) (q1 (eM o3 (aK.trs_len _)) (q1 gU (qN ?_))))))
  refine eJ H (fun h3 h3l H=>?_) (fun h3 H=>?_)
  ·have h3n:=a7 h3
   refine aO.skip (qS (aO.block (qS (qR (q1 aF (qN ?_))))))
   refine J6 (σ:=Int) (fun v4=>⟨[(1,pS pname),(2,.ptr 0 0),(4,.ptr 1 0),(5,pI 0),(6,pB false),(7,pN i1),(8,pI v4),(9,pN i1),(10,.ptr 0 0),(11,bA pw.gPackages),(12,pN pw.gPackages.length),(13,pB (decide ((((i1:Nat):Int):Int)<((pw.gPackages.length:Nat):Int))))],⟨[some ⟨26,[bA pw.gPackages]⟩,some ⟨116,[pS s_,.nil,.nil]⟩],[]⟩⟩) (fun v4=>⟨[(1,pS pname),(2,.ptr 0 0),(4,.ptr 1 0),(5,pI 0),(6,pB false),(7,pN i1),(8,pI v4),(9,pN i1),(10,.ptr 0 0),(11,bA pw.gPackages),(12,pN pw.gPackages.length),(13,pB (decide ((((i1:Nat):Int):Int)<((pw.gPackages.length:Nat):Int))))],⟨[some ⟨26,[bA pw.gPackages]⟩,some ⟨116,[pS s_,.nil,.nil]⟩],[]⟩⟩) (f9 H) ?_ ?_
   ·rintro k5 v4 H
    iterate 2 refine qS ?_
    refine qR (q1 aF (q1 (aZ gQ) (q1 (bB sE) (q1 aF (gE H fun y6 h7 H=>(q1 (pA h7 h3n o3) (q1 (nD lX) (q1 (mR xA) ?_))))))))
    refine ZL 22 (aI.trs_len _) (fun hl8=>?_)
    refine q1 (eM t0 (aI.trs_len _)) (q1 gU (qN ?_))
    refine a9 H (fun h9 H=>?_) (fun h9 H=>?_)
    ·refine aO.skip (qS (aO.block (qS (qR (q1 (aZ gQ) (q1 (bB sE) (q1 aF (q1 (pA h7 h3n o3) (q1 (nD lX) (q1 (mR xA) (q1 aF (dK H fun z10 H=>(q1 (rIy z10 t0) ?_)))))))))))))
     refine q1 (nD GW) (q1 (mR e8) (q1 aF (q1 EC (qN ?_))))
     refine a9 H (fun h11 H=>?_) (fun h11 H=>?_)
     ·refine qS (qR (q1 (aZ gQ) (q1 (bB sE) (q1 aF (q1 (pA h7 h3n o3) (q1 (nD lX) (q1 (mR xA) (q1 aF (q1 (rIy z10 t0) (q1 (j7 (aI.cs (a5 y6.gDataTypes ((v4).toNat))) lT) (q1 aF (q1 (bV qU) ?_))))))))))))
      iterate 2 refine q1 aF ?_
      refine qN (aO.ret ?_)
      obtain rfl:_=r:=(pY (zV (lwR (aY H))):)
      exact qe3 (hr:=⟨⟨_,_,_,rfl,rfl,lT,rfl,rfl⟩,rfl,rfl,trivial⟩)
     refine aO.skip (qR (q1 aF (q1 (aW.addI rfl rfl rfl rfl (c:=v4+1) (by omega) (by omega)) (q1 aF (qN ?_)))))
     exact lwN ⟨_,(aY H:),bZ⟩
    refine aO.exit ?_;exact lwB ⟨_,(aY H:),bZ⟩
   rintro v4 H
   refine qR (q1 aF (q1 (aW.addI rfl rfl rfl rfl (c:=((i1+1:Nat):Int)) (by omega) (by omega)) (q1 aF (qN ?_))))
   exact jA h3l ⟨_,(aY H:),bZ⟩
  refine aO.exit ?_;exact k7 ⟨_,H,bZ⟩
 rintro⟨⟩ H
 refine qS (qR (q1 (fM qF MN) (q1 (bV qU) ?_)))
 iterate 2 refine q1 aF ?_
 refine qN (aO.ret ?_)
 obtain rfl:_=r:=(aY H:)
 exact qe3 (hr:=⟨⟨_,_,_,rfl,rfl,lT,rfl,rfl⟩,rfl,rfl,trivial⟩)
def NG(m:aM→aB→Option Int):Prop:= ∀(pw:aM) (pt:aB) (r:Int),m pw pt=some r→cH Tryz.prog 127 [(aM.pv pw),(aB.pv pt)] (pI r:PV)
def jT(fu:Nat)(pw:aM)(pt:aB):Option Int:=
 sw (!decide ((pt.gKind:Int)=2))
 (some (-1))
 (bd (uE fu pt.gName) (fun x3=>
 sw (x3)
 (some (-1))
 (bd (t6 fu pw pt.gName) (fun(x6,x7,x8)=>
 sw (!(x8))
 (some (-1))
 (some x7)))))
theorem zH(fu:Nat):NG (jT fu):=by
 intro pw pt r H
 have H:=fC H
 refine qI Tryz.func127 (fun C hC=>?_)
 refine qS (qR (q1 (lA ([bA pw.gPackages])) (q1 (lA (fB pt)) (q1 aF (qN ?_)))))
 iterate 2 refine qS ?_
 refine qR (q1 (aZ oQ) (q1 (bB iG) (q1 QI (q1 aF ?_))))
 refine dY 11 H (fun g1 H=>?_) fun g1 H=>?_
 ·refine qk g1 ?_
  iterate 2 refine qk g1 ?_
  refine q1 (bS g1) (qN (dT rfl (qS (qR (q1 aF (qN (aO.ret ?_)))))))
  obtain rfl:_=r:=(aY H:)
  exact bN
 refine qg g1 (aZ l6) (qg g1 (bB e8) (bO H fun x3 z2 H=>(qg g1 (bJ Tryz.func153 (ER fu pt.gName _ z2)) (q1 (b4 g1) (qN ?_)))))
 refine a9 H (fun h4 H=>?_) (fun h4 H=>?_)
 ·refine qS (qR (q1 aF (qN (aO.ret ?_))))
  obtain rfl:_=r:=(aY H:)
  exact bN
 refine aO.skip (qS (qR (q1 (c6 [bA pw.gPackages] nI) (q1 (aZ l6) (q1 (bB e8) (abO H fun x6 x7 x8 z5 H=>(q1 (bJ Tryz.func173 (OX fu pw pt.gName _ z5)) (q1 aF ?_))))))))
 iterate 3 refine q1 KJ ?_
 refine q1 (hH qF) (q1 (bV qU) ?_)
 iterate 2 refine q1 aF ?_
 refine qN ?_
 iterate 2 refine qS ?_
 refine qR (q1 aF (q1 gS (qN ?_)))
 refine a9 H (fun h9 H=>?_) (fun h9 H=>?_)
 ·refine qS (qR (q1 aF (qN (aO.ret ?_))))
  obtain rfl:_=r:=(aY H:)
  exact bN
 refine aO.skip (qS (qR ?_))
 iterate 2 refine q1 aF ?_
 refine qN (aO.ret ?_)
 obtain rfl:_=r:=(aY H:)
 exact bN
def yY(m:aM→aE→Option Bool):Prop:= ∀(pw:aM) (po:aE) (r:Bool),m pw po=some r→cH Tryz.prog 76 [(aM.pv pw),(aE.pv po)] (pB r:PV)
def jC(fu:Nat)(pw:aM)(po:aE):Option Bool:=
 bd (qL fu pw po) (fun(x2,x3)=>
 sw (!(x3))
 (some false)
 (bd (m7 fu pw x2.gTrait) (fun(x6,x7,x8)=>
 sw (x8)
 (sw (decide ((x7:Int)=po.gPackage))
 (some true)
 (bd (jT fu pw x2.gHead) (fun x12=>
 some (decide ((x12:Int)=po.gPackage)))))
 (bd (jT fu pw x2.gHead) (fun x14=>
 some (decide ((x14:Int)=po.gPackage)))))))
theorem xN(fu:Nat):yY (jC fu):=by
 intro pw po r H
 have H:=fC H
 refine qI Tryz.func76 (fun C hC=>?_)
 refine qS (qR (q1 (lA ([bA pw.gPackages])) (q1 (lA ([pI po.gPackage,pI po.gAt])) (q1 aF (qN (qS (qR (q1 (c6 [bA pw.gPackages] nI) (q1 (c6 [pI po.gPackage,pI po.gAt] KW) (f8 H fun x2 x3 z1 H=>(q1 (bJ Tryz.func77 (DI fu pw po _ z1)) (q1 aF ?_))))))))))))
 iterate 2 refine q1 KJ ?_
 refine q1 (hH sZ) (q1 (bV rB) (q1 aF (qN ?_)))
 iterate 2 refine qS ?_
 refine qR (q1 aF (q1 gS (qN ?_)))
 refine a9 H (fun h4 H=>?_) (fun h4 H=>?_)
 ·refine qS (qR (q1 aF (qN (aO.ret ?_))))
  obtain rfl:_=r:=(aY H:)
  exact bN
 refine aO.skip (qS (qR (q1 (c6 [bA pw.gPackages] nI) (q1 (aZ IU) (q1 (bB e8) (abO H fun x6 x7 x8 z5 H=>(q1 (bJ Tryz.func79 (AG fu pw x2.gTrait _ z5)) (q1 aF ?_))))))))
 iterate 3 refine q1 KJ ?_
 refine q1 (hH rY) (q1 (bV qY) ?_)
 iterate 2 refine q1 aF ?_
 refine qN (qS ?_)
 rcases jS (x8) with g9|g9
 ·have H:=oJ H g9
  rcases jS (decide ((x7:Int)=po.gPackage)) with g10|g10
  ·have H:=oJ H g10
   refine dW (dI [9] aF (dI [26] aF (dI (hg:=aT g9) [8] aF (dI (hg:=aT g9) [3] (aZ iS) (dD (hg:=aT g9) [29] (bB iG) (dI (hg:=aT g9) [28,30] dP (dI [27,31] (bS g9) (dI [32] aF ?_))))))))
   iterate 7 refine wD g10 ?_
   refine dI [33] (bS g10) (dI [41] aF (dN (aO.ret ?_)))
   obtain rfl:_=r:=(aY H:)
   exact bN
  have H:=oH H g10
  refine bO H fun x12 z11 H=>(dW (dI [9] aF (dI [26] aF (dI (hg:=aT g9) [8] aF (dI (hg:=aT g9) [3] (aZ iS) (dD (hg:=aT g9) [29] (bB iG) (dI (hg:=aT g9) [28,30] dP (dI [27,31] (bS g9) (dI [32] aF (dD (hg:=aT g10) [2] (c6 [bA pw.gPackages] nI) (dI (hg:=aT g10) [5] (aZ nB) (dD (hg:=aT g10) [35] (c6 [pI x2.gHead.gKind,pS x2.gHead.gName,a6 x2.gHead.gArgs] dL) (dI (hg:=aT g10) [34,36] (bJ Tryz.func127 (zH fu pw x2.gHead _ z11)) ?_)))))))))))))
  refine dI (hg:=aT g10) [3] (aZ iS) (dD (hg:=aT g10) [38] (bB iG) (dI (hg:=aT g10) [37,39] dP (dI [33,40] (b4 g10) (dI [41] aF (dN (aO.ret ?_))))))
  obtain rfl:_=r:=(aY H:)
  exact bN
 have H:=oH H g9
 refine bO H fun x14 z13 H=>(dW (dI [9] aF (dI [26] aF ?_)))
 iterate 4 refine wD g9 ?_
 refine dI [27] (b4 g9) (dI [32] aF (dD (hg:=aT rfl) [2] (c6 [bA pw.gPackages] nI) (dI (hg:=aT rfl) [5] (aZ nB) (dD (hg:=aT rfl) [35] (c6 [pI x2.gHead.gKind,pS x2.gHead.gName,a6 x2.gHead.gArgs] dL) (dI (hg:=aT rfl) [34,36] (bJ Tryz.func127 (zH fu pw x2.gHead _ z13)) (dI (hg:=aT rfl) [3] (aZ iS) (dD (hg:=aT rfl) [38] (bB iG) (dI (hg:=aT rfl) [37,39] dP (dI [33,40] (b4 rfl) (dI [41] aF (dN (aO.ret ?_))))))))))))
 obtain rfl:_=r:=(aY H:)
 exact bN
def FH(m:aM→Option ((List aE))):Prop:= ∀(pw:aM) (r:(List aE)),m pw=some r→cH Tryz.prog 25 [(aM.pv pw)] (jH r:PV)
def lE(fu:Nat)(pw:aM)(x2:List aE):Nat→((List aE))→Option (LR ((List aE)) ((List aE))):=
 fun i3 v5=>bd (jC fu pw (a5 x2 i3)) (fun x9=>
 sw (!(x9))
 (gd ((v5).length+(([(a5 x2 i3)]:List aE)).length≤68719476736)
 (some (.next (v5++([(a5 x2 i3)]:List aE)))))
 (some (.next v5)))
def tZ(fu:Nat)(pw:aM)(x2:List aE):Option (((List aE))⊕((List aE))):=
 loopN (lE fu pw x2) (x2.length-0) 0 ([])
def l3(fu:Nat)(pw:aM):Option ((List aE)):=
 bd (o7 fu pw) (fun x2=>
 so (tZ fu pw x2) (fun v5=>
 some v5))
theorem CT(fu:Nat):FH (l3 fu):=by
 intro pw r H
 have H:=fC H
 refine qI Tryz.func25 (fun C hC=>?_)
 refine qS (qR (q1 (lA ([bA pw.gPackages])) (q1 aF (qN (qS (qR (q1 (rC ([]:List aE) rN U2) (q1 aF (qN (qS (qR (q1 (c6 [bA pw.gPackages] nI) (bO H fun x2 z1 H=>?_)))))))))))))
 refine q1 (bJ Tryz.func75 (H1 fu pw _ z1)) (q1 aF (qN ?_))
 iterate 2 refine qS ?_
 refine qR (q1 aF (qN ?_))
 refine nF 4 (aE.trs_len _) (fun hl6=>?_)
 refine cG (σ:=(List aE)) (fun i3 v5=>⟨[(1,.ptr 0 0),(2,.nil),(3,iC v5 0),(4,jH x2),(5,pN i3)],⟨[some ⟨26,[bA pw.gPackages]⟩],[⟨45,2,aE.trs (v5),false⟩]⟩⟩) (fun v5=>⟨[(2,.nil),(3,iC v5 0)],⟨[some ⟨26,[bA pw.gPackages]⟩],[⟨45,2,aE.trs (v5),false⟩]⟩⟩) (f9 H) ?_ ?_
 ·rintro i3 v5 H
  iterate 2 refine qS ?_
  refine qR ?_
  iterate 2 refine q1 aF ?_
  refine q1 (eM rN (aE.trs_len _)) (q1 gU (qN ?_))
  refine eJ H (fun h7 h7l H=>?_) (fun h7 H=>?_)
  ·have h7n:=a7 h7
   refine aO.skip (qS (aO.block (qS (bO H fun x9 z8 H=>(dW (dD [1] (c6 [bA pw.gPackages] nI) (dI [4] aF (dI [5] aF (dI [16,17] (j0 h7n rN) (dI [18] (j7 (aE.cs (a5 x2 i3)) KW) (dI [15,19] (bJ Tryz.func76 (xN fu pw (a5 x2 i3) _ z8)) (dI [20] gS (dN ?_)))))))))))))
   refine a9 H (fun h10 H=>?_) (fun h10 H=>?_)
   ·refine qR ?_
    iterate 3 refine q1 aF ?_
    refine q1 (j0 h7n rN) (q1 (j7 (aE.cs (a5 x2 i3)) KW) (q1 (iI ([(a5 x2 i3)]:List aE) rN U2) (dK H fun z11 H=>(q1 (lC z11 rN ahP) (q1 aF (qN (qR (q1 aF (q1 (aW.addI rfl rfl rfl rfl (c:=((i3+1:Nat):Int)) (by omega) (by omega)) (q1 aF (qN ?_)))))))))))
    exact jA h7l ⟨_,(aY H:),bZ⟩
   refine aO.skip (qR (q1 aF (q1 (aW.addI rfl rfl rfl rfl (c:=((i3+1:Nat):Int)) (by omega) (by omega)) (q1 aF (qN ?_)))))
   exact jA h7l ⟨_,(aY H:),bZ⟩
  refine aO.exit ?_;exact k7 ⟨_,H,bZ⟩
 rintro v5 H
 refine qS (qR ?_)
 iterate 2 refine q1 aF ?_
 refine qN (aO.ret ?_)
 obtain rfl:_=r:=(aY H:)
 exact bN
abbrev l9:=aG→Option aG
def yI(m:l9):Prop:= ∀(pa0:aG) (r:aG),m pa0=some r→cH Tryz.prog 113 [(aG.pv pa0)] ((aG.pv r):PV)
def XJ(fu:Nat)(r_sl11Copy:l9)(pa0:aG)(x2:List aB):Nat→((List aG))→Option (LR ((List aG)) aG):=
 fun i3 v5=>lt (a5 pa0.gArgs i3) (fun y8=>
 bd (r_sl11Copy y8) (fun x11=>
 gd ((v5).length+(([x11]:List aG)).length≤68719476736)
 (some (.next (v5++([x11]:List aG))))))
def UV(fu:Nat)(r_sl11Copy:l9)(pa0:aG)(x2:List aB):Option (aG⊕((List aG))):=
 loopN (XJ fu r_sl11Copy pa0 x2) (pa0.gArgs.length-0) 0 ([])
def U0(fu:Nat)(r_sl11Copy:l9)(pa0:aG)(x2:List aB)(v5:List aG):Nat→((List bC))→Option (LR ((List bC)) aG):=
 fun i13 v15=>lt (a5 pa0.gArms i13) (fun y18=>
 gd (([]:List ByteArray).length+(y18.gVars).length≤68719476736)
 (bd (r_sl11Copy y18.gBody) (fun x22=>
 gd ((v15).length+(([(bC.mk y18.gConstructor (([])++y18.gVars) x22)]:List bC)).length≤68719476736)
 (some (.next (v15++([(bC.mk y18.gConstructor (([])++y18.gVars) x22)]:List bC)))))))
def V0(fu:Nat)(r_sl11Copy:l9)(pa0:aG)(x2:List aB)(v5:List aG):Option (aG⊕((List bC))):=
 loopN (U0 fu r_sl11Copy pa0 x2 v5) (pa0.gArms.length-0) 0 ([])
def FF(fu:Nat)(r_sl11Copy:l9)(pa0:aG):Option aG:=
 bd (eY fu pa0.gType.gArgs) (fun x2=>
 so (UV fu r_sl11Copy pa0 x2) (fun v5=>
 so (V0 fu r_sl11Copy pa0 x2 v5) (fun v15=>
 some (aG.mk pa0.gKind pa0.gTrait pa0.gName pa0.gN (aB.mk pa0.gType.gKind pa0.gType.gName x2) v5 v15))))
theorem N9(fu:Nat)(r_sl11Copy:l9)(h_sl11Copy:yI r_sl11Copy):yI (FF fu r_sl11Copy):=by
 intro pa0 r H
 have H:=fC H
 refine qI Tryz.func113 (fun C hC=>?_)
 refine qS (qR (q1 (lA (gK pa0)) (q1 (hH jD) (qN (qS (bO H fun x2 z1 H=>(dW (dI [1] (aZ pP) (dI [7] (aZ oQ) (dD [8] (bB iG) (dI [1] (aZ pP) (dI [10] (aZ l6) (dD [11] (bB e8) ?_)))))))))))))
 refine dI [1] (aZ pP) (dI [13] (aZ iT) (dD [14] (bB nY) (dI [15] (bJ Tryz.func122 (GL fu pa0.gType.gArgs _ z1)) (dI [9,12,16] (fM jO zM) (dI [1] (aZ pP) (mZ [18,17] (bV iV) (dN (qS (qR (q1 (rC ([]:List aG) lB jD) (q1 aF (qN ?_))))))))))))
 iterate 2 refine qS ?_
 refine qR (q1 aF (qN ?_))
 refine aO.fact (cB 0 7 rfl rfl rfl (aG.trs_len _)) (fun hl6=>?_)
 refine cG (σ:=(List aG)) (fun i3 v5=>⟨[(1,.ptr 0 0),(2,.ptr 1 0),(3,L0 v5 0),(4,pN i3)],⟨[some ⟨87,[pI pa0.gKind,pS pa0.gTrait,pS pa0.gName,pI pa0.gN,pI pa0.gType.gKind,pS pa0.gType.gName,a6 x2,fD pa0.gArgs,lH pa0.gArms]⟩,some ⟨87,[pI 0,pS s_,pS s_,pI 0,pI 0,pS s_,.nil,.nil,.nil]⟩],[⟨87,9,aG.trs (v5),false⟩]⟩⟩) (fun v5=>⟨[(1,.ptr 0 0),(2,.ptr 1 0),(3,L0 v5 0)],⟨[some ⟨87,[pI pa0.gKind,pS pa0.gTrait,pS pa0.gName,pI pa0.gN,pI pa0.gType.gKind,pS pa0.gType.gName,a6 x2,fD pa0.gArgs,lH pa0.gArms]⟩,some ⟨87,[pI 0,pS s_,pS s_,pI 0,pI 0,pS s_,.nil,.nil,.nil]⟩],[⟨87,9,aG.trs (v5),false⟩]⟩⟩) (f9 H) ?_ ?_
 ·rintro i3 v5 H
  iterate 2 refine qS ?_
  refine qR (q1 aF (q1 (aZ gW) (q1 (bB rI) (q1 (eM lB (aG.trs_len _)) (q1 gU (qN ?_))))))
  refine eJ H (fun h7 h7l H=>?_) (fun h7 H=>?_)
  ·have h7n:=a7 h7
   refine aO.skip (qS (aO.block (qR (q1 aF (q1 (aZ gW) (q1 (bB rI) (q1 aF (gE H fun y8 h9 H=>(q1 (pA h9 h7n lB) (q1 (j7 (aG.cs y8) gC) (bO H fun x11 z10 H=>(q1 (bJ Tryz.func113 (h_sl11Copy y8 _ z10)) (q1 (iI ([x11]:List aG) lB jD) ?_)))))))))))))
   refine dK H fun z12 H=>(q1 (lC z12 lB ag2) (q1 aF (qN (qR (q1 aF (q1 (aW.addI rfl rfl rfl rfl (c:=((i3+1:Nat):Int)) (by omega) (by omega)) (q1 aF (qN ?_))))))))
   exact jA h7l ⟨_,(aY H:),bZ⟩
  refine aO.exit ?_;exact k7 ⟨_,H,bZ⟩
 rintro v5 H
 refine qS (qR (q1 (rC ([]:List bC) mL KT) (q1 aF (qN ?_))))
 iterate 2 refine qS ?_
 refine qR (q1 aF (qN ?_))
 refine aO.fact (cB 0 8 rfl rfl rfl (bC.trs_len _)) (fun hl16=>?_)
 refine cG (σ:=(List bC)) (fun i13 v15=>⟨[(1,.ptr 0 0),(2,.ptr 1 0),(3,L0 v5 0),(5,acX v15 1),(6,pN i13)],⟨[some ⟨87,[pI pa0.gKind,pS pa0.gTrait,pS pa0.gName,pI pa0.gN,pI pa0.gType.gKind,pS pa0.gType.gName,a6 x2,fD pa0.gArgs,lH pa0.gArms]⟩,some ⟨87,[pI 0,pS s_,pS s_,pI 0,pI 0,pS s_,.nil,.nil,.nil]⟩],[⟨87,9,aG.trs (v5),false⟩,⟨92,11,bC.trs (v15),false⟩]⟩⟩) (fun v15=>⟨[(1,.ptr 0 0),(2,.ptr 1 0),(3,L0 v5 0),(5,acX v15 1)],⟨[some ⟨87,[pI pa0.gKind,pS pa0.gTrait,pS pa0.gName,pI pa0.gN,pI pa0.gType.gKind,pS pa0.gType.gName,a6 x2,fD pa0.gArgs,lH pa0.gArms]⟩,some ⟨87,[pI 0,pS s_,pS s_,pI 0,pI 0,pS s_,.nil,.nil,.nil]⟩],[⟨87,9,aG.trs (v5),false⟩,⟨92,11,bC.trs (v15),false⟩]⟩⟩) (f9 H) ?_ ?_
 ·rintro i13 v15 H
  iterate 2 refine qS ?_
  refine qR (q1 aF (q1 (aZ fE) (q1 (bB oP) (q1 (eM mL (bC.trs_len _)) (q1 gU (qN ?_))))))
  refine eJ H (fun h17 h17l H=>?_) (fun h17 H=>?_)
  ·have h17n:=a7 h17
   refine aO.skip (qS (aO.block (gE H fun y18 h19 H=>(dK H fun z20 H=>(bO H fun x22 z21 H=>(dK H fun z23 H=>(dW (dI [5] aF (dI [1] (aZ fE) (dB [45] 0 2 (s5 oP) (dI [6] aF (dI [46,47] (pA h19 h17n mL) (dI [48] (nD yZ) ?_)))))))))))))
   refine dI [49] (mR e8) (dE [] (rC ([]:List ByteArray) bW jZ) (dI [1] (aZ fE) (dB [52] 0 1 (s5 oP) (dI [6] aF (dI [53,54] (pA h19 h17n mL) (dI [55] (nD yX) (dI [56] (mR jM) (dE [51,57] (lC z20 bW oT) (dI [1] (aZ fE) (dB [59] 0 2 (s5 oP) (dI [6] aF (dI [60,61] (pA h19 h17n mL) (dI [62] (nD EK) ?_)))))))))))))
   refine dI [63] (j7 (aG.cs y18.gBody) gC) (dI [64] (bJ Tryz.func113 (h_sl11Copy y18.gBody _ z21)) (dI [50,58,65] (fM KT aeZ) (dI [66] (iI ([(bC.mk y18.gConstructor (([])++y18.gVars) x22)]:List bC) mL KT) (dE [44,67] (lC z23 mL ahX) (dI [68] aF (dN (qR (q1 aF (q1 (aW.addI rfl rfl rfl rfl (c:=((i13+1:Nat):Int)) (by omega) (by omega)) (q1 aF (qN ?_)))))))))))
   exact jA h17l ⟨_,(aY H:),bZ⟩
  refine aO.exit ?_;exact k7 ⟨_,H,bZ⟩
 rintro v15 H
 refine qS (qR (q1 aF (q1 (aZ gW) (q1 (bV ai7) (qN (qS (qR (q1 aF (q1 (aZ fE) (q1 (bV aiD) (qN (qS (qR ?_)))))))))))))
 refine q1 (c6 [pI pa0.gKind,pS pa0.gTrait,pS pa0.gName,pI pa0.gN,pI pa0.gType.gKind,pS pa0.gType.gName,a6 x2,L0 v5 0,acX v15 1] gC) (q1 (bV nH) (qN (aO.ret ?_)))
 obtain rfl:_=r:=(aY H:)
 exact bN (hr:=⟨⟨_,_,_,rfl,rfl,gC,rfl,rfl⟩,trivial⟩)
def jQ:Nat→aG→Option aG
 |0,_=>none
 |fu+1,pa0=>FF fu (jQ fu) pa0
theorem RH(fu:Nat):yI (jQ fu):=by
 induction fu with
 |zero=>exact(fun pa0 r H=>by simp only [jQ] at H;cases H)
 |succ fu ih=>exact(fun pa0 r H=>by simp only [jQ] at H;exact N9 fu (jQ fu) ih pa0 r H)
theorem JU(fu:Nat):yI (jQ fu):=(RH fu)
def ST(m:(List aJ)→Option ((List aJ))):Prop:= ∀(plist:List aJ) (r:(List aJ)),m plist=some r→cH Tryz.prog 128 [eK plist] (eK r:PV)
def PG(fu:Nat)(plist:List aJ):Nat→((List aJ))→Option (LR ((List aJ)) ((List aJ))):=
 fun i1 v3=>bd (fN fu ((a5 plist i1).gType)) (fun x7=>
 gd ((v3).length+(([(aJ.mk ((a5 plist i1).gTrait) x7)]:List aJ)).length≤68719476736)
 (some (.next (v3++([(aJ.mk ((a5 plist i1).gTrait) x7)]:List aJ)))))
def N6(fu:Nat)(plist:List aJ):Option (((List aJ))⊕((List aJ))):=
 loopN (PG fu plist) (plist.length-0) 0 ([])
def zB(fu:Nat)(plist:List aJ):Option ((List aJ)):=
 so (N6 fu plist) (fun v3=>
 some v3)
theorem OF(fu:Nat):ST (zB fu):=by
 intro plist r H
 have H:=fC H
 refine qI Tryz.func128 (fun C hC=>?_)
 refine qS (qR (q1 aF (qN (qS (qR (q1 (rC ([]:List aJ) vF GZ) (q1 aF (qN ?_))))))))
 iterate 2 refine qS ?_
 refine qR (q1 aF (qN ?_))
 refine nF 0 (aJ.trs_len _) (fun hl4=>?_)
 refine cG (σ:=(List aJ)) (fun i1 v3=>⟨[(0,eK plist),(2,.nil),(3,RU v3 0),(4,pN i1)],⟨[],[⟨37,4,aJ.trs (v3),false⟩]⟩⟩) (fun v3=>⟨[(2,.nil),(3,RU v3 0)],⟨[],[⟨37,4,aJ.trs (v3),false⟩]⟩⟩) (f9 H) ?_ ?_
 ·rintro i1 v3 H
  iterate 2 refine qS ?_
  refine qR ?_
  iterate 2 refine q1 aF ?_
  refine q1 (eM vF (aJ.trs_len _)) (q1 gU (qN ?_))
  refine eJ H (fun h5 h5l H=>?_) (fun h5 H=>?_)
  ·have h5n:=a7 h5
   refine aO.skip (qS (aO.block (bO H fun x7 z6 H=>(dK H fun z8 H=>(dW (dI [3] aF (dI [0] aF (dI [4] aF (dI [13,14] (j0 h5n vF) (dI [15] (nD ZD) (dI [16] (mR e8) (dI [0] aF (dI [4] aF ?_)))))))))))))
   refine dI [18,19] (j0 h5n vF) (dI [20] (nD JH) (dI [21] (j7 (aB.cs ((a5 plist i1).gType)) dL) (dI [22] (bJ Tryz.func60 (uY fu ((a5 plist i1).gType) _ z6)) (dI [17,23] (fM GZ acC) (dI [24] (iI ([(aJ.mk ((a5 plist i1).gTrait) x7)]:List aJ) vF GZ) (dE [12,25] (lC z8 vF ahE) (dI [26] aF (dN (qR (q1 aF (q1 (aW.addI rfl rfl rfl rfl (c:=((i1+1:Nat):Int)) (by omega) (by omega)) (q1 aF (qN ?_)))))))))))))
   exact jA h5l ⟨_,(aY H:),bZ⟩
  refine aO.exit ?_;exact k7 ⟨_,H,bZ⟩
 rintro v3 H
 refine qS (qR ?_)
 iterate 2 refine q1 aF ?_
 refine qN (aO.ret ?_)
 obtain rfl:_=r:=(aY H:)
 exact bN
def ZW(m:aH→Option aH):Prop:= ∀(px:aH) (r:aH),m px=some r→cH Tryz.prog 78 [(aH.pv px)] ((aH.pv r):PV)
def J0(fu:Nat)(px:aH):Nat→((List aN))→Option (LR ((List aN)) aH):=
 fun i1 v3=>lt (a5 px.gMethods i1) (fun y6=>
 gd (([]:List ByteArray).length+(y6.gVars).length≤68719476736)
 (bd (jQ fu y6.gBody) (fun x10=>
 gd ((v3).length+(([(aN.mk y6.gName (([])++y6.gVars) x10)]:List aN)).length≤68719476736)
 (some (.next (v3++([(aN.mk y6.gName (([])++y6.gVars) x10)]:List aN)))))))
def KB(fu:Nat)(px:aH):Option (aH⊕((List aN))):=
 loopN (J0 fu px) (px.gMethods.length-0) 0 ([])
def r7(fu:Nat)(px:aH):Option aH:=
 so (KB fu px) (fun v3=>
 gd (([]:List ByteArray).length+(px.gVars).length≤68719476736)
 (bd (fN fu px.gHead) (fun x14=>
 bd (zB fu px.gWhere) (fun x16=>
 bd (fN fu px.gAssoc) (fun x18=>
 some (aH.mk px.gTrait (([])++px.gVars) x14 x16 px.gDefault px.gHasAssoc x18 v3))))))
theorem T7(fu:Nat):ZW (r7 fu):=by
 intro px r H
 have H:=fC H
 refine qI Tryz.func78 (fun C hC=>?_)
 refine qS (qR (q1 (lA (iP px)) (q1 (hH sZ) (qN (qS (qR (q1 (rC ([]:List aN) FZ DN) (q1 aF (qN ?_)))))))))
 iterate 2 refine qS ?_
 refine qR (q1 aF (qN ?_))
 refine aO.fact (cB 0 11 rfl rfl rfl (aN.trs_len _)) (fun hl4=>?_)
 refine cG (σ:=(List aN)) (fun i1 v3=>⟨[(1,.ptr 0 0),(2,.ptr 1 0),(3,zF v3 0),(4,pN i1)],⟨[some ⟨55,iP px⟩,some ⟨55,[pS s_,.nil,pI 0,pS s_,.nil,.nil,pB false,pB false,pI 0,pS s_,.nil,.nil]⟩],[⟨161,11,aN.trs (v3),false⟩]⟩⟩) (fun v3=>⟨[(1,.ptr 0 0),(2,.ptr 1 0),(3,zF v3 0)],⟨[some ⟨55,iP px⟩,some ⟨55,[pS s_,.nil,pI 0,pS s_,.nil,.nil,pB false,pB false,pI 0,pS s_,.nil,.nil]⟩],[⟨161,11,aN.trs (v3),false⟩]⟩⟩) (f9 H) ?_ ?_
 ·rintro i1 v3 H
  iterate 2 refine qS ?_
  refine qR (q1 aF (q1 (aZ uU) (q1 (bB SH) (q1 (eM FZ (aN.trs_len _)) (q1 gU (qN ?_))))))
  refine eJ H (fun h5 h5l H=>?_) (fun h5 H=>?_)
  ·have h5n:=a7 h5
   refine aO.skip (qS (aO.block (qS (qR (q1 (aZ uU) (q1 (bB SH) (q1 aF (gE H fun y6 h7 H=>(q1 (pA h7 h5n FZ) (q1 (j7 (aN.cs y6) adU) (q1 (hH DN) (q1 (bV aeF) (qN ?_)))))))))))))
   refine dK H fun z8 H=>(bO H fun x10 z9 H=>(dK H fun z11 H=>(dW (dI [3] aF (dI [5] (aZ Q3) (dB [20] 0 2 (s5 e8) (dE [] (rC ([]:List ByteArray) bW jZ) (dI [5] (aZ BL) (dB [23] 0 1 (s5 jM) (dE [22,24] (lC z8 bW oT) (dI [5] (aZ LM) (dB [26] 0 2 (PY [pI y6.gBody.gKind,pS y6.gBody.gTrait,pS y6.gBody.gName,pI y6.gBody.gN,pI y6.gBody.gType.gKind,pS y6.gBody.gType.gName,a6 y6.gBody.gType.gArgs,fD y6.gBody.gArgs,lH y6.gBody.gArms] gC) (dI [27] (bJ Tryz.func113 (JU fu y6.gBody _ z9)) ?_)))))))))))))
   refine dI [21,25,28] (fM DN aeY) (dI [29] (iI ([(aN.mk y6.gName (([])++y6.gVars) x10)]:List aN) FZ DN) (dE [19,30] (lC z11 FZ ah5) (dI [31] aF (dN (qR (q1 aF (q1 (aW.addI rfl rfl rfl rfl (c:=((i1+1:Nat):Int)) (by omega) (by omega)) (q1 aF (qN ?_)))))))))
   exact jA h5l ⟨_,(aY H:),bZ⟩
  refine aO.exit ?_;exact k7 ⟨_,H,bZ⟩
 rintro v3 H
 refine qS (qR (q1 aF (q1 (aZ uU) (q1 (bV ah3) (qN (qS (qR (q1 (rC ([]:List ByteArray) bW jZ) (q1 (aZ pM) (q1 (bB jM) (dK H fun z12 H=>(q1 (lC z12 bW oT) (q1 (aZ pM) ?_)))))))))))))
 refine q1 (bV E8) (qN (qS (qR (q1 (aZ nB) (q1 (c6 [pI px.gHead.gKind,pS px.gHead.gName,a6 px.gHead.gArgs] dL) (bO H fun x14 z13 H=>(q1 (bJ Tryz.func60 (uY fu px.gHead _ z13)) (q1 (aZ nB) (q1 (bV iV) (qN (qS (qR (q1 (aZ AU) ?_)))))))))))))
 refine q1 (bB ZR) (bO H fun x16 z15 H=>(q1 (bJ Tryz.func128 (OF fu px.gWhere _ z15)) (q1 (aZ AU) (q1 (bV af8) (qN (qS (qR (q1 (aZ AJ) (q1 (c6 [pI px.gAssoc.gKind,pS px.gAssoc.gName,a6 px.gAssoc.gArgs] dL) (bO H fun x18 z17 H=>(q1 (bJ Tryz.func60 (uY fu px.gAssoc _ z17)) (q1 (aZ AJ) (q1 (bV iV) ?_)))))))))))))
 refine qN (qS (qR (q1 (c6 [pS px.gTrait,aS (([])++px.gVars) 1,pI x14.gKind,pS x14.gName,a6 x14.gArgs,eK x16,pB px.gDefault,pB px.gHasAssoc,pI x18.gKind,pS x18.gName,a6 x18.gArgs,zF v3 0] nA) (q1 (bV rB) (qN (aO.ret ?_))))))
 obtain rfl:_=r:=(aY H:)
 exact bN (hr:=⟨⟨_,_,_,rfl,rfl,nA,rfl,rfl⟩,trivial⟩)
def N5(m:aM→aE→Option (aH×Bool)):Prop:= ∀(pw:aM) (po:aE) (r:aH×Bool),m pw po=some r→cH Tryz.prog 26 [(aM.pv pw),(aE.pv po)] (.tup [(aH.pv r.1),pB r.2]:PV)
def wI(fu:Nat)(pw:aM)(po:aE):Option (aH×Bool):=
 bd (qL fu pw po) (fun(x2,x3)=>
 bd (r7 fu x2) (fun x5=>
 some (x5,x3)))
theorem L1(fu:Nat):N5 (wI fu):=by
 intro pw po r H
 have H:=fC H
 refine qI Tryz.func26 (fun C hC=>?_)
 refine qS (qR (q1 (lA ([bA pw.gPackages])) (q1 (lA ([pI po.gPackage,pI po.gAt])) (q1 (hH sZ) (q1 aF (qN (qS (qR (q1 (c6 [bA pw.gPackages] nI) (q1 (c6 [pI po.gPackage,pI po.gAt] KW) (f8 H fun x2 x3 z1 H=>(q1 (bJ Tryz.func77 (DI fu pw po _ z1)) (q1 aF ?_)))))))))))))
 iterate 2 refine q1 KJ ?_
 refine q1 (hH sZ) (q1 (bV rB) (q1 aF (qN (qS (qR (q1 (c6 [pS x2.gTrait,rS x2.gVars,pI x2.gHead.gKind,pS x2.gHead.gName,a6 x2.gHead.gArgs,eK x2.gWhere,pB x2.gDefault,pB x2.gHasAssoc,pI x2.gAssoc.gKind,pS x2.gAssoc.gName,a6 x2.gAssoc.gArgs,jY x2.gMethods] nA) (bO H fun x5 z4 H=>(q1 (bJ Tryz.func78 (T7 fu x2 _ z4)) (q1 aF (q1 (bV rB) (q1 aF (qN (aO.ret ?_)))))))))))))
 obtain rfl:_=r:=(aY H:)
 exact rA (hr:=⟨⟨_,_,_,rfl,rfl,nA,rfl,rfl⟩,rfl,trivial⟩)
def abL(m:aD→Option aD):Prop:= ∀(ps:aD) (r:aD),m ps=some r→cH Tryz.prog 129 [(aD.pv ps)] ((aD.pv r):PV)
def JM(fu:Nat)(ps:aD):Option aD:=
 bd (eY fu ps.gParams) (fun x2=>
 bd (fN fu ps.gResult) (fun x4=>
 gd (([]:List ByteArray).length+(ps.gVars).length≤68719476736)
 (bd (jQ fu ps.gBody) (fun x7=>
 some (aD.mk ps.gName x2 x4 ps.gHasDefault (([])++ps.gVars) x7)))))
theorem X7(fu:Nat):abL (JM fu):=by
 intro ps r H
 have H:=fC H
 refine qI Tryz.func129 (fun C hC=>?_)
 refine qS (qR (q1 (lA (MK ps)) (q1 (hH s6) (qN (qS (qR (q1 (aZ B5) (q1 (bB nY) (bO H fun x2 z1 H=>(q1 (bJ Tryz.func122 (GL fu ps.gParams _ z1)) (q1 (aZ B5) (q1 (bV ah2) (qN ?_)))))))))))))
 refine qS (qR (q1 (aZ CB) (q1 (c6 [pI ps.gResult.gKind,pS ps.gResult.gName,a6 ps.gResult.gArgs] dL) (bO H fun x4 z3 H=>(q1 (bJ Tryz.func60 (uY fu ps.gResult _ z3)) (q1 (aZ CB) (q1 (bV iV) (qN (qS (qR (q1 (rC ([]:List ByteArray) bW jZ) (q1 (aZ vR) (q1 (bB jM) ?_)))))))))))))
 refine dK H fun z5 H=>(q1 (lC z5 bW oT) (q1 (aZ vR) (q1 (bV E8) (qN (qS (qR (q1 (aZ BY) (q1 (c6 [pI ps.gBody.gKind,pS ps.gBody.gTrait,pS ps.gBody.gName,pI ps.gBody.gN,pI ps.gBody.gType.gKind,pS ps.gBody.gType.gName,a6 ps.gBody.gType.gArgs,fD ps.gBody.gArgs,lH ps.gBody.gArms] gC) (bO H fun x7 z6 H=>(q1 (bJ Tryz.func113 (JU fu ps.gBody _ z6)) (q1 (aZ BY) (q1 (bV nH) (qN ?_)))))))))))))
 refine qS (qR (q1 (c6 [pS ps.gName,a6 x2,pI x4.gKind,pS x4.gName,a6 x4.gArgs,pB ps.gHasDefault,aS (([])++ps.gVars) 0,pI x7.gKind,pS x7.gTrait,pS x7.gName,pI x7.gN,pI x7.gType.gKind,pS x7.gType.gName,a6 x7.gType.gArgs,fD x7.gArgs,lH x7.gArms] JV) (q1 (bV aeS) (qN (aO.ret ?_)))))
 obtain rfl:_=r:=(aY H:)
 exact bN (hr:=⟨⟨_,_,_,rfl,rfl,JV,rfl,rfl⟩,trivial⟩)
def VG(m:aP→Option aP):Prop:= ∀(pt:aP) (r:aP),m pt=some r→cH Tryz.prog 80 [(aP.pv pt)] ((aP.pv r):PV)
def R1(fu:Nat)(pt:aP):Nat→((List aD))→Option (LR ((List aD)) aP):=
 fun i1 v3=>lt (a5 pt.gSignatures i1) (fun y6=>
 bd (JM fu y6) (fun x9=>
 gd ((v3).length+(([x9]:List aD)).length≤68719476736)
 (some (.next (v3++([x9]:List aD))))))
def RK(fu:Nat)(pt:aP):Option (aP⊕((List aD))):=
 loopN (R1 fu pt) (pt.gSignatures.length-0) 0 ([])
def vQ(fu:Nat)(pt:aP):Option aP:=
 so (RK fu pt) (fun v3=>
 gd (([]:List ByteArray).length+(pt.gSupertraits).length≤68719476736)
 (some (aP.mk pt.gName (([])++pt.gSupertraits) pt.gAuto pt.gAssoc v3)))
theorem SW(fu:Nat):VG (vQ fu):=by
 intro pt r H
 have H:=fC H
 refine qI Tryz.func80 (fun C hC=>?_)
 refine qS (qR (q1 (lA (uV pt)) (q1 (hH rY) (qN (qS (qR (q1 (rC ([]:List aD) qT s6) (q1 aF (qN ?_)))))))))
 iterate 2 refine qS ?_
 refine qR (q1 aF (qN ?_))
 refine aO.fact (cB 0 4 rfl rfl rfl (aD.trs_len _)) (fun hl4=>?_)
 refine cG (σ:=(List aD)) (fun i1 v3=>⟨[(1,.ptr 0 0),(2,.ptr 1 0),(3,gR v3 0),(4,pN i1)],⟨[some ⟨60,uV pt⟩,some ⟨60,[pS s_,.nil,pB false,pB false,.nil]⟩],[⟨164,16,aD.trs (v3),false⟩]⟩⟩) (fun v3=>⟨[(1,.ptr 0 0),(2,.ptr 1 0),(3,gR v3 0)],⟨[some ⟨60,uV pt⟩,some ⟨60,[pS s_,.nil,pB false,pB false,.nil]⟩],[⟨164,16,aD.trs (v3),false⟩]⟩⟩) (f9 H) ?_ ?_
 ·rintro i1 v3 H
  iterate 2 refine qS ?_
  refine qR (q1 aF (q1 (aZ jB) (q1 (bB zU) (q1 (eM qT (aD.trs_len _)) (q1 gU (qN ?_))))))
  refine eJ H (fun h5 h5l H=>?_) (fun h5 H=>?_)
  ·have h5n:=a7 h5
   refine aO.skip (qS (aO.block (qR (q1 aF (q1 (aZ jB) (q1 (bB zU) (q1 aF (gE H fun y6 h7 H=>(q1 (pA h7 h5n qT) (q1 (j7 (aD.cs y6) JV) (bO H fun x9 z8 H=>(q1 (bJ Tryz.func129 (X7 fu y6 _ z8)) (q1 (iI ([x9]:List aD) qT s6) ?_)))))))))))))
   refine dK H fun z10 H=>(q1 (lC z10 qT ab0) (q1 aF (qN (qR (q1 aF (q1 (aW.addI rfl rfl rfl rfl (c:=((i1+1:Nat):Int)) (by omega) (by omega)) (q1 aF (qN ?_))))))))
   exact jA h5l ⟨_,(aY H:),bZ⟩
  refine aO.exit ?_;exact k7 ⟨_,H,bZ⟩
 rintro v3 H
 refine qS (qR (q1 aF (q1 (aZ jB) (q1 (bV abH) (qN (qS (qR (q1 (rC ([]:List ByteArray) bW jZ) (q1 (aZ vE) (q1 (bB jM) (dK H fun z11 H=>(q1 (lC z11 bW oT) (q1 (aZ vE) ?_)))))))))))))
 refine q1 (bV E8) (qN (qS (qR (q1 (c6 [pS pt.gName,aS (([])++pt.gSupertraits) 1,pB pt.gAuto,pB pt.gAssoc,gR v3 0] mU) (q1 (bV qY) (qN (aO.ret ?_)))))))
 obtain rfl:_=r:=(aY H:)
 exact bN (hr:=⟨⟨_,_,_,rfl,rfl,mU,rfl,rfl⟩,trivial⟩)
def S6(m:aM→ByteArray→Option (aP×Int×Bool)):Prop:= ∀(pw:aM) (pname:ByteArray) (r:aP×Int×Bool),m pw pname=some r→cH Tryz.prog 27 [(aM.pv pw),pS pname] (.tup [(aP.pv r.1),pI r.2.1,pB r.2.2]:PV)
def t3(fu:Nat)(pw:aM)(pname:ByteArray):Option (aP×Int×Bool):=
 bd (m7 fu pw pname) (fun(x2,x3,x4)=>
 bd (vQ fu x2) (fun x6=>
 some (x6,x3,x4)))
theorem OA(fu:Nat):S6 (t3 fu):=by
 intro pw pname r H
 have H:=fC H
 refine qI Tryz.func27 (fun C hC=>?_)
 refine qS (qR (q1 (lA ([bA pw.gPackages])) (q1 (hH rY) ?_)))
 iterate 2 refine q1 aF ?_
 refine qN (qS (qR (q1 (c6 [bA pw.gPackages] nI) (q1 aF (abO H fun x2 x3 x4 z1 H=>(q1 (bJ Tryz.func79 (AG fu pw pname _ z1)) (q1 aF ?_)))))))
 iterate 3 refine q1 KJ ?_
 refine q1 (hH rY) (q1 (bV qY) ?_)
 iterate 2 refine q1 aF ?_
 refine qN (qS (qR (q1 (c6 [pS x2.gName,rS x2.gSupertraits,pB x2.gAuto,pB x2.gAssoc,hM x2.gSignatures] mU) (bO H fun x6 z5 H=>(q1 (bJ Tryz.func80 (SW fu x2 _ z5)) ?_)))))
 iterate 2 refine q1 aF ?_
 refine q1 (bV qY) ?_
 iterate 2 refine q1 aF ?_
 refine qN (aO.ret ?_)
 obtain rfl:_=r:=(aY H:)
 exact qe3 (hr:=⟨⟨_,_,_,rfl,rfl,mU,rfl,rfl⟩,rfl,rfl,trivial⟩)
def RQ(m:(List aE)→(List aE)→Option Bool):Prop:= ∀(pa:List aE) (pb:List aE) (r:Bool),m pa pb=some r→cH Tryz.prog 19 [jH pa,jH pb] (pB r:PV)
def wF(fu:Nat)(pa pb:List aE):Nat→Unit→Option (LR Unit Bool):=
 fun i2 _=>gd (i2<(pb).length)
 (sw (!(decide (((a5 pa i2).gPackage:Int)=(a5 pb i2).gPackage)&&decide (((a5 pa i2).gAt:Int)=(a5 pb i2).gAt)))
 (some (.ret false))
 (some (.next ())))
def DM(fu:Nat)(pa pb:List aE):Option (Bool⊕Unit):=
 loopN (wF fu pa pb) (pa.length-0) 0 ()
def q7(fu:Nat)(pa pb:List aE):Option Bool:=
 sw (!decide ((((pa.length:Nat):Int):Int)=((pb.length:Nat):Int)))
 (some false)
 (so (DM fu pa pb) (fun _=>
 some true))
theorem O8(fu:Nat):RQ (q7 fu):=by
 intro pa pb r H
 have H:=fC H
 refine qI Tryz.func19 (fun C hC=>?_)
 refine qS (qR (q1 aF (qN ?_)))
 iterate 2 refine qS ?_
 refine qR (q1 aF (q1 (eM rN (aE.trs_len _)) (q1 aF (q1 (eM rN (aE.trs_len _)) (q1 QI (qN ?_))))))
 refine a9 H (fun h1 H=>?_) (fun h1 H=>?_)
 ·refine qS (qR (q1 aF (qN (aO.ret ?_))))
  obtain rfl:_=r:=(aY H:)
  exact bN
 refine aO.skip ?_
 iterate 2 refine qS ?_
 refine qR (q1 aF (qN ?_))
 refine nF 0 (aE.trs_len _) (fun hl3=>?_)
 refine cG (σ:=Unit) (fun i2 _=>⟨[(0,jH pa),(1,jH pb),(4,pB false),(5,pN i2)],⟨[],[]⟩⟩) (fun _=>⟨[(4,pB false)],⟨[],[]⟩⟩) (f9 H) ?_ ?_
 ·rintro i2 ⟨⟩ H
  iterate 2 refine qS ?_
  refine qR ?_
  iterate 2 refine q1 aF ?_
  refine q1 (eM rN (aE.trs_len _)) (q1 gU (qN ?_))
  refine eJ H (fun h4 h4l H=>?_) (fun h4 H=>?_)
  ·have h4n:=a7 h4
   refine aO.skip (qS (aO.block (qS (dK H fun z5 H=>(dW (dI [0] aF (dI [5] aF (dI [17,18] (j0 h4n rN) (dI [19] (j7 (aE.cs (a5 pa i2)) KW) (dI [1] aF (dI [5] aF (dI [21,22] (j0 z5 rN) (dI [23] (j7 (aE.cs (a5 pb i2)) KW) ?_)))))))))))))
   refine dI [20,24] (aW.neqP rfl rfl rfl rfl aiG aiJ) (dN ?_)
   refine a9 H (fun h6 H=>?_) (fun h6 H=>?_)
   ·refine qS (qR (q1 aF (qN (aO.ret ?_))))
    obtain rfl:_=r:=(pY (aY H):)
    exact bN
   refine aO.skip (qR (q1 aF (q1 (aW.addI rfl rfl rfl rfl (c:=((i2+1:Nat):Int)) (by omega) (by omega)) (q1 aF (qN ?_)))))
   exact jA h4l ⟨_,(aY H:),bZ⟩
  refine aO.exit ?_;exact k7 ⟨_,H,bZ⟩
 rintro⟨⟩ H
 refine qS (qR (q1 aF (qN (aO.ret ?_))))
 obtain rfl:_=r:=(aY H:)
 exact bN
def ahD(m:(List UInt8)→Option Bool):Prop:= ∀(pcode:List UInt8) (r:Bool),m pcode=some r→cH Tryz.prog 10 [rU pcode] (pB r:PV)
def ZT(fu:Nat)(pcode:List UInt8):Option Bool:=
 some (decide ((((pcode.length:Nat):Int):Int)>1048576))
theorem afV(fu:Nat):ahD (ZT fu):=by
 intro pcode r H
 have H:=fC H
 refine qI Tryz.func10 (fun C hC=>?_)
 refine qS (qR (q1 aF (qN (qS (qR (q1 aF (q1 (eM U7 (fV _)) (q1 HB (q1 aF (qN (aO.ret ?_)))))))))))
 obtain rfl:_=r:=(aY H:)
 exact bN
end
end Go.Proofs.YtpioomclpaiomaaGreat.W
