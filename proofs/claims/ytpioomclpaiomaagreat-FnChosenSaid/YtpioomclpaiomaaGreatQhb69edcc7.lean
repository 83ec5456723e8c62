/- Words, rules and walks of several kinds, laid together: MaP6, MaP7, MaP8, MaP9, MaFnd, Bk, Pl, PlOk, OkW, OkA1. No conditions but those that each theorem states. -/
import Derived.Test.YtpioomclpaiomaaGreatQhc7ed0efd
import Derived.Test.YtpioomclpaiomaaGreatQh8fabc4e5
import Derived.Test.YtpioomclpaiomaaGreatQh981ab51f
import Derived.Test.YtpioomclpaiomaaGreatQh54773eaf
set_option linter.unusedSimpArgs false
set_option linter.unusedVariables false
namespace Go.Proofs.YtpioomclpaiomaaGreat.W
set_option maxRecDepth 100000
set_option maxHeartbeats 40000000
noncomputable section
open Go.RowKit Go.Proofs
set_option linter.unusedSimpArgs false
set_option linter.unusedVariables false
attribute [local irreducible] lt
def ac5(m:ByteArray→Option Bool):Prop:= ∀(ps:ByteArray) (r:Bool),m ps=some r→cA Tryz.prog 192 [pS ps] (pB r:PV)
def Y9(fu:Nat)(ps:ByteArray):Nat→Unit→Option (LR Unit Bool):=
 fun i1 _=>gd (i1<(ps).size)
 (sw (!decide ((((B4 ps i1).toNat:Int):Int)=32))
 (some (.ret false))
 (some (.next ())))
def ZA(fu:Nat)(ps:ByteArray):Option (Bool⊕Unit):=
 loopN (Y9 fu ps) (ps.size-0) 0 ()
def E6(fu:Nat)(ps:ByteArray):Option Bool:=
 so (ZA fu ps) (fun _=>
 some true)
theorem ZB(fu:Nat):ac5 (E6 fu):=by
 intro ps r H
 have H:=fF H
 refine qI Tryz.func192 (fun C hC=>?_)
 refine qS (qR (q1 aF (qN ?_)))
 iterate 2 refine qS ?_
 refine qR (q1 aF (qN ?_))
 refine szF 0 (fun hl2=>?_)
 refine cM (σ:=Unit) (fun i1 _=>⟨[(0,pS ps),(2,pB false),(3,pN i1)],⟨[],[]⟩⟩) (fun _=>⟨[(2,pB false)],⟨[],[]⟩⟩) (gW H) ?_ ?_
 ·rintro i1 ⟨⟩ H
  iterate 2 refine qS ?_
  refine qR ?_
  iterate 2 refine q1 aF ?_
  refine q1 (aV.lenS rfl rfl rfl Tryz.underlying9) (q1 iQ (qN ?_))
  refine eO H (fun h3 h3l H=>?_) (fun h3 H=>?_)
  ·have h3n:i1<ps.size:=by have:=of_decide_eq_true h3;omega
   refine aO.skip (qS (aO.block (qS (qR ?_))))
   iterate 2 refine q1 aF ?_
   refine c9 H fun z4 H=>(q1 (aV.indexS (k:=i1) rfl rfl rfl rfl z4 Tryz.underlying9) (q1 MJ (qN ?_)))
   refine bH H (fun h5 H=>?_) (fun h5 H=>?_)
   ·refine qS (qR (q1 aF (qN (aO.ret ?_))))
    obtain rfl:_=r:=(rK (aZ H):)
    exact bR
   refine aO.skip (qR (q1 aF (q1 (aV.addI rfl rfl rfl rfl (c:=((i1+1:Nat):Int)) (by omega) (by omega)) (q1 aF (qN ?_)))))
   exact j8 h3l ⟨_,(aZ H:),b9⟩
  refine aO.exit ?_;exact lP ⟨_,H,b9⟩
 rintro⟨⟩ H
 refine qS (qR (q1 aF (qN (aO.ret ?_))))
 cases aZ H
 exact bR
def afZ(m:(ByteArray×(List ByteArray)×(List aU)×(List aM)×(List aG)×(List aK))→aB→Option (Bool×(ByteArray×(List ByteArray)×(List aU)×(List aM)×(List aG)×(List aK)))):Prop:= ∀(pq0:ByteArray×(List ByteArray)×(List aU)×(List aM)×(List aG)×(List aK)) (pa1:aB) (r:Bool×(ByteArray×(List ByteArray)×(List aU)×(List aM)×(List aG)×(List aK))),m pq0 pa1=some r→cP Tryz.prog 220 [.ptr 0 0,(aB.pv pa1)] ⟨[some ⟨131,[pS pq0.1,rS pq0.2.1,xQ pq0.2.2.1 0,m6 pq0.2.2.2.1 1,m8 pq0.2.2.2.2.1 2,m7 pq0.2.2.2.2.2 3]⟩],[⟨60,5,aU.trs (pq0.2.2.1),false⟩,⟨116,3,aM.trs (pq0.2.2.2.1),false⟩,⟨55,12,aG.trs (pq0.2.2.2.2.1),false⟩,⟨148,16,aK.trs (pq0.2.2.2.2.2),false⟩]⟩ (fun q t=>q=(pB r.1:PV)∧t=⟨[some ⟨131,[pS r.2.1,rS r.2.2.1,xQ r.2.2.2.1 0,m6 r.2.2.2.2.1 1,m8 r.2.2.2.2.2.1 2,m7 r.2.2.2.2.2.2 3]⟩],[⟨60,5,aU.trs (r.2.2.2.1),false⟩,⟨116,3,aM.trs (r.2.2.2.2.1),false⟩,⟨55,12,aG.trs (r.2.2.2.2.2.1),false⟩,⟨148,16,aK.trs (r.2.2.2.2.2.2),false⟩]⟩)
def KD(fu:Nat)(pq0:ByteArray×(List ByteArray)×(List aU)×(List aM)×(List aG)×(List aK))(pa1:aB):Option (Bool×(ByteArray×(List ByteArray)×(List aU)×(List aM)×(List aG)×(List aK))):=
 bd (dR fu pa1 0) (fun x2=>
 sw (decide (x2.gAtom=F2))
 (bd (wF fu pa1) (fun(x5,x6)=>
 gd ((pq0.2.2.1).length+(([x5]:List aU)).length≤68719476736)
 (some (x6,(pq0.1,pq0.2.1,pq0.2.2.1++([x5]:List aU),pq0.2.2.2.1,pq0.2.2.2.2.1,pq0.2.2.2.2.2)))))
 (sw (decide (x2.gAtom=N7))
 (bd (sE fu pa1) (fun(x10,x11)=>
 gd ((pq0.2.2.2.1).length+(([x10]:List aM)).length≤68719476736)
 (some (x11,(pq0.1,pq0.2.1,pq0.2.2.1,pq0.2.2.2.1++([x10]:List aM),pq0.2.2.2.2.1,pq0.2.2.2.2.2)))))
 (sw (decide (x2.gAtom=N8))
 (bd (sG fu pa1) (fun(x15,x16)=>
 gd ((pq0.2.2.2.2.1).length+(([x15]:List aG)).length≤68719476736)
 (some (x16,(pq0.1,pq0.2.1,pq0.2.2.1,pq0.2.2.2.1,pq0.2.2.2.2.1++([x15]:List aG),pq0.2.2.2.2.2)))))
 (sw (decide (x2.gAtom=ajF))
 (bd (sF fu pa1) (fun(x20,x21)=>
 gd ((pq0.2.2.2.2.2).length+(([x20]:List aK)).length≤68719476736)
 (some (x21,(pq0.1,pq0.2.1,pq0.2.2.1,pq0.2.2.2.1,pq0.2.2.2.2.1,pq0.2.2.2.2.2++([x20]:List aK))))))
 (some (false,pq0))))))
theorem ac7(fu:Nat):afZ (KD fu):=by
 intro pq0 pa1 r H
 have H:=fF H
 refine qI Tryz.func220 (fun C hC=>?_)
 refine qS (qR (q1 (kQ ([pS pa1.gAtom,bJ pa1.gList])) (q1 aF (qN ?_))))
 iterate 2 refine qS ?_
 refine qR (q1 (cY [pS pa1.gAtom,bJ pa1.gList] bY) (bU H fun x2 z1 H=>(q1 (bQ Tryz.func219 (c8 fu pa1 0 _ z1)) (q1 (rF1 tA) (qN (aO.block (qS (qR (q1 JL (q1 aF (qN ?_)))))))))))
 refine bH H (fun h3 H=>?_) (fun h3 H=>?_)
 ·refine qS (qR (q1 (cY [pS pa1.gAtom,bJ pa1.gList] bY) (fQ H fun x5 x6 z4 H=>(q1 (bQ Tryz.func230 (NZ fu pa1 _ z4)) (q1 aF ?_)))))
  iterate 2 refine q1 BH ?_
  refine q1 (iG H3) (q1 (b3 DU) (q1 aF (qN (qS (c9 H fun z7 H=>(dW ?_))))))
  iterate 2 refine dI [0] aF ?_
  refine dI [24] qM (dI [25] (bC wV) (dD [26] (bL TG) (dD [5] (cY [pS x5.gName,rS x5.gSupertraits,pB x5.gAuto,pB x5.gAssoc,lT x5.gSignatures] uL) (dI [28] (iW ([x5]:List aU) KW H3) (dE [27,29] (oE z7 KW anT) (dI [23] qM (dI [31] (bC wV) (m4 [32,30] (b3 anN) (dN (qS (qR ?_)))))))))))
  iterate 2 refine q1 aF ?_
  refine qN (aO.ret ?_)
  cases aZ H
  exact bR
 refine qS (qR (q1 JL (q1 aF (qN ?_))))
 refine bH H (fun h8 H=>?_) (fun h8 H=>?_)
 ·refine qS (qR (q1 (cY [pS pa1.gAtom,bJ pa1.gList] bY) (fQ H fun x10 x11 z9 H=>(q1 (bQ Tryz.func231 (HN fu pa1 _ z9)) (q1 aF ?_)))))
  iterate 2 refine q1 BH ?_
  refine q1 (iG DH) (q1 (b3 DG) (q1 aF (qN (qS (c9 H fun z12 H=>(dW ?_))))))
  iterate 2 refine dI [0] aF ?_
  refine dI [42] qM (dI [43] (bC s9) (dD [44] (bL L5) (dD [7] (cY [pS x10.gName,rS x10.gVars,fM x10.gConstructors] tR) (dI [46] (iW ([x10]:List aM) D6 DH) (dE [45,47] (oE z12 D6 anU) (dI [41] qM (dI [49] (bC s9) (m4 [50,48] (b3 anO) (dN (qS (qR ?_)))))))))))
  iterate 2 refine q1 aF ?_
  refine qN (aO.ret ?_)
  cases aZ H
  exact bR
 refine qS (qR (q1 JL (q1 aF (qN ?_))))
 refine bH H (fun h13 H=>?_) (fun h13 H=>?_)
 ·refine qS (qR (q1 (cY [pS pa1.gAtom,bJ pa1.gList] bY) (fQ H fun x15 x16 z14 H=>(q1 (bQ Tryz.func232 (HY fu pa1 _ z14)) (q1 aF ?_)))))
  iterate 2 refine q1 BH ?_
  refine q1 (iG tX) (q1 (b3 s4) (q1 aF (qN (qS (c9 H fun z17 H=>(dW ?_))))))
  iterate 2 refine dI [0] aF ?_
  refine dI [60] qM (dI [61] (bC nP) (dD [62] (bL BM) (dD [9] (cY [pS x15.gTrait,rS x15.gVars,pI x15.gHead.gKind,pS x15.gHead.gName,aW x15.gHead.gArgs,fD x15.gWhere,pB x15.gDefault,pB x15.gHasAssoc,pI x15.gAssoc.gKind,pS x15.gAssoc.gName,aW x15.gAssoc.gArgs,jK x15.gMethods] pD) (dI [64] (iW ([x15]:List aG) xT tX) (dE [63,65] (oE z17 xT anV) (dI [59] qM (dI [67] (bC nP) (m4 [68,66] (b3 anP) (dN (qS (qR ?_)))))))))))
  iterate 2 refine q1 aF ?_
  refine qN (aO.ret ?_)
  cases aZ H
  exact bR
 refine qS (qR (q1 JL (q1 aF (qN ?_))))
 refine bH H (fun h18 H=>?_) (fun h18 H=>?_)
 ·refine qS (qR (q1 (cY [pS pa1.gAtom,bJ pa1.gList] bY) (fQ H fun x20 x21 z19 H=>(q1 (bQ Tryz.func233 (HU fu pa1 _ z19)) (q1 aF ?_)))))
  iterate 2 refine q1 BH ?_
  refine q1 (iG DI) (q1 (b3 BS) (q1 aF (qN (qS (c9 H fun z22 H=>(dW ?_))))))
  iterate 2 refine dI [0] aF ?_
  refine dI [78] qM (dI [79] (bC wW) (dD [80] (bL TH) (dD [11] (cY [pS x20.gName,rS x20.gVars,fD x20.gWhere,SO x20.gParams,pI x20.gResult.gKind,pS x20.gResult.gName,aW x20.gResult.gArgs,pI x20.gBody.gKind,pS x20.gBody.gTrait,pS x20.gBody.gName,pI x20.gBody.gN,pI x20.gBody.gType.gKind,pS x20.gBody.gType.gName,aW x20.gBody.gType.gArgs,fZ x20.gBody.gArgs,nG x20.gBody.gArms] rL) (dI [82] (iW ([x20]:List aK) KX DI) (dE [81,83] (oE z22 KX anW) (dI [77] qM (dI [85] (bC wW) (m4 [86,84] (b3 anQ) (dN (qS (qR ?_)))))))))))
  iterate 2 refine q1 aF ?_
  refine qN (aO.ret ?_)
  cases aZ H
  exact bR
 refine aO.skip (qS (qR (q1 aF (qN (aO.ret ?_)))))
 cases aZ H
 exact bR
def ac8(m:aJ→Option ((List ByteArray)×(List ByteArray)×(List ByteArray)×(List ByteArray))):Prop:= ∀(pa0:aJ) (r:(List ByteArray)×(List ByteArray)×(List ByteArray)×(List ByteArray)),m pa0=some r→cA Tryz.prog 234 [(aJ.pv pa0)] (.tup [rS r.1,rS r.2.1,rS r.2.2.1,rS r.2.2.2]:PV)
def ZC(fu:Nat)(pa0:aJ):Nat→((List ByteArray))→Option (LR ((List ByteArray)) ((List ByteArray)×(List ByteArray)×(List ByteArray)×(List ByteArray))):=
 fun i1 v3=>gd ((v3).length+(([((bB pa0.gTraits i1).gName)]:List ByteArray)).length≤68719476736)
 (some (.next (v3++([((bB pa0.gTraits i1).gName)]:List ByteArray))))
def ZG(fu:Nat)(pa0:aJ):Option (((List ByteArray)×(List ByteArray)×(List ByteArray)×(List ByteArray))⊕((List ByteArray))):=
 loopN (ZC fu pa0) (pa0.gTraits.length-0) 0 ([])
def ZE(fu:Nat)(pa0:aJ)(v3:List ByteArray)(i7:Nat)(v10 v11:List ByteArray):Nat→((List ByteArray))→Option (LR ((List ByteArray)) (LR ((List ByteArray)×(List ByteArray)) ((List ByteArray)×(List ByteArray)×(List ByteArray)×(List ByteArray)))):=
 fun i15 v17=>gd ((v17).length+(([((bB ((bB pa0.gDataTypes i7).gConstructors) i15).gName)]:List ByteArray)).length≤68719476736)
 (some (.next (v17++([((bB ((bB pa0.gDataTypes i7).gConstructors) i15).gName)]:List ByteArray))))
def ZI(fu:Nat)(pa0:aJ)(v3:List ByteArray)(i7:Nat)(v10 v11:List ByteArray):Option ((LR ((List ByteArray)×(List ByteArray)) ((List ByteArray)×(List ByteArray)×(List ByteArray)×(List ByteArray)))⊕((List ByteArray))):=
 loopN (ZE fu pa0 v3 i7 v10 v11) (((bB pa0.gDataTypes i7).gConstructors).length-0) 0 v11
def ZD(fu:Nat)(pa0:aJ)(v3:List ByteArray):Nat→((List ByteArray)×(List ByteArray))→Option (LR ((List ByteArray)×(List ByteArray)) ((List ByteArray)×(List ByteArray)×(List ByteArray)×(List ByteArray))):=
 fun i7 (v10,v11)=>gd ((v10).length+(([((bB pa0.gDataTypes i7).gName)]:List ByteArray)).length≤68719476736)
 (so (ZI fu pa0 v3 i7 v10 v11) (fun v17=>
 some (.next ((v10++([((bB pa0.gDataTypes i7).gName)]:List ByteArray)),v17))))
def ZH(fu:Nat)(pa0:aJ)(v3:List ByteArray):Option (((List ByteArray)×(List ByteArray)×(List ByteArray)×(List ByteArray))⊕((List ByteArray)×(List ByteArray))):=
 loopN (ZD fu pa0 v3) (pa0.gDataTypes.length-0) 0 (([]),([]))
def ZF(fu:Nat)(pa0:aJ)(v3 v10 v11:List ByteArray):Nat→((List ByteArray))→Option (LR ((List ByteArray)) ((List ByteArray)×(List ByteArray)×(List ByteArray)×(List ByteArray))):=
 fun i21 v23=>lt (bB pa0.gFunctions i21) (fun y26=>
 gd ((v23).length+(([y26.gName]:List ByteArray)).length≤68719476736)
 (some (.next (v23++([y26.gName]:List ByteArray)))))
def ZJ(fu:Nat)(pa0:aJ)(v3 v10 v11:List ByteArray):Option (((List ByteArray)×(List ByteArray)×(List ByteArray)×(List ByteArray))⊕((List ByteArray))):=
 loopN (ZF fu pa0 v3 v10 v11) (pa0.gFunctions.length-0) 0 ([])
def E7(fu:Nat)(pa0:aJ):Option ((List ByteArray)×(List ByteArray)×(List ByteArray)×(List ByteArray)):=
 so (ZG fu pa0) (fun v3=>
 so (ZH fu pa0 v3) (fun(v10,v11)=>
 so (ZJ fu pa0 v3 v10 v11) (fun v23=>
 some (v3,v10,v11,v23))))
theorem ZK(fu:Nat):ac8 (E7 fu):=by
 intro pa0 r H
 have H:=fF H
 refine qI Tryz.func234 (fun C hC=>?_)
 refine qS (qR (q1 (kQ (gG pa0)) ?_))
 iterate 4 refine q1 aF ?_
 refine qN (qS (qR (q1 (wA ([]:List ByteArray) b6 lO) (q1 aF (qN (qS (qR (q1 (wA ([]:List ByteArray) b6 lO) (q1 aF (qN (qS (qR (q1 (wA ([]:List ByteArray) b6 lO) ?_)))))))))))))
 refine q1 aF (qN (qS (qR (q1 (wA ([]:List ByteArray) b6 lO) (q1 aF (qN ?_))))))
 iterate 2 refine qS ?_
 refine qR (q1 aF (qN ?_))
 refine aO.fact (c3 0 2 rfl rfl rfl (aU.trs_len _)) (fun hl4=>?_)
 refine cM (σ:=(List ByteArray)) (fun i1 v3=>⟨[(1,.ptr 0 0),(2,.nil),(3,.nil),(4,.nil),(5,.nil),(6,aS v3 0),(7,aS [] 1),(8,aS [] 2),(9,aS [] 3),(10,pN i1)],⟨[some ⟨131,gG pa0⟩],[⟨9,1,aX (v3),false⟩,⟨9,1,aX ([]),false⟩,⟨9,1,aX ([]),false⟩,⟨9,1,aX ([]),false⟩]⟩⟩) (fun v3=>⟨[(1,.ptr 0 0),(2,.nil),(3,.nil),(4,.nil),(5,.nil),(6,aS v3 0),(7,aS [] 1),(8,aS [] 2),(9,aS [] 3)],⟨[some ⟨131,gG pa0⟩],[⟨9,1,aX (v3),false⟩,⟨9,1,aX ([]),false⟩,⟨9,1,aX ([]),false⟩,⟨9,1,aX ([]),false⟩]⟩⟩) (gW H) ?_ ?_
 ·rintro i1 v3 H
  iterate 2 refine qS ?_
  refine qR (q1 aF (q1 (bC wV) (q1 (bL TG) (q1 (eR KW (aU.trs_len _)) (q1 iQ (qN ?_))))))
  refine eO H (fun h5 h5l H=>?_) (fun h5 H=>?_)
  ·have h5n:=bF h5
   refine aO.skip (qS (aO.block (qR (q1 aF (q1 (bC wV) (q1 (bL TG) (q1 aF (q1 (jH h5n KW) (q1 (rC I5) (q1 (p9 fO) (q1 (iW ([((bB pa0.gTraits i1).gName)]:List ByteArray) b6 lO) (c9 H fun z6 H=>(q1 (oE z6 b6 sM) ?_)))))))))))))
   refine q1 aF (qN (qR (q1 aF (q1 (aV.addI rfl rfl rfl rfl (c:=((i1+1:Nat):Int)) (by omega) (by omega)) (q1 aF (qN ?_))))))
   exact j8 h5l ⟨_,(aZ H:),b9⟩
  refine aO.exit ?_;exact lP ⟨_,H,b9⟩
 rintro v3 H
 iterate 2 refine qS ?_
 refine qR (q1 aF (qN ?_))
 refine aO.fact (c3 0 3 rfl rfl rfl (aM.trs_len _)) (fun hl12=>?_)
 refine cM (σ:=(List ByteArray)×(List ByteArray)) (fun i7 (v10,v11)=>⟨[(1,.ptr 0 0),(2,.nil),(3,.nil),(4,.nil),(5,.nil),(6,aS v3 0),(7,aS v10 1),(8,aS v11 2),(9,aS [] 3),(11,pN i7)],⟨[some ⟨131,gG pa0⟩],[⟨9,1,aX (v3),false⟩,⟨9,1,aX (v10),false⟩,⟨9,1,aX (v11),false⟩,⟨9,1,aX ([]),false⟩]⟩⟩) (fun(v10,v11)=>⟨[(1,.ptr 0 0),(2,.nil),(3,.nil),(4,.nil),(5,.nil),(6,aS v3 0),(7,aS v10 1),(8,aS v11 2),(9,aS [] 3)],⟨[some ⟨131,gG pa0⟩],[⟨9,1,aX (v3),false⟩,⟨9,1,aX (v10),false⟩,⟨9,1,aX (v11),false⟩,⟨9,1,aX ([]),false⟩]⟩⟩) (gW H) ?_ ?_
 ·rintro i7 ⟨v10,v11⟩ H
  iterate 2 refine qS ?_
  refine qR (q1 aF (q1 (bC s9) (q1 (bL L5) (q1 (eR D6 (aM.trs_len _)) (q1 iQ (qN ?_))))))
  refine eO H (fun h13 h13l H=>?_) (fun h13 H=>?_)
  ·have h13n:=bF h13
   refine aO.skip (qS (aO.block (qS (qR (q1 aF (q1 (bC s9) (q1 (bL L5) (q1 aF (q1 (jH h13n D6) (q1 (rC XJ) (q1 (p9 fO) (q1 (iW ([((bB pa0.gDataTypes i7).gName)]:List ByteArray) b6 lO) (c9 H fun z14 H=>?_)))))))))))))
   refine q1 (oE z14 b6 sM) (q1 aF (qN (qS (qR (q1 aF (qN ?_))))))
   refine cM (σ:=(List ByteArray)) (fun i15 v17=>⟨[(1,.ptr 0 0),(2,.nil),(3,.nil),(4,.nil),(5,.nil),(6,aS v3 0),(7,aS (v10++([((bB pa0.gDataTypes i7).gName)]:List ByteArray)) 1),(8,aS v17 2),(9,aS [] 3),(11,pN i7),(12,pN i15),(34,pN i7),(35,.ptr 0 3),(36,sT pa0.gDataTypes),(37,pN pa0.gDataTypes.length),(38,pB (decide ((i7:Int)<(pa0.gDataTypes.length:Int)))),(41,aS v10 1),(42,.ptr 0 3),(43,sT pa0.gDataTypes),(44,pN i7),(45,.eptr (aM.cs (bB pa0.gDataTypes i7))),(46,.eptr (aM.cs (bB pa0.gDataTypes i7))),(47,pS ((bB pa0.gDataTypes i7).gName)),(48,rS ([((bB pa0.gDataTypes i7).gName)]:List ByteArray)),(49,aS (v10++([((bB pa0.gDataTypes i7).gName)]:List ByteArray)) 1)],⟨[some ⟨131,gG pa0⟩],[⟨9,1,aX (v3),false⟩,⟨9,1,aX (v10++([((bB pa0.gDataTypes i7).gName)]:List ByteArray)),false⟩,⟨9,1,aX (v17),false⟩,⟨9,1,aX ([]),false⟩]⟩⟩) (fun v17=>⟨[(1,.ptr 0 0),(2,.nil),(3,.nil),(4,.nil),(5,.nil),(6,aS v3 0),(7,aS (v10++([((bB pa0.gDataTypes i7).gName)]:List ByteArray)) 1),(8,aS v17 2),(9,aS [] 3),(11,pN i7),(34,pN i7),(35,.ptr 0 3),(36,sT pa0.gDataTypes),(37,pN pa0.gDataTypes.length),(38,pB (decide ((i7:Int)<(pa0.gDataTypes.length:Int)))),(41,aS v10 1),(42,.ptr 0 3),(43,sT pa0.gDataTypes),(44,pN i7),(45,.eptr (aM.cs (bB pa0.gDataTypes i7))),(46,.eptr (aM.cs (bB pa0.gDataTypes i7))),(47,pS ((bB pa0.gDataTypes i7).gName)),(48,rS ([((bB pa0.gDataTypes i7).gName)]:List ByteArray)),(49,aS (v10++([((bB pa0.gDataTypes i7).gName)]:List ByteArray)) 1)],⟨[some ⟨131,gG pa0⟩],[⟨9,1,aX (v3),false⟩,⟨9,1,aX (v10++([((bB pa0.gDataTypes i7).gName)]:List ByteArray)),false⟩,⟨9,1,aX (v17),false⟩,⟨9,1,aX ([]),false⟩]⟩⟩) (gW H) ?_ ?_
   ·rintro i15 v17 H
    iterate 2 refine qS ?_
    refine qR (q1 aF (q1 (bC s9) (q1 (bL L5) (q1 aF (q1 (jH h13n D6) (q1 (rC m5) (q1 (p9 zK) ?_)))))))
    refine amO 56 (aD.trs_len _) (fun hl18=>?_)
    refine q1 (eR wM (aD.trs_len _)) (q1 iQ (qN ?_))
    refine eO H (fun h19 h19l H=>?_) (fun h19 H=>?_)
    ·have h19n:=bF h19
     refine aO.skip (qS (aO.block (qR (q1 aF (q1 (bC s9) (q1 (bL L5) (q1 aF (q1 (jH h13n D6) (q1 (rC m5) (q1 (p9 zK) (q1 aF (q1 (jH h19n wM) (q1 (rC QZ) ?_)))))))))))))
     refine q1 (p9 fO) (q1 (iW ([((bB ((bB pa0.gDataTypes i7).gConstructors) i15).gName)]:List ByteArray) b6 lO) (c9 H fun z20 H=>(q1 (oE z20 b6 sM) (q1 aF (qN (qR (q1 aF (q1 (aV.addI rfl rfl rfl rfl (c:=((i15+1:Nat):Int)) (by omega) (by omega)) (q1 aF (qN ?_))))))))))
     exact j8 h19l ⟨_,(aZ H:),b9⟩
    refine aO.exit ?_;exact lP ⟨_,H,b9⟩
   rintro v17 H
   refine qR (q1 aF (q1 (aV.addI rfl rfl rfl rfl (c:=((i7+1:Nat):Int)) (by omega) (by omega)) (q1 aF (qN ?_))))
   exact j8 h13l ⟨_,(aZ H:),b9⟩
  refine aO.exit ?_;exact lP ⟨_,H,b9⟩
 rintro⟨v10,v11⟩ H
 iterate 2 refine qS ?_
 refine qR (q1 aF (qN ?_))
 refine aO.fact (c3 0 5 rfl rfl rfl (aK.trs_len _)) (fun hl24=>?_)
 refine cM (σ:=(List ByteArray)) (fun i21 v23=>⟨[(1,.ptr 0 0),(2,.nil),(3,.nil),(4,.nil),(5,.nil),(6,aS v3 0),(7,aS v10 1),(8,aS v11 2),(9,aS v23 3),(13,pN i21)],⟨[some ⟨131,gG pa0⟩],[⟨9,1,aX (v3),false⟩,⟨9,1,aX (v10),false⟩,⟨9,1,aX (v11),false⟩,⟨9,1,aX (v23),false⟩]⟩⟩) (fun v23=>⟨[(2,.nil),(3,.nil),(4,.nil),(5,.nil),(6,aS v3 0),(7,aS v10 1),(8,aS v11 2),(9,aS v23 3)],⟨[some ⟨131,gG pa0⟩],[⟨9,1,aX (v3),false⟩,⟨9,1,aX (v10),false⟩,⟨9,1,aX (v11),false⟩,⟨9,1,aX (v23),false⟩]⟩⟩) (gW H) ?_ ?_
 ·rintro i21 v23 H
  iterate 2 refine qS ?_
  refine qR (q1 aF (q1 (bC wW) (q1 (bL TH) (q1 (eR KX (aK.trs_len _)) (q1 iQ (qN ?_))))))
  refine eO H (fun h25 h25l H=>?_) (fun h25 H=>?_)
  ·have h25n:=bF h25
   refine aO.skip (qS (aO.block (qR (q1 aF (q1 (bC wW) (q1 (bL TH) (q1 aF (gU H fun y26 h27 H=>(q1 (yI h27 h25n KX) (q1 (rC QS) (q1 (p9 fO) (q1 (iW ([y26.gName]:List ByteArray) b6 lO) (c9 H fun z28 H=>?_)))))))))))))
   refine q1 (oE z28 b6 sM) (q1 aF (qN (qR (q1 aF (q1 (aV.addI rfl rfl rfl rfl (c:=((i21+1:Nat):Int)) (by omega) (by omega)) (q1 aF (qN ?_)))))))
   exact j8 h25l ⟨_,(aZ H:),b9⟩
  refine aO.exit ?_;exact lP ⟨_,H,b9⟩
 rintro v23 H
 refine qS (qR ?_)
 iterate 8 refine q1 aF ?_
 refine qN (aO.ret ?_)
 cases aZ H
 exact qe (ps:= [_,_,_,_]) ⟨rfl,rfl⟩ ⟨rfl,rfl,rfl,rfl,trivial⟩
def ac9(m:aJ→Option Bool):Prop:= ∀(pp:aJ) (r:Bool),m pp=some r→cA Tryz.prog 238 [(aJ.pv pp)] (pB r:PV)
def ZL(fu:Nat)(pp:aJ):Nat→Unit→Option (LR Unit Bool):=
 fun i1 _=>bd (rR fu (bB pp.gTraits i1)) (fun x5=>
 sw (!(x5))
 (some (.ret false))
 (some (.next ())))
def ZP(fu:Nat)(pp:aJ):Option (Bool⊕Unit):=
 loopN (ZL fu pp) (pp.gTraits.length-0) 0 ()
def ZM(fu:Nat)(pp:aJ):Nat→Unit→Option (LR Unit Bool):=
 fun i7 _=>bd (n3 fu (bB pp.gDataTypes i7)) (fun x11=>
 sw (!(x11))
 (some (.ret false))
 (some (.next ())))
def ZQ(fu:Nat)(pp:aJ):Option (Bool⊕Unit):=
 loopN (ZM fu pp) (pp.gDataTypes.length-0) 0 ()
def ZN(fu:Nat)(pp:aJ):Nat→Unit→Option (LR Unit Bool):=
 fun i13 _=>lt (bB pp.gInstances i13) (fun y16=>
 bd (n5 fu y16) (fun x19=>
 sw (!(x19))
 (some (.ret false))
 (some (.next ()))))
def ZR(fu:Nat)(pp:aJ):Option (Bool⊕Unit):=
 loopN (ZN fu pp) (pp.gInstances.length-0) 0 ()
def ZO(fu:Nat)(pp:aJ):Nat→Unit→Option (LR Unit Bool):=
 fun i21 _=>lt (bB pp.gFunctions i21) (fun y24=>
 bd (n4 fu y24) (fun x27=>
 sw (!(x27))
 (some (.ret false))
 (some (.next ()))))
def ZS(fu:Nat)(pp:aJ):Option (Bool⊕Unit):=
 loopN (ZO fu pp) (pp.gFunctions.length-0) 0 ()
def E8(fu:Nat)(pp:aJ):Option Bool:=
 so (ZP fu pp) (fun _=>
 so (ZQ fu pp) (fun _=>
 so (ZR fu pp) (fun _=>
 so (ZS fu pp) (fun _=>
 some true))))
theorem ZT(fu:Nat):ac9 (E8 fu):=by
 intro pp r H
 have H:=fF H
 refine qI Tryz.func238 (fun C hC=>?_)
 refine qS (qR (q1 (kQ (gG pp)) (q1 aF (qN ?_))))
 iterate 2 refine qS ?_
 refine qR (q1 aF (qN ?_))
 refine aO.fact (c3 0 2 rfl rfl rfl (aU.trs_len _)) (fun hl2=>?_)
 refine cM (σ:=Unit) (fun i1 _=>⟨[(1,.ptr 0 0),(2,pB false),(3,pN i1)],⟨[some ⟨131,gG pp⟩],[]⟩⟩) (fun _=>⟨[(1,.ptr 0 0),(2,pB false)],⟨[some ⟨131,gG pp⟩],[]⟩⟩) (gW H) ?_ ?_
 ·rintro i1 ⟨⟩ H
  iterate 2 refine qS ?_
  refine qR (q1 aF (q1 (bC wV) (q1 (bL TG) (q1 (eR KW (aU.trs_len _)) (q1 iQ (qN ?_))))))
  refine eO H (fun h3 h3l H=>?_) (fun h3 H=>?_)
  ·have h3n:=bF h3
   refine aO.skip (qS (aO.block (qS (qR (q1 (bC wV) (q1 (bL TG) (q1 aF (q1 (jH h3n KW) (q1 (lB (aU.cs (bB pp.gTraits i1)) uL) (bU H fun x5 z4 H=>(q1 (bQ Tryz.func256 (BL fu (bB pp.gTraits i1) _ z4)) (q1 iS (qN ?_)))))))))))))
   refine bH H (fun h6 H=>?_) (fun h6 H=>?_)
   ·refine qS (qR (q1 aF (qN (aO.ret ?_))))
    obtain rfl:_=r:=(rK (aZ H):)
    exact bR
   refine aO.skip (qR (q1 aF (q1 (aV.addI rfl rfl rfl rfl (c:=((i1+1:Nat):Int)) (by omega) (by omega)) (q1 aF (qN ?_)))))
   exact j8 h3l ⟨_,(aZ H:),b9⟩
  refine aO.exit ?_;exact lP ⟨_,H,b9⟩
 rintro⟨⟩ H
 iterate 2 refine qS ?_
 refine qR (q1 aF (qN ?_))
 refine aO.fact (c3 0 3 rfl rfl rfl (aM.trs_len _)) (fun hl8=>?_)
 refine cM (σ:=Unit) (fun i7 _=>⟨[(1,.ptr 0 0),(2,pB false),(4,pN i7)],⟨[some ⟨131,gG pp⟩],[]⟩⟩) (fun _=>⟨[(1,.ptr 0 0),(2,pB false)],⟨[some ⟨131,gG pp⟩],[]⟩⟩) (gW H) ?_ ?_
 ·rintro i7 ⟨⟩ H
  iterate 2 refine qS ?_
  refine qR (q1 aF (q1 (bC s9) (q1 (bL L5) (q1 (eR D6 (aM.trs_len _)) (q1 iQ (qN ?_))))))
  refine eO H (fun h9 h9l H=>?_) (fun h9 H=>?_)
  ·have h9n:=bF h9
   refine aO.skip (qS (aO.block (qS (qR (q1 (bC s9) (q1 (bL L5) (q1 aF (q1 (jH h9n D6) (q1 (lB (aM.cs (bB pp.gDataTypes i7)) tR) (bU H fun x11 z10 H=>(q1 (bQ Tryz.func257 (wN fu (bB pp.gDataTypes i7) _ z10)) (q1 iS (qN ?_)))))))))))))
   refine bH H (fun h12 H=>?_) (fun h12 H=>?_)
   ·refine qS (qR (q1 aF (qN (aO.ret ?_))))
    obtain rfl:_=r:=(rK (aZ H):)
    exact bR
   refine aO.skip (qR (q1 aF (q1 (aV.addI rfl rfl rfl rfl (c:=((i7+1:Nat):Int)) (by omega) (by omega)) (q1 aF (qN ?_)))))
   exact j8 h9l ⟨_,(aZ H:),b9⟩
  refine aO.exit ?_;exact lP ⟨_,H,b9⟩
 rintro⟨⟩ H
 iterate 2 refine qS ?_
 refine qR (q1 aF (qN ?_))
 refine aO.fact (c3 0 4 rfl rfl rfl (aG.trs_len _)) (fun hl14=>?_)
 refine cM (σ:=Unit) (fun i13 _=>⟨[(1,.ptr 0 0),(2,pB false),(5,pN i13)],⟨[some ⟨131,gG pp⟩],[]⟩⟩) (fun _=>⟨[(1,.ptr 0 0),(2,pB false)],⟨[some ⟨131,gG pp⟩],[]⟩⟩) (gW H) ?_ ?_
 ·rintro i13 ⟨⟩ H
  iterate 2 refine qS ?_
  refine qR (q1 aF (q1 (bC nP) (q1 (bL BM) (q1 (eR xT (aG.trs_len _)) (q1 iQ (qN ?_))))))
  refine eO H (fun h15 h15l H=>?_) (fun h15 H=>?_)
  ·have h15n:=bF h15
   refine aO.skip (qS (aO.block (qS (qR (q1 (bC nP) (q1 (bL BM) (q1 aF (gU H fun y16 h17 H=>(q1 (yI h17 h15n xT) (q1 (lB (aG.cs y16) pD) (bU H fun x19 z18 H=>(q1 (bQ Tryz.func258 (wP fu y16 _ z18)) (q1 iS ?_)))))))))))))
   refine qN ?_;refine bH H (fun h20 H=>?_) (fun h20 H=>?_)
   ·refine qS (qR (q1 aF (qN (aO.ret ?_))))
    obtain rfl:_=r:=(rK (aZ H):)
    exact bR
   refine aO.skip (qR (q1 aF (q1 (aV.addI rfl rfl rfl rfl (c:=((i13+1:Nat):Int)) (by omega) (by omega)) (q1 aF (qN ?_)))))
   exact j8 h15l ⟨_,(aZ H:),b9⟩
  refine aO.exit ?_;exact lP ⟨_,H,b9⟩
 rintro⟨⟩ H
 iterate 2 refine qS ?_
 refine qR (q1 aF (qN ?_))
 refine aO.fact (c3 0 5 rfl rfl rfl (aK.trs_len _)) (fun hl22=>?_)
 refine cM (σ:=Unit) (fun i21 _=>⟨[(1,.ptr 0 0),(2,pB false),(6,pN i21)],⟨[some ⟨131,gG pp⟩],[]⟩⟩) (fun _=>⟨[(2,pB false)],⟨[some ⟨131,gG pp⟩],[]⟩⟩) (gW H) ?_ ?_
 ·rintro i21 ⟨⟩ H
  iterate 2 refine qS ?_
  refine qR (q1 aF (q1 (bC wW) (q1 (bL TH) (q1 (eR KX (aK.trs_len _)) (q1 iQ (qN ?_))))))
  refine eO H (fun h23 h23l H=>?_) (fun h23 H=>?_)
  ·have h23n:=bF h23
   refine aO.skip (qS (aO.block (qS (qR (q1 (bC wW) (q1 (bL TH) (q1 aF (gU H fun y24 h25 H=>(q1 (yI h25 h23n KX) (q1 (lB (aK.cs y24) rL) (bU H fun x27 z26 H=>(q1 (bQ Tryz.func259 (wO fu y24 _ z26)) (q1 iS ?_)))))))))))))
   refine qN ?_;refine bH H (fun h28 H=>?_) (fun h28 H=>?_)
   ·refine qS (qR (q1 aF (qN (aO.ret ?_))))
    obtain rfl:_=r:=(rK (aZ H):)
    exact bR
   refine aO.skip (qR (q1 aF (q1 (aV.addI rfl rfl rfl rfl (c:=((i21+1:Nat):Int)) (by omega) (by omega)) (q1 aF (qN ?_)))))
   exact j8 h23l ⟨_,(aZ H:),b9⟩
  refine aO.exit ?_;exact lP ⟨_,H,b9⟩
 rintro⟨⟩ H
 refine qS (qR (q1 aF (qN (aO.ret ?_))))
 cases aZ H
 exact bR
def L2(m:aJ→Option Bool):Prop:= ∀(pa0:aJ) (r:Bool),m pa0=some r→cA Tryz.prog 221 [(aJ.pv pa0)] (pB r:PV)
def tP(fu:Nat)(pa0:aJ):Option Bool:=
 bd (E7 fu pa0) (fun(x2,x3,x4,x5)=>
 bd (eB fu pa0.gName) (fun x7=>
 sw (!(x7))
 (some false)
 (bd (gL fu pa0.gDeps 5) (fun x10=>
 sw (!(x10))
 (some false)
 (bd (lV fu pa0.gDeps pa0.gName) (fun x13=>
 sw (x13)
 (some false)
 (sw (decide ((aQ ((aQ ((aQ ((pa0.gTraits.length:Int)+(pa0.gDataTypes.length:Int)))+(pa0.gInstances.length:Int)))+(pa0.gFunctions.length:Int)):Int)>24))
 (some false)
 (bd (kK fu x2) (fun x17=>
 sw (x17)
 (bd (kK fu x3) (fun x20=>
 sw (x20)
 (bd (kK fu x4) (fun x23=>
 sw (x23)
 (bd (kK fu x5) (fun x26=>
 sw (x26)
 (bd (E8 fu pa0) (fun x29=>
 some x29))
 (some false)))
 (some false)))
 (some false)))
 (some false))))))))))
theorem JU(fu:Nat):L2 (tP fu):=by
 intro pa0 r H
 have H:=fF H
 refine qI Tryz.func221 (fun C hC=>?_)
 refine qS (qR (q1 (kQ (gG pa0)) (q1 aF (qN (qS (qR (q1 (cY [pS pa0.gName,rS pa0.gDeps,YA pa0.gTraits,sT pa0.gDataTypes,nH pa0.gInstances,FZ pa0.gFunctions] qB) (ap5 H fun x2 x3 x4 x5 z1 H=>(q1 (bQ Tryz.func234 (ZK fu pa0 _ z1)) (q1 aF ?_))))))))))
 iterate 4 refine q1 BH ?_
 iterate 4 refine q1 aF ?_
 refine qN ?_
 iterate 2 refine qS ?_
 refine qR (q1 (bC XK) (q1 (bL fO) (bU H fun x7 z6 H=>(q1 (bQ Tryz.func235 (eJ fu pa0.gName _ z6)) (q1 iS (q1 aF ?_))))))
 refine eK 18 H (fun g8 H=>?_) fun g8 H=>?_
 ·refine qk g8 ?_
  iterate 3 refine qk g8 ?_
  refine q1 (b0 g8) (q1 aF ?_)
  iterate 5 refine qk rfl ?_
  refine q1 (b0 rfl) (q1 aF ?_)
  iterate 16 refine qk rfl ?_
  refine q1 (b0 rfl) (qN (eM rfl (qS (qR (q1 aF (qN (aO.ret ?_)))))))
  cases aZ H
  exact bR
 refine qg g8 (bC QR) (qg g8 (bL lI) (bU H fun x10 z9 H=>(qg g8 (bQ Tryz.func236 (gT fu pa0.gDeps 5 _ z9)) (qg g8 iS (q1 (cC g8) (q1 aF ?_))))))
 refine eK 24 H (fun g11 H=>?_) fun g11 H=>?_
 ·refine qk g11 ?_
  iterate 4 refine qk g11 ?_
  refine q1 (b0 g11) (q1 aF ?_)
  iterate 16 refine qk rfl ?_
  refine q1 (b0 rfl) (qN (eM rfl (qS (qR (q1 aF (qN (aO.ret ?_)))))))
  cases aZ H
  exact bR
 refine qg g11 (bC QR) (qg g11 (bL lI) (qg g11 (bC XK) (qg g11 (bL fO) (bU H fun x13 z12 H=>(qg g11 (bQ Tryz.func125 (nK fu pa0.gDeps pa0.gName _ z12)) (q1 (cC g11) (q1 aF ?_)))))))
 refine eK 31 H (fun g14 H=>?_) fun g14 H=>?_
 ·refine qk g14 ?_
  iterate 15 refine qk g14 ?_
  refine q1 (b0 g14) (qN (eM rfl (qS (qR (q1 aF (qN (aO.ret ?_)))))))
  cases aZ H
  exact bR
 refine qg g14 (bC wV) (qg g14 (bL TG) (qg g14 (eR KW (aU.trs_len _)) (qg g14 (bC s9) (qg g14 (bL L5) (qg g14 (eR D6 (aM.trs_len _)) (qg g14 Q6 (qg g14 (bC nP) (qg g14 (bL BM) (qg g14 (eR xT (aG.trs_len _)) (qg g14 Q6 (qg g14 (bC wW) (qg g14 (bL TH) (qg g14 (eR KX (aK.trs_len _)) ?_)))))))))))))
 refine qg g14 Q6 (qg g14 MI (q1 (cC g14) (qN ?_)))
 refine bH H (fun h15 H=>?_) (fun h15 H=>?_)
 ·refine qS (qR (q1 aF (qN (aO.ret ?_))))
  cases aZ H
  exact bR
 refine aO.skip (qS (qR (q1 aF (bU H fun x17 z16 H=>(q1 (bQ Tryz.func237 (l3 fu x2 _ z16)) (q1 aF ?_))))))
 refine eK 51 H (fun g18 H=>?_) fun g18 H=>?_
 ·refine qg g18 aF (bU H fun x20 z19 H=>(qg g18 (bQ Tryz.func237 (l3 fu x3 _ z19)) (q1 (b0 g18) (q1 aF ?_))))
  refine eK 55 H (fun g21 H=>?_) fun g21 H=>?_
  ·refine qg g21 aF (bU H fun x23 z22 H=>(qg g21 (bQ Tryz.func237 (l3 fu x4 _ z22)) (q1 (b0 g21) (q1 aF ?_))))
   refine eK 59 H (fun g24 H=>?_) fun g24 H=>?_
   ·refine qg g24 aF (bU H fun x26 z25 H=>(qg g24 (bQ Tryz.func237 (l3 fu x5 _ z25)) (q1 (b0 g24) (q1 aF ?_))))
    refine eK 63 H (fun g27 H=>?_) fun g27 H=>?_
    ·refine qg g27 (cY [pS pa0.gName,rS pa0.gDeps,YA pa0.gTraits,sT pa0.gDataTypes,nH pa0.gInstances,FZ pa0.gFunctions] qB) (bU H fun x29 z28 H=>(qg g27 (bQ Tryz.func238 (ZT fu pa0 _ z28)) (q1 (b0 g27) (q1 aF (qN (aO.ret ?_))))))
     cases aZ H
     exact bR
    iterate 2 refine qk g27 ?_
    refine q1 (cC g27) (q1 aF (qN (aO.ret ?_)))
    cases aZ H
    exact bR
   iterate 2 refine qk g24 ?_
   refine q1 (cC g24) (q1 aF ?_)
   iterate 2 refine qk rfl ?_
   refine q1 (cC rfl) (q1 aF (qN (aO.ret ?_)))
   cases aZ H
   exact bR
  iterate 2 refine qk g21 ?_
  refine q1 (cC g21) (q1 aF ?_)
  iterate 2 refine qk rfl ?_
  refine q1 (cC rfl) (q1 aF ?_)
  iterate 2 refine qk rfl ?_
  refine q1 (cC rfl) (q1 aF (qN (aO.ret ?_)))
  cases aZ H
  exact bR
 iterate 2 refine qk g18 ?_
 refine q1 (cC g18) (q1 aF ?_)
 iterate 2 refine qk rfl ?_
 refine q1 (cC rfl) (q1 aF ?_)
 iterate 2 refine qk rfl ?_
 refine q1 (cC rfl) (q1 aF ?_)
 iterate 2 refine qk rfl ?_
 refine q1 (cC rfl) (q1 aF (qN (aO.ret ?_)))
 cases aZ H
 exact bR
def L3(m:aB→Option (aJ×Bool)):Prop:= ∀(pa0:aB) (r:aJ×Bool),m pa0=some r→cA Tryz.prog 208 [(aB.pv pa0)] (.tup [(aJ.pv r.1),pB r.2]:PV)
def JY(fu:Nat)(pa0 x2:aB)(x4:List ByteArray)(x5:Bool)(x7:aB)(x9:Bool):Nat→(ByteArray×(List ByteArray)×(List aU)×(List aM)×(List aG)×(List aK))→Option (LR (ByteArray×(List ByteArray)×(List aU)×(List aM)×(List aG)×(List aK)) (aJ×Bool)):=
 fun i17 (v18,v19,v24,v25,v26,v27)=>bd (KD fu (v18,v19,v24,v25,v26,v27) (bB pa0.gList i17)) (fun(x31,x32)=>
 sw (!(x31))
 (some (.ret ((aJ.mk s_ [] [] [] [] []),false)))
 (some (.next (x32.1,x32.2.1,x32.2.2.1,x32.2.2.2.1,x32.2.2.2.2.1,x32.2.2.2.2.2))))
def JZ(fu:Nat)(pa0 x2:aB)(x4:List ByteArray)(x5:Bool)(x7:aB)(x9:Bool):Option ((aJ×Bool)⊕(ByteArray×(List ByteArray)×(List aU)×(List aM)×(List aG)×(List aK))):=
 loopN (JY fu pa0 x2 x4 x5 x7 x9) (pa0.gList.length-3) 3 (x7.gAtom,x4,([]),([]),([]),([]))
def tQ(fu:Nat)(pa0:aB):Option (aJ×Bool):=
 bd (dR fu pa0 2) (fun x2=>
 bd (yU fu x2.gList) (fun(x4,x5)=>
 bd (dR fu pa0 1) (fun x7=>
 bd (iE fu pa0) (fun x9=>
 sw (!(x9))
 (some ((aJ.mk s_ [] [] [] [] []),false))
 (sw (decide ((pa0.gList.length:Int)<3))
 (some ((aJ.mk s_ [] [] [] [] []),false))
 (gd (0<(pa0.gList).length)
 (sw (!decide ((bB pa0.gList 0).gAtom=WO))
 (some ((aJ.mk s_ [] [] [] [] []),false))
 (gd (2<(pa0.gList).length)
 (sw (!decide ((bB pa0.gList 2).gAtom=s_))
 (some ((aJ.mk s_ [] [] [] [] []),false))
 (sw (!(x5))
 (some ((aJ.mk s_ [] [] [] [] []),false))
 (so (JZ fu pa0 x2 x4 x5 x7 x9) (fun(v18,v19,v24,v25,v26,v27)=>
 bd (tP fu (aJ.mk v18 v19 v24 v25 v26 v27)) (fun x35=>
 sw (!(x35))
 (some ((aJ.mk s_ [] [] [] [] []),false))
 (some ((aJ.mk v18 v19 v24 v25 v26 v27),true)))))))))))))))
theorem J0(fu:Nat):L3 (tQ fu):=by
 intro pa0 r H
 have H:=fF H
 refine qI Tryz.func208 (fun C hC=>?_)
 refine qS (qR (q1 (kQ ([pS pa0.gAtom,bJ pa0.gList])) (q1 (iG s3) (q1 aF (qN (qS (qR (q1 (cY [pS pa0.gAtom,bJ pa0.gList] bY) (bU H fun x2 z1 H=>(q1 (bQ Tryz.func219 (c8 fu pa0 2 _ z1)) (q1 (rF1 XR) (fQ H fun x4 x5 z3 H=>(q1 (bQ Tryz.func218 (FB fu x2.gList _ z3)) ?_)))))))))))))
 refine q1 aF ?_
 iterate 2 refine q1 BH ?_
 iterate 2 refine q1 aF ?_
 refine qN (qS (qR (q1 (cY [pS pa0.gAtom,bJ pa0.gList] bY) (bU H fun x7 z6 H=>(q1 (bQ Tryz.func219 (c8 fu pa0 1 _ z6)) (q1 (rF1 tA) (q1 aF (q1 (gD s3 IE) (q1 (iG s3) (q1 (b3 t2) (qN ?_)))))))))))
 iterate 2 refine qS ?_
 refine qR (q1 (cY [pS pa0.gAtom,bJ pa0.gList] bY) (bU H fun x9 z8 H=>(q1 (bQ Tryz.func217 (dL fu pa0 _ z8)) (q1 iS (q1 aF ?_)))))
 refine eK 23 H (fun g10 H=>?_) fun g10 H=>?_
 ·refine qk g10 ?_
  iterate 3 refine qk g10 ?_
  refine q1 (b0 g10) (q1 aF ?_)
  iterate 6 refine qk rfl ?_
  refine q1 (b0 rfl) (q1 aF ?_)
  iterate 6 refine qk rfl ?_
  refine q1 (b0 rfl) (q1 aF ?_)
  iterate 2 refine qk rfl ?_
  refine q1 (b0 rfl) (qN (eM rfl (qS (qR (q1 (gD s3 IE) (q1 (b3 t2) (q1 aF (qN (aO.ret ?_)))))))))
  cases aZ H
  exact lW (hr:=⟨⟨_,_,_,rfl,rfl,qB,rfl,rfl⟩,rfl,trivial⟩)
 refine qg g10 (bC bN) (qg g10 (bL c6) (qg g10 (eR bO (aB.trs_len _)) (qg g10 iQ (q1 (cC g10) (q1 aF ?_)))))
 refine eK 29 H (fun g11 H=>?_) fun g11 H=>?_
 ·have g11n:pa0.gList.length<3:=by have:=of_decide_eq_true g11;omega
  iterate 6 refine qk g11 ?_
  refine q1 (b0 g11) (q1 aF ?_)
  iterate 6 refine qk rfl ?_
  refine q1 (b0 rfl) (q1 aF ?_)
  iterate 2 refine qk rfl ?_
  refine q1 (b0 rfl) (qN (eM rfl (qS (qR (q1 (gD s3 IE) (q1 (b3 t2) (q1 aF (qN (aO.ret ?_)))))))))
  cases aZ H
  exact lW (hr:=⟨⟨_,_,_,rfl,rfl,qB,rfl,rfl⟩,rfl,trivial⟩)
 refine qg g11 (bC bN) (qg g11 (bL c6) (c9 H fun z12 H=>(qg g11 (jH z12 bO) (qg g11 (rC fR) (qg g11 (p9 fO) (qg g11 SP (q1 (cC g11) (q1 aF ?_))))))))
 refine eK 37 H (fun g13 H=>?_) fun g13 H=>?_
 ·refine qk g13 ?_
  iterate 5 refine qk g13 ?_
  refine q1 (b0 g13) (q1 aF ?_)
  iterate 2 refine qk rfl ?_
  refine q1 (b0 rfl) (qN (eM rfl (qS (qR (q1 (gD s3 IE) (q1 (b3 t2) (q1 aF (qN (aO.ret ?_)))))))))
  cases aZ H
  exact lW (hr:=⟨⟨_,_,_,rfl,rfl,qB,rfl,rfl⟩,rfl,trivial⟩)
 refine qg g13 (bC bN) (qg g13 (bL c6) (c9 H fun z14 H=>(qg g13 (jH z14 bO) (qg g13 (rC fR) (qg g13 (p9 fO) (qg g13 SP (q1 (cC g13) (q1 aF ?_))))))))
 refine eK 45 H (fun g15 H=>?_) fun g15 H=>?_
 ·refine qk g15 (qk g15 (q1 (b0 g15) (qN (eM rfl (qS (qR (q1 (gD s3 IE) (q1 (b3 t2) (q1 aF (qN (aO.ret ?_)))))))))))
  cases aZ H
  exact lW (hr:=⟨⟨_,_,_,rfl,rfl,qB,rfl,rfl⟩,rfl,trivial⟩)
 refine qg g15 aF (qg g15 iS (q1 (cC g15) (qN ?_)))
 refine bH H (fun h16 H=>?_) (fun h16 H=>?_)
 ·refine qS (qR (q1 (gD s3 IE) (q1 (b3 t2) (q1 aF (qN (aO.ret ?_))))))
  cases aZ H
  exact lW (hr:=⟨⟨_,_,_,rfl,rfl,qB,rfl,rfl⟩,rfl,trivial⟩)
 refine aO.skip ?_
 iterate 2 refine qS ?_
 refine qR (q1 aF (qN (aO.wk (Wk.regBox (k:=2) (j:=2) 60 5 (by decide) rfl rfl) (aO.wk (Wk.regBox (k:=2) (j:=3) 116 3 (by decide) rfl rfl) (aO.wk (Wk.regBox (k:=2) (j:=4) 55 12 (by decide) rfl rfl) (aO.wk (Wk.regBox (k:=2) (j:=5) 148 16 (by decide) rfl rfl) ?_))))))
 refine kV 25 (aB.trs_len _) (fun hl28=>?_)
 refine cM (σ:=ByteArray×(List ByteArray)×(List aU)×(List aM)×(List aG)×(List aK)) (fun i17 (v18,v19,v24,v25,v26,v27)=>⟨[(1,.ptr 0 0),(2,.ptr 1 0),(3,pB false),(6,.ptr 2 0),(7,pN i17)],⟨[some ⟨237,[pS pa0.gAtom,bJ pa0.gList]⟩,some ⟨131,[pS s_,.nil,.nil,.nil,.nil,.nil]⟩,some ⟨131,[pS v18,rS v19,xQ v24 0,m6 v25 1,m8 v26 2,m7 v27 3]⟩],[⟨60,5,aU.trs (v24),false⟩,⟨116,3,aM.trs (v25),false⟩,⟨55,12,aG.trs (v26),false⟩,⟨148,16,aK.trs (v27),false⟩]⟩⟩) (fun(v18,v19,v24,v25,v26,v27)=>⟨[(2,.ptr 1 0),(3,pB false),(6,.ptr 2 0)],⟨[some ⟨237,[pS pa0.gAtom,bJ pa0.gList]⟩,some ⟨131,[pS s_,.nil,.nil,.nil,.nil,.nil]⟩,some ⟨131,[pS v18,rS v19,xQ v24 0,m6 v25 1,m8 v26 2,m7 v27 3]⟩],[⟨60,5,aU.trs (v24),false⟩,⟨116,3,aM.trs (v25),false⟩,⟨55,12,aG.trs (v26),false⟩,⟨148,16,aK.trs (v27),false⟩]⟩⟩) (gW H) ?_ ?_
 ·rintro i17 ⟨v18,v19,v24,v25,v26,v27⟩ H
  iterate 2 refine qS ?_
  refine qR (q1 aF (q1 (bC bN) (q1 (bL c6) (q1 (eR bO (aB.trs_len _)) (q1 iQ (qN ?_))))))
  refine eO H (fun h29 h29l H=>?_) (fun h29 H=>?_)
  ·have h29n:=bF h29
   refine aO.skip (qS (aO.block (qS (qR (q1 (bC bN) (q1 (bL c6) (q1 aF (q1 (jH h29n bO) (q1 (lB (aB.cs (bB pa0.gList i17)) bY) (fQ H fun x31 x32 z30 H=>(q1 (f6 [2] [0,1,2,3] Tryz.func220 (ac7 fu (v18,v19,v24,v25,v26,v27) (bB pa0.gList i17) _ z30)) (q1 iS (qN ?_)))))))))))))
   refine bH H (fun h33 H=>?_) (fun h33 H=>?_)
   ·refine qS (qR (q1 (gD s3 IE) (q1 (b3 t2) (q1 aF (qN (aO.ret ?_))))))
    obtain rfl:_=r:=(rK (aZ H):)
    exact lW (hr:=⟨⟨_,_,_,rfl,rfl,qB,rfl,rfl⟩,rfl,trivial⟩)
   refine aO.skip (qR (q1 aF (q1 (aV.addI rfl rfl rfl rfl (c:=((i17+1:Nat):Int)) (by omega) (by omega)) (q1 aF (qN ?_)))))
   exact j8 h29l ⟨_,(aZ H:),b9⟩
  refine aO.exit ?_;exact lP ⟨_,H,b9⟩
 rintro⟨v18,v19,v24,v25,v26,v27⟩ H
 iterate 2 refine qS ?_
 refine qR (q1 (cY [pS v18,rS v19,xQ v24 0,m6 v25 1,m8 v26 2,m7 v27 3] qB) (bU H fun x35 z34 H=>(q1 (bQ Tryz.func221 (JU fu (aJ.mk v18 v19 v24 v25 v26 v27) _ z34)) (q1 iS (qN ?_)))))
 refine bH H (fun h36 H=>?_) (fun h36 H=>?_)
 ·refine qS (qR (q1 (gD s3 IE) (q1 (b3 t2) (q1 aF (qN (aO.ret ?_))))))
  cases aZ H
  exact lW (hr:=⟨⟨_,_,_,rfl,rfl,qB,rfl,rfl⟩,rfl,trivial⟩)
 refine aO.skip (qS (qR (q1 (cY [pS v18,rS v19,xQ v24 0,m6 v25 1,m8 v26 2,m7 v27 3] qB) (q1 (b3 t2) (q1 aF (qN (aO.ret ?_)))))))
 cases aZ H
 exact lW (hr:=⟨⟨_,_,_,rfl,rfl,qB,rfl,rfl⟩,rfl,trivial⟩)
def QG(m:ByteArray→Option (aJ×Bool)):Prop:= ∀(ps:ByteArray) (r:aJ×Bool),m ps=some r→cA Tryz.prog 193 [pS ps] (.tup [(aJ.pv r.1),pB r.2]:PV)
def wD(fu:Nat)(ps:ByteArray):Option (aJ×Bool):=
 bd (uZ fu ps) (fun(x2,x3)=>
 sw (!(x3))
 (some ((aJ.mk s_ [] [] [] [] []),false))
 (bd (tQ fu x2) (fun(x6,x7)=>
 some (x6,x7))))
theorem NS(fu:Nat):QG (wD fu):=by
 intro ps r H
 have H:=fF H
 refine qI Tryz.func193 (fun C hC=>?_)
 refine qS (qR (q1 (iG s3) (q1 aF (qN (qS (qR (q1 aF (fQ H fun x2 x3 z1 H=>(q1 (bQ Tryz.func207 (S8 fu ps _ z1)) (q1 aF ?_))))))))))
 iterate 2 refine q1 BH ?_
 refine q1 (iG cF) (q1 (b3 eQ) (q1 aF (qN ?_)))
 iterate 2 refine qS ?_
 refine qR (q1 aF (q1 iS (qN ?_)))
 refine bH H (fun h4 H=>?_) (fun h4 H=>?_)
 ·refine qS (qR (q1 (gD s3 IE) (q1 (b3 t2) (q1 aF (qN (aO.ret ?_))))))
  cases aZ H
  exact lW (hr:=⟨⟨_,_,_,rfl,rfl,qB,rfl,rfl⟩,rfl,trivial⟩)
 refine aO.skip (qS (qR (q1 (cY [pS x2.gAtom,bJ x2.gList] bY) (fQ H fun x6 x7 z5 H=>(q1 (bQ Tryz.func208 (J0 fu x2 _ z5)) ?_)))))
 iterate 2 refine q1 BH ?_
 refine q1 (b3 t2) (q1 aF (qN (aO.ret ?_)))
 cases aZ H
 exact lW (hr:=⟨⟨_,_,_,rfl,rfl,qB,rfl,rfl⟩,rfl,trivial⟩)
def QH(m:ByteArray→Option (aP×Int)):Prop:= ∀(ps:ByteArray) (r:aP×Int),m ps=some r→W0 Tryz.prog 165 [pS ps] ⟨[],[]⟩ [] 131 6 (aJ.trs (r.1.gPackages)) (fun k=> .tup [.agg [rE r.1.gPackages k],pI r.2])
def NT(fu:Nat)(ps:ByteArray)(x2:List ByteArray):Nat→((List aJ))→Option (LR ((List aJ)) (aP×Int)):=
 fun i3 v5=>bd (E6 fu (bB x2 i3)) (fun x9=>
 sw (x9)
 (some (.next v5))
 (bd (wD fu (bB x2 i3)) (fun(x12,x13)=>
 sw (!(x13))
 (some (.ret ((aP.mk []),(v5.length:Int))))
 (sw (decide ((v5.length:Int)=5))
 (some (.ret ((aP.mk []),(v5.length:Int))))
 (gd ((v5).length+(([x12]:List aJ)).length≤68719476736)
 (some (.next (v5++([x12]:List aJ)))))))))
def NU(fu:Nat)(ps:ByteArray)(x2:List ByteArray):Option ((aP×Int)⊕((List aJ))):=
 loopN (NT fu ps x2) (x2.length-0) 0 ([])
def wE(fu:Nat)(ps:ByteArray):Option (aP×Int):=
 bd (CQ fu ps (10:UInt8)) (fun x2=>
 so (NU fu ps x2) (fun v5=>
 some ((aP.mk v5),(-1))))
theorem NV(fu:Nat):QH (wE fu):=by
 intro ps r H
 unfold W0
 have H:=fF H
 refine qI Tryz.func165 (fun C hC=>?_)
 refine qS (qR (q1 (iG QO) (q1 aF (qN (qS (qR (q1 (gD QO aoG) (q1 (iG QO) (q1 (b3 QN) (qN (qS (qR (q1 aF ?_)))))))))))))
 refine bU H fun x2 z1 H=>(q1 (bQ Tryz.func191 (VP fu ps (10:UInt8) _ z1)) (q1 aF (qN ?_)))
 iterate 2 refine qS ?_
 refine qR (q1 aF (qN (aO.wk (Wk.regBox (k:=1) (j:=0) 131 6 (by decide) rfl rfl) ?_)))
 refine kV 5 (bI _) (fun hl6=>?_)
 refine cM (σ:=(List aJ)) (fun i3 v5=>⟨[(2,.ptr 0 0),(3,pI 0),(4,.ptr 1 0),(5,rS x2),(6,pN i3)],⟨[some ⟨26,[.nil]⟩,some ⟨26,[rE v5 0]⟩],[⟨131,6,aJ.trs (v5),false⟩]⟩⟩) (fun v5=>⟨[(2,.ptr 0 0),(3,pI 0),(4,.ptr 1 0)],⟨[some ⟨26,[.nil]⟩,some ⟨26,[rE v5 0]⟩],[⟨131,6,aJ.trs (v5),false⟩]⟩⟩) (gW H) ?_ ?_
 ·rintro i3 v5 H
  iterate 2 refine qS ?_
  refine qR ?_
  iterate 2 refine q1 aF ?_
  refine q1 (eR b6 (bI _)) (q1 iQ (qN ?_))
  refine eO H (fun h7 h7l H=>?_) (fun h7 H=>?_)
  ·have h7n:=bF h7
   refine aO.skip (qS (aO.block ?_))
   iterate 2 refine qS ?_
   refine qR ?_
   iterate 2 refine q1 aF ?_
   refine q1 (jH h7n b6) (q1 (p9 fO) (bU H fun x9 z8 H=>(q1 (bQ Tryz.func192 (ZB fu (bB x2 i3) _ z8)) (qN ?_))))
   refine bH H (fun h10 H=>?_) (fun h10 H=>?_)
   ·refine aO.exit (qR (q1 aF (q1 (aV.addI rfl rfl rfl rfl (c:=((i3+1:Nat):Int)) (by omega) (by omega)) (q1 aF (qN ?_)))))
    exact j8 h7l ⟨_,(aZ H:),b9⟩
   refine aO.skip (qS (qR ?_))
   iterate 2 refine q1 aF ?_
   refine q1 (jH h7n b6) (q1 (p9 fO) (fQ H fun x12 x13 z11 H=>(q1 (bQ Tryz.func193 (NS fu (bB x2 i3) _ z11)) (q1 aF ?_))))
   iterate 2 refine q1 BH ?_
   refine q1 (iG s3) (q1 (b3 t2) (q1 aF (qN ?_)))
   iterate 2 refine qS ?_
   refine qR (q1 aF (q1 iS (q1 aF ?_)))
   refine eK 33 H (fun g14 H=>?_) fun g14 H=>?_
   ·refine qk g14 ?_
    iterate 3 refine qk g14 ?_
    refine q1 (b0 g14) (qN (eM rfl (qS (dW (dI [] (gD QO aoG) (dI [4] (bC nQ) (dB [40] 0 1 (vQ EV) (dI [41] (eR zY (aJ.trs_len _)) (m4 [2,39] (b3 QN) (dI [42] aF (dN (aO.wk (Wk.regBox (k:=0) (j:=0) 131 6 (by decide) rfl rfl) (aO.ret ?_)))))))))))))
    obtain rfl:_=r:=(rK (aZ H):)
    exact lW (st':=⟨[],[⟨131,6,aJ.trs (v5),false⟩,⟨131,6,aJ.trs ([]),false⟩]⟩) ⟨1,rfl,rfl,rfl⟩ (hr:=⟨⟨_,_,_,rfl,rfl,vK,rfl,rfl⟩,rfl,trivial⟩)
   refine qg g14 (bC nQ) (qg g14 (bL EV) (qg g14 (eR zY (aJ.trs_len _)) (qg g14 eP (q1 (cC g14) (qN ?_)))))
   refine bH H (fun h15 H=>?_) (fun h15 H=>?_)
   ·refine qS (dW (dI [] (gD QO aoG) (dI [4] (bC nQ) (dB [40] 0 1 (vQ EV) (dI [41] (eR zY (aJ.trs_len _)) (m4 [2,39] (b3 QN) (dI [42] aF (dN (aO.wk (Wk.regBox (k:=0) (j:=0) 131 6 (by decide) rfl rfl) (aO.ret ?_))))))))))
    obtain rfl:_=r:=(rK (aZ H):)
    exact lW (st':=⟨[],[⟨131,6,aJ.trs (v5),false⟩,⟨131,6,aJ.trs ([]),false⟩]⟩) ⟨1,rfl,rfl,rfl⟩ (hr:=⟨⟨_,_,_,rfl,rfl,vK,rfl,rfl⟩,rfl,trivial⟩)
   refine aO.skip (qR (q1 (bC nQ) (q1 (bL EV) (q1 (cY [pS x12.gName,rS x12.gDeps,YA x12.gTraits,sT x12.gDataTypes,nH x12.gInstances,FZ x12.gFunctions] qB) (q1 (wA ([x12]:List aJ) zY s3) (c9 H fun z16 H=>(q1 (oE z16 zY apU) (q1 (bC nQ) (q1 (b3 apM) (qN (qR (q1 aF (q1 (aV.addI rfl rfl rfl rfl (c:=((i3+1:Nat):Int)) (by omega) (by omega)) ?_)))))))))))))
   refine q1 aF (qN ?_)
   exact j8 h7l ⟨_,(aZ H:),b9⟩
  refine aO.exit ?_;exact lP ⟨_,H,b9⟩
 rintro v5 H
 refine qS (qR (q1 (cY [rE v5 0] vK) (q1 (b3 QN) (q1 aF (qN (aO.ret ?_))))))
 cases aZ H
 exact lW (st':=⟨[],[⟨131,6,aJ.trs (v5),false⟩]⟩) ⟨0,rfl,rfl,rfl⟩ (hr:=⟨⟨_,_,_,rfl,rfl,vK,rfl,rfl⟩,rfl,trivial⟩)
def afY(m:DS→Option (ByteArray×DS)):Prop:= ∀(pc:DS) (r:ByteArray×DS),m pc=some r→cP Tryz.prog 194 [.ptr 0 0] ⟨[some ⟨151,dC pc⟩],[]⟩ (fun q t=>q=(pS r.1:PV)∧t=⟨[some ⟨151,dC r.2⟩],[]⟩)
def KC(fu:Nat)(pc:DS):Option (ByteArray×DS):=
 gd ((cU).size+(cV).size≤1099511627776)
 (gd ((cU++cV).size+(c4).size≤1099511627776)
 (gd (((cU++cV)++c4).size+(dG).size≤1099511627776)
 (lt (pc.after 2) (fun d4=>
 sw (decide (pc.below 2=0))
 (gd ((((cU++cV)++c4)++dG).size+(jL).size≤1099511627776)
 (gd (((((cU++cV)++c4)++dG)++jL).size+(eF).size≤1099511627776)
 (gd ((((((cU++cV)++c4)++dG)++jL)++eF).size+(fB).size≤1099511627776)
 (gd (((((((cU++cV)++c4)++dG)++jL)++eF)++fB).size+(f9).size≤1099511627776)
 (gd ((((((((cU++cV)++c4)++dG)++jL)++eF)++fB)++f9).size+(iL).size≤1099511627776)
 (gd (((((((((cU++cV)++c4)++dG)++jL)++eF)++fB)++f9)++iL).size+(lC).size≤1099511627776)
 (gd ((((((((((cU++cV)++c4)++dG)++jL)++eF)++fB)++f9)++iL)++lC).size+(oJ).size≤1099511627776)
 (gd (((((((((((cU++cV)++c4)++dG)++jL)++eF)++fB)++f9)++iL)++lC)++oJ).size+(yY).size≤1099511627776)
 (some ((((((((((((cU++cV)++c4)++dG)++jL)++eF)++fB)++f9)++iL)++lC)++oJ)++yY),d4))))))))))
 (gd ((((cU++cV)++c4)++dG).size+(jM).size≤1099511627776)
 (gd (((((cU++cV)++c4)++dG)++jM).size+(eF).size≤1099511627776)
 (gd ((((((cU++cV)++c4)++dG)++jM)++eF).size+(fB).size≤1099511627776)
 (gd (((((((cU++cV)++c4)++dG)++jM)++eF)++fB).size+(f9).size≤1099511627776)
 (gd ((((((((cU++cV)++c4)++dG)++jM)++eF)++fB)++f9).size+(iL).size≤1099511627776)
 (gd (((((((((cU++cV)++c4)++dG)++jM)++eF)++fB)++f9)++iL).size+(lC).size≤1099511627776)
 (gd ((((((((((cU++cV)++c4)++dG)++jM)++eF)++fB)++f9)++iL)++lC).size+(oJ).size≤1099511627776)
 (gd (((((((((((cU++cV)++c4)++dG)++jM)++eF)++fB)++f9)++iL)++lC)++oJ).size+(yY).size≤1099511627776)
 (some ((((((((((((cU++cV)++c4)++dG)++jM)++eF)++fB)++f9)++iL)++lC)++oJ)++yY),d4))))))))))))))
theorem ac6(fu:Nat):afY (KC fu):=by
 intro pc r H
 have H:=fF H
 refine qI Tryz.func194 (fun C hC=>?_)
 refine qS (qR (q1 aF (qN (qS (qR (q1 aF (qN (qS (qR (q1 aF (c9 H fun z1 H=>(q1 (aV.addS rfl rfl rfl rfl (Nat.le_trans z1 (by decide))) (q1 aF ?_)))))))))))))
 refine qN (qS (qR (q1 aF (c9 H fun z2 H=>(q1 (aV.addS rfl rfl rfl rfl (Nat.le_trans z2 (by decide))) (q1 aF (qN (qS (qR (q1 aF (c9 H fun z3 H=>(q1 (aV.addS rfl rfl rfl rfl (Nat.le_trans z3 (by decide))) (q1 aF ?_)))))))))))))
 refine qN ?_
 iterate 2 refine qS ?_
 refine qR (q1 aF (gU H fun d4 h5 H=>(q1 (f6 [0] [] Tryz.func112 (DX h5 (nY pc 2))) (qN ?_))))
 refine bH H (fun h6 H=>?_) (fun h6 H=>?_)
 ·refine qR (q1 aF (c9 H fun z7 H=>(q1 (aV.addS rfl rfl rfl rfl (Nat.le_trans z7 (by decide))) (q1 aF (qN (qS (qR (q1 aF (c9 H fun z8 H=>(q1 (aV.addS rfl rfl rfl rfl (Nat.le_trans z8 (by decide))) (q1 aF (qN (qS ?_)))))))))))))
  refine qR (q1 aF (c9 H fun z9 H=>(q1 (aV.addS rfl rfl rfl rfl (Nat.le_trans z9 (by decide))) (q1 aF (qN (qS (qR (q1 aF (c9 H fun z10 H=>(q1 (aV.addS rfl rfl rfl rfl (Nat.le_trans z10 (by decide))) (q1 aF (qN (qS ?_)))))))))))))
  refine qR (q1 aF (c9 H fun z11 H=>(q1 (aV.addS rfl rfl rfl rfl (Nat.le_trans z11 (by decide))) (q1 aF (qN (qS (qR (q1 aF (c9 H fun z12 H=>(q1 (aV.addS rfl rfl rfl rfl (Nat.le_trans z12 (by decide))) (q1 aF (qN (qS ?_)))))))))))))
  refine qR (q1 aF (c9 H fun z13 H=>(q1 (aV.addS rfl rfl rfl rfl (Nat.le_trans z13 (by decide))) (q1 aF (qN (qS (qR (q1 aF (c9 H fun z14 H=>(q1 (aV.addS rfl rfl rfl rfl (Nat.le_trans z14 (by decide))) (q1 aF (qN (aO.ret ?_)))))))))))))
  cases aZ H
  exact bR
 refine qR (q1 aF (c9 H fun z15 H=>(q1 (aV.addS rfl rfl rfl rfl (Nat.le_trans z15 (by decide))) (q1 aF (qN (qS (qR (q1 aF (c9 H fun z16 H=>(q1 (aV.addS rfl rfl rfl rfl (Nat.le_trans z16 (by decide))) (q1 aF (qN (qS ?_)))))))))))))
 refine qR (q1 aF (c9 H fun z17 H=>(q1 (aV.addS rfl rfl rfl rfl (Nat.le_trans z17 (by decide))) (q1 aF (qN (qS (qR (q1 aF (c9 H fun z18 H=>(q1 (aV.addS rfl rfl rfl rfl (Nat.le_trans z18 (by decide))) (q1 aF (qN (qS ?_)))))))))))))
 refine qR (q1 aF (c9 H fun z19 H=>(q1 (aV.addS rfl rfl rfl rfl (Nat.le_trans z19 (by decide))) (q1 aF (qN (qS (qR (q1 aF (c9 H fun z20 H=>(q1 (aV.addS rfl rfl rfl rfl (Nat.le_trans z20 (by decide))) (q1 aF (qN (qS ?_)))))))))))))
 refine qR (q1 aF (c9 H fun z21 H=>(q1 (aV.addS rfl rfl rfl rfl (Nat.le_trans z21 (by decide))) (q1 aF (qN (qS (qR (q1 aF (c9 H fun z22 H=>(q1 (aV.addS rfl rfl rfl rfl (Nat.le_trans z22 (by decide))) (q1 aF (qN (aO.ret ?_)))))))))))))
 cases aZ H
 exact bR
def ajR(m:DS→Option (ByteArray×DS)):Prop:= ∀(pc:DS) (r:ByteArray×DS),m pc=some r→cP Tryz.prog 195 [.ptr 0 0] ⟨[some ⟨151,dC pc⟩],[]⟩ (fun q t=>q=(pS r.1:PV)∧t=⟨[some ⟨151,dC r.2⟩],[]⟩)
def afU(fu:Nat)(pc:DS):Option ((ByteArray×DS)⊕(ByteArray×DS)):=
 lt (pc.after 8) (fun d3=>
 sw (decide ((pc.below 8:Int)=0))
 (gd ((fA).size+(LG).size≤1099511627776)
 (some (.inr ((fA++LG),d3))))
 (sw (decide ((pc.below 8:Int)=1))
 (gd ((fA).size+(LE).size≤1099511627776)
 (some (.inr ((fA++LE),d3))))
 (sw (decide ((pc.below 8:Int)=2))
 (gd ((fA).size+(K8).size≤1099511627776)
 (some (.inr ((fA++K8),d3))))
 (sw (decide ((pc.below 8:Int)=3))
 (gd ((fA).size+(LA).size≤1099511627776)
 (some (.inr ((fA++LA),d3))))
 (sw (decide ((pc.below 8:Int)=4))
 (gd ((fA).size+(K9).size≤1099511627776)
 (some (.inr ((fA++K9),d3))))
 (sw (decide ((pc.below 8:Int)=5))
 (gd ((fA).size+(LD).size≤1099511627776)
 (some (.inr ((fA++LD),d3))))
 (gd ((fA).size+(LB).size≤1099511627776)
 (some (.inr ((fA++LB),d3))))))))))
def afV(fu:Nat)(pc:DS)(v1:ByteArray)(v2 d19:DS)(y21:ByteArray):Option ((ByteArray×DS)⊕(ByteArray×DS)):=
 lt (d19.after 2) (fun d27=>
 sw (decide (d19.below 2=0))
 (gd ((((v1++oH)++y21)++yY).size+(LC).size≤1099511627776)
 (some (.inr (((((v1++oH)++y21)++yY)++LC),d27))))
 (some (.inr ((((v1++oH)++y21)++yY),d27))))
def afW(fu:Nat)(pc:DS)(v1:ByteArray)(v2 d19:DS)(y21 v25:ByteArray)(v26:DS):Option ((ByteArray×DS)⊕(ByteArray×DS)):=
 lt (v26.after 3) (fun d33=>
 sw (decide (v26.below 3=0))
 (gd ((v25).size+(LF).size≤1099511627776)
 (some (.inr ((v25++LF),d33))))
 (some (.inr (v25,d33))))
def OE(fu:Nat)(pc:DS):Option (ByteArray×DS):=
 so (afU fu pc) (fun(v1,v2)=>
 gd ((v1).size+(oH).size≤1099511627776)
 (lt (v2.after ([A1,A0,AY,A2,AX,A5,A6,A3,A4,AW]:List ByteArray).length) (fun d19=>
 lt (v2.pick ([A1,A0,AY,A2,AX,A5,A6,A3,A4,AW]:List ByteArray)) (fun y21=>
 gd ((v1++oH).size+(y21).size≤1099511627776)
 (gd (((v1++oH)++y21).size+(yY).size≤1099511627776)
 (so (afV fu pc v1 v2 d19 y21) (fun(v25,v26)=>
 so (afW fu pc v1 v2 d19 y21 v25 v26) (fun(v31,v32)=>
 lt (v32.after 4) (fun d37=>
 sw (decide (v32.below 4=0))
 (gd ((v31).size+(AZ).size≤1099511627776)
 (gd ((v31++AZ).size+(yY).size≤1099511627776)
 (some (((v31++AZ)++yY),d37))))
 (gd ((v31).size+(yY).size≤1099511627776)
 (some ((v31++yY),d37))))))))))))
theorem afX(fu:Nat):ajR (OE fu):=by
 intro pc r H
 have H:=fF H
 refine qI Tryz.func195 (fun C hC=>?_)
 refine qS (qR (q1 aF (qN (qS (qR (q1 aF (qN (qS ?_))))))))
 refine qF (σ:=ByteArray×DS) (fun(v1,v2)=>⟨[(0,.ptr 0 0),(2,pS s_),(3,pS v1)],⟨[some ⟨151,dC v2⟩],[]⟩⟩) (gW H) (fun H=>?_) ?_
 ·refine qS (qR (q1 aF (gU H fun d3 h4 H=>(q1 (f6 [0] [] Tryz.func103 (DX h4 (gF pc 8))) (qN (aO.block (qS (qR (q1 eP (q1 aF (qN ?_)))))))))))
  refine bH H (fun h5 H=>?_) (fun h5 H=>?_)
  ·refine qR (q1 aF (c9 H fun z6 H=>(q1 (aV.addS rfl rfl rfl rfl (Nat.le_trans z6 (by decide))) (q1 aF (qN ?_)))))
   exact eC ⟨_,(aZ H:),b9⟩
  refine qS (qR (q1 eP (q1 aF (qN ?_))))
  refine bH H (fun h7 H=>?_) (fun h7 H=>?_)
  ·refine qR (q1 aF (c9 H fun z8 H=>(q1 (aV.addS rfl rfl rfl rfl (Nat.le_trans z8 (by decide))) (q1 aF (qN ?_)))))
   exact eC ⟨_,(aZ H:),b9⟩
  refine qS (qR (q1 eP (q1 aF (qN ?_))))
  refine bH H (fun h9 H=>?_) (fun h9 H=>?_)
  ·refine qR (q1 aF (c9 H fun z10 H=>(q1 (aV.addS rfl rfl rfl rfl (Nat.le_trans z10 (by decide))) (q1 aF (qN ?_)))))
   exact eC ⟨_,(aZ H:),b9⟩
  refine qS (qR (q1 eP (q1 aF (qN ?_))))
  refine bH H (fun h11 H=>?_) (fun h11 H=>?_)
  ·refine qR (q1 aF (c9 H fun z12 H=>(q1 (aV.addS rfl rfl rfl rfl (Nat.le_trans z12 (by decide))) (q1 aF (qN ?_)))))
   exact eC ⟨_,(aZ H:),b9⟩
  refine qS (qR (q1 eP (q1 aF (qN ?_))))
  refine bH H (fun h13 H=>?_) (fun h13 H=>?_)
  ·refine qR (q1 aF (c9 H fun z14 H=>(q1 (aV.addS rfl rfl rfl rfl (Nat.le_trans z14 (by decide))) (q1 aF (qN ?_)))))
   exact eC ⟨_,(aZ H:),b9⟩
  refine qS (qR (q1 eP (q1 aF (qN ?_))))
  refine bH H (fun h15 H=>?_) (fun h15 H=>?_)
  ·refine qR (q1 aF (c9 H fun z16 H=>(q1 (aV.addS rfl rfl rfl rfl (Nat.le_trans z16 (by decide))) (q1 aF (qN ?_)))))
   exact eC ⟨_,(aZ H:),b9⟩
  refine qR (q1 aF (c9 H fun z17 H=>(q1 (aV.addS rfl rfl rfl rfl (Nat.le_trans z17 (by decide))) (q1 aF (qN ?_)))))
  exact eC ⟨_,(aZ H:),b9⟩
 rintro⟨v1,v2⟩ H
 refine qS (qR (q1 aF (c9 H fun z18 H=>(q1 (aV.addS rfl rfl rfl rfl (Nat.le_trans z18 (by decide))) (q1 aF (q1 (iW ([A1,A0,AY,A2,AX,A5,A6,A3,A4,AW]:List ByteArray) b6 lO) (gU H fun d19 h20 H=>(gU H fun y21 h22 H=>(q1 (f6 [0] [] Tryz.func86 (KO h20 h22 (fT v2 ([A1,A0,AY,A2,AX,A5,A6,A3,A4,AW]:List ByteArray) (by decide)))) (c9 H fun z23 H=>(q1 (aV.addS rfl rfl rfl rfl (Nat.le_trans z23 (by decide))) (c9 H fun z24 H=>(q1 (aV.addS rfl rfl rfl rfl (Nat.le_trans z24 (by decide))) ?_)))))))))))))
 refine q1 aF (qN (qS ?_))
 refine qF (σ:=ByteArray×DS) (fun(v25,v26)=>⟨[(0,.ptr 0 0),(2,pS s_),(3,pS v25)],⟨[some ⟨151,dC v26⟩],[]⟩⟩) (gW H) (fun H=>?_) ?_
 ·refine qS (qR (q1 aF (gU H fun d27 h28 H=>(q1 (f6 [0] [] Tryz.func112 (DX h28 (nY d19 2))) (qN ?_)))))
  refine bH H (fun h29 H=>?_) (fun h29 H=>?_)
  ·refine qR (q1 aF (c9 H fun z30 H=>(q1 (aV.addS rfl rfl rfl rfl (Nat.le_trans z30 (by decide))) (q1 aF (qN ?_)))))
   exact eC ⟨_,(aZ H:),b9⟩
  refine aO.skip ?_;exact eC ⟨_,(aZ H:),b9⟩
 rintro⟨v25,v26⟩ H
 refine qS ?_;refine qF (σ:=ByteArray×DS) (fun(v31,v32)=>⟨[(0,.ptr 0 0),(2,pS s_),(3,pS v31)],⟨[some ⟨151,dC v32⟩],[]⟩⟩) (gW H) (fun H=>?_) ?_
 ·refine qS (qR (q1 aF (gU H fun d33 h34 H=>(q1 (f6 [0] [] Tryz.func112 (DX h34 (nY v26 3))) (qN ?_)))))
  refine bH H (fun h35 H=>?_) (fun h35 H=>?_)
  ·refine qR (q1 aF (c9 H fun z36 H=>(q1 (aV.addS rfl rfl rfl rfl (Nat.le_trans z36 (by decide))) (q1 aF (qN ?_)))))
   exact eC ⟨_,(aZ H:),b9⟩
  refine aO.skip ?_;exact eC ⟨_,(aZ H:),b9⟩
 rintro⟨v31,v32⟩ H
 iterate 2 refine qS ?_
 refine qR (q1 aF (gU H fun d37 h38 H=>(q1 (f6 [0] [] Tryz.func112 (DX h38 (nY v32 4))) (qN ?_))))
 refine bH H (fun h39 H=>?_) (fun h39 H=>?_)
 ·refine qR (q1 aF (c9 H fun z40 H=>(q1 (aV.addS rfl rfl rfl rfl (Nat.le_trans z40 (by decide))) (q1 aF (qN (qS (qR (q1 aF (c9 H fun z41 H=>(q1 (aV.addS rfl rfl rfl rfl (Nat.le_trans z41 (by decide))) (q1 aF (qN (aO.ret ?_)))))))))))))
  cases aZ H
  exact bR
 refine aO.skip (qS (qR (q1 aF (c9 H fun z42 H=>(q1 (aV.addS rfl rfl rfl rfl (Nat.le_trans z42 (by decide))) (q1 aF (qN (aO.ret ?_))))))))
 cases aZ H
 exact bR
def QM(m:DS→Option (ByteArray×DS)):Prop:= ∀(pc:DS) (r:ByteArray×DS),m pc=some r→cP Tryz.prog 166 [.ptr 0 0] ⟨[some ⟨151,dC pc⟩],[]⟩ (fun q t=>q=(pS r.1:PV)∧t=⟨[some ⟨151,dC r.2⟩],[]⟩)
def wK(fu:Nat)(pc:DS):Option (ByteArray×DS):=
 bd (KC fu pc) (fun(x2,x3)=>
 lt (x3.after 5) (fun d4=>
 sw (decide (x3.below 5=0))
 (some (x2,d4))
 (gd ((x2).size+(akE).size≤1099511627776)
 (bd (OE fu d4) (fun(x9,x10)=>
 gd ((x2++akE).size+(x9).size≤1099511627776)
 (some (((x2++akE)++x9),x10)))))))
theorem OG(fu:Nat):QM (wK fu):=by
 intro pc r H
 have H:=fF H
 refine qI Tryz.func166 (fun C hC=>?_)
 refine qS (qR (q1 aF (qN (qS (qR (q1 aF (fQ H fun x2 x3 z1 H=>(q1 (f6 [0] [] Tryz.func194 (ac6 fu pc _ z1)) (q1 aF (qN ?_))))))))))
 iterate 2 refine qS ?_
 refine qR (q1 aF (gU H fun d4 h5 H=>(q1 (f6 [0] [] Tryz.func112 (DX h5 (nY x3 5))) (qN ?_))))
 refine bH H (fun h6 H=>?_) (fun h6 H=>?_)
 ·refine qS (qR ?_)
  iterate 2 refine q1 aF ?_
  refine qN (aO.ret ?_)
  cases aZ H
  exact bR
 refine aO.skip (qS (qR (q1 aF (c9 H fun z7 H=>(q1 (aV.addS rfl rfl rfl rfl (Nat.le_trans z7 (by decide))) (q1 aF (fQ H fun x9 x10 z8 H=>(q1 (f6 [0] [] Tryz.func195 (afX fu d4 _ z8)) (c9 H fun z11 H=>(q1 (aV.addS rfl rfl rfl rfl (Nat.le_trans z11 (by decide))) (q1 aF (qN (aO.ret ?_)))))))))))))
 cases aZ H
 exact bR
def af3(m:DS→Option (aP×DS)):Prop:= ∀(pc:DS) (r:aP×DS),m pc=some r→W0 Tryz.prog 116 [.ptr 0 0] ⟨[some ⟨151,dC pc⟩],[]⟩ [some ⟨151,dC r.2⟩] 131 6 (aJ.trs (r.1.gPackages)) (fun k=> .agg [rE r.1.gPackages k])
def KE(fu:Nat)(pc:DS):Option (aP×DS):=
 bd (wK fu pc) (fun(x2,x3)=>
 bd (wE fu x2) (fun(x5,x6)=>
 some ((aP.mk x5.gPackages),x3)))
theorem adA(fu:Nat):af3 (KE fu):=by
 intro pc r H
 unfold W0
 have H:=fF H
 refine qI Tryz.func116 (fun C hC=>?_)
 refine qS (qR (q1 (iG QO) (qN (qS (qR (q1 aF (fQ H fun x2 x3 z1 H=>(q1 (f6 [0] [] Tryz.func166 (OG fu pc _ z1)) (fQ H fun x5 x6 z4 H=>(q1 (aV.callOwn (pre:=⟨[],[]⟩) (B:= []) (R:=fun k=> .tup [.agg [rE x5.gPackages k],pI x6]) (ps:= [_]) (qs:= [pS x2]) [] rfl rfl Tryz.func165 (by kernel_rfl) rfl rfl rfl (l6.of trivial trivial (by decide) (by decide)) rfl lG rfl rfl rfl (fun k k'=>(.tup (.cons (.agg (.cons Mv.acc XC.nil)) (.cons (.free _ rfl) XC.nil)))) (NV fu x2 _ z4)) (q1 aF ?_)))))))))))
 iterate 2 refine q1 BH ?_
 refine q1 (iG QO) (q1 (b3 QN) (q1 aF (qN (qS (qR (q1 (cY [rE x5.gPackages 0] vK) (q1 (b3 QN) (qN (aO.ret ?_)))))))))
 cases aZ H
 exact bR (st':=⟨[some ⟨151,dC x3⟩],[⟨131,6,aJ.trs (x5.gPackages),false⟩]⟩) ⟨0,rfl,rfl,rfl⟩ (hr:=⟨⟨_,_,_,rfl,rfl,vK,rfl,rfl⟩,trivial⟩)
end
end Go.Proofs.YtpioomclpaiomaaGreat.W

namespace Go.Proofs.YtpioomclpaiomaaGreat.W
set_option maxRecDepth 100000
set_option maxHeartbeats 40000000
noncomputable section
open Go.RowKit Go.Proofs
set_option linter.unusedSimpArgs false
set_option linter.unusedVariables false
attribute [local irreducible] lt
abbrev MD:=DS→(List ByteArray)→Int→Option (aA×DS)
def Q8(m:MD):Prop:= ∀(pc:DS) (pvars:List ByteArray) (pdeep:Int) (r:aA×DS),m pc pvars pdeep=some r→cP Tryz.prog 130 [.ptr 0 0,rS pvars,pI pdeep] ⟨[some ⟨151,dC pc⟩],[]⟩ (fun q t=>q=((aA.pv r.1):PV)∧t=⟨[some ⟨151,dC r.2⟩],[]⟩)
def Z4(fu:Nat)(r_sl4Ty:MD)(pc:DS)(pvars:List ByteArray)(pdeep:Int):Option (aA×DS):=
 lt (pc.after 8) (fun d1=>
 sw (decide ((pc.below 8:Int)<3))
 (sw (decide ((pvars.length:Int)>0))
 (lt (d1.after pvars.length) (fun d5=>
 gd (d1.below pvars.length<(pvars).length)
 (bd (nL fu (bB pvars (d1.below pvars.length))) (fun x9=>
 some (x9,d5)))))
 (sw (decide ((pc.below 8:Int)<5))
 (lt (d1.after ([fK,fE,jJ]:List ByteArray).length) (fun d11=>
 lt (d1.pick ([fK,fE,jJ]:List ByteArray)) (fun y13=>
 bd (iZ fu y13 ([])) (fun x16=>
 some (x16,d11)))))
 (sw (decide (pdeep≤0))
 (lt (d1.after ([fK,fE,jJ]:List ByteArray).length) (fun d18=>
 lt (d1.pick ([fK,fE,jJ]:List ByteArray)) (fun y20=>
 bd (iZ fu y20 ([])) (fun x23=>
 some (x23,d18)))))
 (sw (decide ((pc.below 8:Int)=5))
 (bd (r_sl4Ty d1 pvars (aQ (pdeep-1))) (fun(x26,x27)=>
 bd (r_sl4Ty x27 pvars (aQ (pdeep-1))) (fun(x29,x30)=>
 bd (iZ fu wJ ([x26,x29]:List aA)) (fun x32=>
 some (x32,x30)))))
 (lt (d1.after ([cZ,cZ,zJ]:List ByteArray).length) (fun d33=>
 lt (d1.pick ([cZ,cZ,zJ]:List ByteArray)) (fun y35=>
 bd (r_sl4Ty d33 pvars (aQ (pdeep-1))) (fun(x38,x39)=>
 bd (iZ fu y35 ([x38]:List aA)) (fun x41=>
 some (x41,x39))))))))))
 (sw (decide ((pc.below 8:Int)<5))
 (lt (d1.after ([fK,fE,jJ]:List ByteArray).length) (fun d43=>
 lt (d1.pick ([fK,fE,jJ]:List ByteArray)) (fun y45=>
 bd (iZ fu y45 ([])) (fun x48=>
 some (x48,d43)))))
 (sw (decide (pdeep≤0))
 (lt (d1.after ([fK,fE,jJ]:List ByteArray).length) (fun d50=>
 lt (d1.pick ([fK,fE,jJ]:List ByteArray)) (fun y52=>
 bd (iZ fu y52 ([])) (fun x55=>
 some (x55,d50)))))
 (sw (decide ((pc.below 8:Int)=5))
 (bd (r_sl4Ty d1 pvars (aQ (pdeep-1))) (fun(x58,x59)=>
 bd (r_sl4Ty x59 pvars (aQ (pdeep-1))) (fun(x61,x62)=>
 bd (iZ fu wJ ([x58,x61]:List aA)) (fun x64=>
 some (x64,x62)))))
 (lt (d1.after ([cZ,cZ,zJ]:List ByteArray).length) (fun d65=>
 lt (d1.pick ([cZ,cZ,zJ]:List ByteArray)) (fun y67=>
 bd (r_sl4Ty d65 pvars (aQ (pdeep-1))) (fun(x70,x71)=>
 bd (iZ fu y67 ([x70]:List aA)) (fun x73=>
 some (x73,x71))))))))))
theorem agX(fu:Nat)(r_sl4Ty:MD)(h_sl4Ty:Q8 r_sl4Ty):Q8 (Z4 fu r_sl4Ty):=by
 intro pc pvars pdeep r H
 have H:=fF H
 refine qI Tryz.func130 (fun C hC=>?_)
 refine qS (qR (q1 (iG hP) (qN (qS (qR (q1 aF (gU H fun d1 h2 H=>(q1 (f6 [0] [] Tryz.func103 (DX h2 (gF pc 8))) (q1 aF (qN (qS (aO.block (qS ?_)))))))))))))
 refine qR (q1 aF (q1 iQ (q1 aF ?_)))
 refine eK 13 H (fun g3 H=>?_) fun g3 H=>?_
 ·have g3n:pc.below 8<3:=by have:=of_decide_eq_true g3;omega
  refine qg g3 aF (qg g3 (eR b6 (bI _)) (qg g3 MI (q1 (b0 g3) (q1 aF (qN ?_)))))
  refine bH H (fun h4 H=>?_) (fun h4 H=>?_)
  ·refine qS (qR ?_)
   iterate 3 refine q1 aF ?_
   refine q1 (eR b6 (bI _)) (gU H fun d5 h6 H=>(q1 (f6 [0] [] Tryz.func103 (DX h6 (gF d1 pvars.length))) (c9 H fun z7 H=>(q1 (jH z7 b6) (q1 (p9 fO) (bU H fun x9 z8 H=>(q1 (bQ Tryz.func118 (kT fu (bB pvars (d1.below pvars.length)) _ z8)) (q1 (b3 hH) (qN (aO.ret ?_))))))))))
   cases aZ H
   exact bR (hr:=⟨⟨_,_,_,rfl,rfl,b8,rfl,rfl⟩,trivial⟩)
  refine qS (qR (q1 aF (q1 iQ (q1 aF ?_))))
  refine eK 29 H (fun g10 H=>?_) fun g10 H=>?_
  ·have g10n:pc.below 8<5:=by have:=of_decide_eq_true g10;omega
   iterate 2 refine qk g10 ?_
   refine q1 (b0 g10) (q1 aF (qN (eM rfl (qS (qR (q1 aF (q1 (iW ([fK,fE,jJ]:List ByteArray) b6 lO) (gU H fun d11 h12 H=>(gU H fun y13 h14 H=>(q1 (f6 [0] [] Tryz.func86 (KO h12 h14 (fT d1 ([fK,fE,jJ]:List ByteArray) (by decide)))) (bU H fun x16 z15 H=>(q1 (bQ Tryz.func85 (iM fu y13 ([]) _ z15)) (q1 (b3 hH) ?_)))))))))))))
   refine qN (aO.ret ?_)
   cases aZ H
   exact bR (hr:=⟨⟨_,_,_,rfl,rfl,b8,rfl,rfl⟩,trivial⟩)
  refine qg g10 aF (qg g10 rLe (q1 (cC g10) (q1 aF (qN ?_))))
  refine bH H (fun h17 H=>?_) (fun h17 H=>?_)
  ·refine qS (qR (q1 aF (q1 (iW ([fK,fE,jJ]:List ByteArray) b6 lO) (gU H fun d18 h19 H=>(gU H fun y20 h21 H=>(q1 (f6 [0] [] Tryz.func86 (KO h19 h21 (fT d1 ([fK,fE,jJ]:List ByteArray) (by decide)))) (bU H fun x23 z22 H=>(q1 (bQ Tryz.func85 (iM fu y20 ([]) _ z22)) (q1 (b3 hH) (qN (aO.ret ?_)))))))))))
   cases aZ H
   exact bR (hr:=⟨⟨_,_,_,rfl,rfl,b8,rfl,rfl⟩,trivial⟩)
  refine qS (qR (q1 aF (q1 eP (q1 aF (qN ?_)))))
  refine bH H (fun h24 H=>?_) (fun h24 H=>?_)
  ·refine qS (qR ?_)
   iterate 3 refine q1 aF ?_
   refine q1 GQ (fQ H fun x26 x27 z25 H=>(q1 (f6 [0] [] Tryz.func130 (h_sl4Ty d1 pvars (aQ (pdeep-1)) _ z25)) ?_))
   iterate 3 refine q1 aF ?_
   refine q1 GQ (fQ H fun x29 x30 z28 H=>(q1 (f6 [0] [] Tryz.func130 (h_sl4Ty x27 pvars (aQ (pdeep-1)) _ z28)) (q1 (iW ([x26,x29]:List aA) dX hP) (bU H fun x32 z31 H=>(q1 (bQ Tryz.func85 (iM fu wJ ([x26,x29]:List aA) _ z31)) (q1 (b3 hH) (qN (aO.ret ?_))))))))
   cases aZ H
   exact bR (hr:=⟨⟨_,_,_,rfl,rfl,b8,rfl,rfl⟩,trivial⟩)
  refine aO.skip (qS (qR (q1 aF (q1 (iW ([cZ,cZ,zJ]:List ByteArray) b6 lO) (gU H fun d33 h34 H=>(gU H fun y35 h36 H=>(q1 (f6 [0] [] Tryz.func86 (KO h34 h36 (fT d1 ([cZ,cZ,zJ]:List ByteArray) (by decide)))) ?_)))))))
  iterate 3 refine q1 aF ?_
  refine q1 GQ (fQ H fun x38 x39 z37 H=>(q1 (f6 [0] [] Tryz.func130 (h_sl4Ty d33 pvars (aQ (pdeep-1)) _ z37)) (q1 (iW ([x38]:List aA) dX hP) (bU H fun x41 z40 H=>(q1 (bQ Tryz.func85 (iM fu y35 ([x38]:List aA) _ z40)) (q1 (b3 hH) (qN (aO.ret ?_))))))))
  cases aZ H
  exact bR (hr:=⟨⟨_,_,_,rfl,rfl,b8,rfl,rfl⟩,trivial⟩)
 iterate 3 refine qk g3 ?_
 refine q1 (cC g3) (q1 aF (qN (kP rfl (qS (qR (q1 aF (q1 iQ (q1 aF ?_))))))))
 refine eK 29 H (fun g42 H=>?_) fun g42 H=>?_
 ·have g42n:pc.below 8<5:=by have:=of_decide_eq_true g42;omega
  iterate 2 refine qk g42 ?_
  refine q1 (b0 g42) (q1 aF (qN (eM rfl (qS (qR (q1 aF (q1 (iW ([fK,fE,jJ]:List ByteArray) b6 lO) (gU H fun d43 h44 H=>(gU H fun y45 h46 H=>(q1 (f6 [0] [] Tryz.func86 (KO h44 h46 (fT d1 ([fK,fE,jJ]:List ByteArray) (by decide)))) (bU H fun x48 z47 H=>(q1 (bQ Tryz.func85 (iM fu y45 ([]) _ z47)) (q1 (b3 hH) ?_)))))))))))))
  refine qN (aO.ret ?_)
  cases aZ H
  exact bR (hr:=⟨⟨_,_,_,rfl,rfl,b8,rfl,rfl⟩,trivial⟩)
 refine qg g42 aF (qg g42 rLe (q1 (cC g42) (q1 aF (qN ?_))))
 refine bH H (fun h49 H=>?_) (fun h49 H=>?_)
 ·refine qS (qR (q1 aF (q1 (iW ([fK,fE,jJ]:List ByteArray) b6 lO) (gU H fun d50 h51 H=>(gU H fun y52 h53 H=>(q1 (f6 [0] [] Tryz.func86 (KO h51 h53 (fT d1 ([fK,fE,jJ]:List ByteArray) (by decide)))) (bU H fun x55 z54 H=>(q1 (bQ Tryz.func85 (iM fu y52 ([]) _ z54)) (q1 (b3 hH) (qN (aO.ret ?_)))))))))))
  cases aZ H
  exact bR (hr:=⟨⟨_,_,_,rfl,rfl,b8,rfl,rfl⟩,trivial⟩)
 refine qS (qR (q1 aF (q1 eP (q1 aF (qN ?_)))))
 refine bH H (fun h56 H=>?_) (fun h56 H=>?_)
 ·refine qS (qR ?_)
  iterate 3 refine q1 aF ?_
  refine q1 GQ (fQ H fun x58 x59 z57 H=>(q1 (f6 [0] [] Tryz.func130 (h_sl4Ty d1 pvars (aQ (pdeep-1)) _ z57)) ?_))
  iterate 3 refine q1 aF ?_
  refine q1 GQ (fQ H fun x61 x62 z60 H=>(q1 (f6 [0] [] Tryz.func130 (h_sl4Ty x59 pvars (aQ (pdeep-1)) _ z60)) (q1 (iW ([x58,x61]:List aA) dX hP) (bU H fun x64 z63 H=>(q1 (bQ Tryz.func85 (iM fu wJ ([x58,x61]:List aA) _ z63)) (q1 (b3 hH) (qN (aO.ret ?_))))))))
  cases aZ H
  exact bR (hr:=⟨⟨_,_,_,rfl,rfl,b8,rfl,rfl⟩,trivial⟩)
 refine aO.skip (qS (qR (q1 aF (q1 (iW ([cZ,cZ,zJ]:List ByteArray) b6 lO) (gU H fun d65 h66 H=>(gU H fun y67 h68 H=>(q1 (f6 [0] [] Tryz.func86 (KO h66 h68 (fT d1 ([cZ,cZ,zJ]:List ByteArray) (by decide)))) ?_)))))))
 iterate 3 refine q1 aF ?_
 refine q1 GQ (fQ H fun x70 x71 z69 H=>(q1 (f6 [0] [] Tryz.func130 (h_sl4Ty d65 pvars (aQ (pdeep-1)) _ z69)) (q1 (iW ([x70]:List aA) dX hP) (bU H fun x73 z72 H=>(q1 (bQ Tryz.func85 (iM fu y67 ([x70]:List aA) _ z72)) (q1 (b3 hH) (qN (aO.ret ?_))))))))
 cases aZ H
 exact bR (hr:=⟨⟨_,_,_,rfl,rfl,b8,rfl,rfl⟩,trivial⟩)
def qX:Nat→DS→(List ByteArray)→Int→Option (aA×DS)
 |0,_,_,_=>none
 |fu+1,pc,pvars,pdeep=>Z4 fu (qX fu) pc pvars pdeep
theorem aj7(fu:Nat):Q8 (qX fu):=by
 induction fu with
 |zero=>exact(fun pc pvars pdeep r H=>by simp only [qX] at H;cases H)
 |succ fu ih=>exact(fun pc pvars pdeep r H=>by simp only [qX] at H;exact agX fu (qX fu) ih pc pvars pdeep r H)
theorem ME(fu:Nat):Q8 (qX fu):=(aj7 fu)
abbrev o5:=aA→Option aA
abbrev lK:=(List aA)→Option ((List aA))
def BP(m:o5):Prop:= ∀(pt:aA) (r:aA),m pt=some r→cA Tryz.prog 60 [(aA.pv pt)] ((aA.pv r):PV)
def zQ(m:lK):Prop:= ∀(plist:List aA) (r:(List aA)),m plist=some r→cA Tryz.prog 122 [aW plist] (aW r:PV)
def GD(fu:Nat)(r_sl4Copy:o5)(r_sl4Copies:lK)(pt:aA):Option aA:=
 bd (r_sl4Copies pt.gArgs) (fun x2=>
 some (aA.mk pt.gKind pt.gName x2))
theorem Z0(fu:Nat)(r_sl4Copy:o5)(r_sl4Copies:lK)(h_sl4Copy:BP r_sl4Copy)(h_sl4Copies:zQ r_sl4Copies):BP (GD fu r_sl4Copy r_sl4Copies):=by
 intro pt r H
 have H:=fF H
 refine qI Tryz.func60 (fun C hC=>?_)
 refine qS (qR (q1 (kQ (c5 pt)) (q1 (iG hP) (qN (qS (bU H fun x2 z1 H=>(dW (dI [1] (bC lR) (dD [3] (bL kZ) (dI [1] (bC kE) (dD [5] (bL fO) (dI [1] (bC gC) (dD [7] (bL mQ) ?_)))))))))))))
 refine dI [8] (bQ Tryz.func122 (h_sl4Copies pt.gArgs _ z1)) (dI [4,6,9] (gD hP CL) (m4 [2,10] (b3 hH) (dN (aO.ret ?_))))
 cases aZ H
 exact bR (hr:=⟨⟨_,_,_,rfl,rfl,b8,rfl,rfl⟩,trivial⟩)
def MB(fu:Nat)(r_sl4Copy:o5)(r_sl4Copies:lK)(plist:List aA):Nat→((List aA))→Option (LR ((List aA)) ((List aA))):=
 fun i1 v3=>bd (r_sl4Copy (bB plist i1)) (fun x7=>
 gd ((v3).length+(([x7]:List aA)).length≤68719476736)
 (some (.next (v3++([x7]:List aA)))))
def MC(fu:Nat)(r_sl4Copy:o5)(r_sl4Copies:lK)(plist:List aA):Option (((List aA))⊕((List aA))):=
 loopN (MB fu r_sl4Copy r_sl4Copies plist) (plist.length-0) 0 ([])
def zP(fu:Nat)(r_sl4Copy:o5)(r_sl4Copies:lK)(plist:List aA):Option ((List aA)):=
 so (MC fu r_sl4Copy r_sl4Copies plist) (fun v3=>
 some v3)
theorem T4(fu:Nat)(r_sl4Copy:o5)(r_sl4Copies:lK)(h_sl4Copy:BP r_sl4Copy)(h_sl4Copies:zQ r_sl4Copies):zQ (zP fu r_sl4Copy r_sl4Copies):=by
 intro plist r H
 have H:=fF H
 refine qI Tryz.func122 (fun C hC=>?_)
 refine qS (qR (q1 aF (qN (qS (qR (q1 (wA ([]:List aA) dX hP) (q1 aF (qN ?_))))))))
 iterate 2 refine qS ?_
 refine qR (q1 aF (qN ?_))
 refine kV 0 (aA.trs_len _) (fun hl4=>?_)
 refine cM (σ:=(List aA)) (fun i1 v3=>⟨[(0,aW plist),(2,.nil),(3,WA v3 0),(4,pN i1)],⟨[],[⟨35,3,aA.trs (v3),false⟩]⟩⟩) (fun v3=>⟨[(2,.nil),(3,WA v3 0)],⟨[],[⟨35,3,aA.trs (v3),false⟩]⟩⟩) (gW H) ?_ ?_
 ·rintro i1 v3 H
  iterate 2 refine qS ?_
  refine qR ?_
  iterate 2 refine q1 aF ?_
  refine q1 (eR dX (aA.trs_len _)) (q1 iQ (qN ?_))
  refine eO H (fun h5 h5l H=>?_) (fun h5 H=>?_)
  ·have h5n:=bF h5
   refine aO.skip (qS (aO.block (qR ?_)))
   iterate 3 refine q1 aF ?_
   refine q1 (jH h5n dX) (q1 (lB (aA.cs (bB plist i1)) b8) (bU H fun x7 z6 H=>(q1 (bQ Tryz.func60 (h_sl4Copy (bB plist i1) _ z6)) (q1 (iW ([x7]:List aA) dX hP) (c9 H fun z8 H=>(q1 (oE z8 dX al7) (q1 aF (qN (qR (q1 aF (q1 (aV.addI rfl rfl rfl rfl (c:=((i1+1:Nat):Int)) (by omega) (by omega)) (q1 aF (qN ?_)))))))))))))
   exact j8 h5l ⟨_,(aZ H:),b9⟩
  refine aO.exit ?_;exact lP ⟨_,H,b9⟩
 rintro v3 H
 refine qS (qR ?_)
 iterate 2 refine q1 aF ?_
 refine qN (aO.ret ?_)
 cases aZ H
 exact bR
mutual
def j0:Nat→aA→Option aA
 |0,_=>none
 |fu+1,pt=>GD fu (j0 fu) (kO fu) pt
def kO:Nat→(List aA)→Option ((List aA))
 |0,_=>none
 |fu+1,plist=>zP fu (j0 fu) (kO fu) plist
end
theorem adM(fu:Nat):BP (j0 fu)∧zQ (kO fu):=by
 induction fu with
 |zero=>exact⟨(fun pt r H=>by simp only [j0] at H;cases H),(fun plist r H=>by simp only [kO] at H;cases H)⟩
 |succ fu ih=>exact⟨(fun pt r H=>by simp only [j0] at H;exact Z0 fu (j0 fu) (kO fu) ih.1 ih.2 pt r H),(fun plist r H=>by simp only [kO] at H;exact T4 fu (j0 fu) (kO fu) ih.1 ih.2 plist r H)⟩
theorem T6(fu:Nat):BP (j0 fu):=(adM fu).1
def aj6(m:ByteArray→aA→Option aA):Prop:= ∀(ptrait:ByteArray) (pt:aA) (r:aA),m ptrait pt=some r→cA Tryz.prog 131 [pS ptrait,(aA.pv pt)] ((aA.pv r):PV)
def GG(fu:Nat)(ptrait:ByteArray)(pt:aA):Option aA:=
 bd (j0 fu pt) (fun x2=>
 some (aA.mk 3 ptrait ([x2]:List aA)))
theorem T7(fu:Nat):aj6 (GG fu):=by
 intro ptrait pt r H
 have H:=fF H
 refine qI Tryz.func131 (fun C hC=>?_)
 refine qS (qR (q1 (kQ (c5 pt)) (q1 (iG hP) (qN (qS (qR (q1 aF (q1 (cY [pI pt.gKind,pS pt.gName,aW pt.gArgs] b8) (bU H fun x2 z1 H=>(q1 (bQ Tryz.func60 (T6 fu pt _ z1)) (q1 (iW ([x2]:List aA) dX hP) (q1 (gD hP CL) (q1 (b3 hH) ?_)))))))))))))
 refine qN (aO.ret ?_)
 cases aZ H
 exact bR (hr:=⟨⟨_,_,_,rfl,rfl,b8,rfl,rfl⟩,trivial⟩)
def aj4(m:DS→Int→Option (aA×DS)):Prop:= ∀(pc:DS) (pdeep:Int) (r:aA×DS),m pc pdeep=some r→cP Tryz.prog 87 [.ptr 0 0,pI pdeep] ⟨[some ⟨151,dC pc⟩],[]⟩ (fun q t=>q=((aA.pv r.1):PV)∧t=⟨[some ⟨151,dC r.2⟩],[]⟩)
def sY(fu:Nat)(pc:DS)(pdeep:Int):Option (aA×DS):=
 bd (qX fu pc ([gO,AK]:List ByteArray) pdeep) (fun(x2,x3)=>
 lt (x3.after 8) (fun d4=>
 sw (decide ((x3.below 8:Int)=0))
 (lt (d4.after ([eN,bD]:List ByteArray).length) (fun d7=>
 lt (d4.pick ([eN,bD]:List ByteArray)) (fun y9=>
 bd (GG fu y9 x2) (fun x12=>
 some (x12,d7)))))
 (sw (decide ((x3.below 8:Int)=1))
 (bd (GG fu eN x2) (fun x15=>
 bd (iZ fu cZ ([x15]:List aA)) (fun x17=>
 some (x17,d4))))
 (sw (decide ((x3.below 8:Int)=2))
 (some ((aA.mk 4 bD []),d4))
 (some (x2,d4))))))
theorem uT(fu:Nat):aj4 (sY fu):=by
 intro pc pdeep r H
 have H:=fF H
 refine qI Tryz.func87 (fun C hC=>?_)
 refine qS (qR (q1 (iG hP) (qN (qS (qR (q1 aF (q1 (iW ([gO,AK]:List ByteArray) b6 lO) (q1 aF (fQ H fun x2 x3 z1 H=>(q1 (f6 [0] [] Tryz.func130 (ME fu pc ([gO,AK]:List ByteArray) pdeep _ z1)) (q1 (iG hP) (q1 (b3 hH) (qN ?_)))))))))))))
 iterate 2 refine qS ?_
 refine qR (q1 aF (gU H fun d4 h5 H=>(q1 (f6 [0] [] Tryz.func103 (DX h5 (gF x3 8))) (qN (aO.block (qS (qR (q1 eP (q1 aF (qN ?_))))))))))
 refine bH H (fun h6 H=>?_) (fun h6 H=>?_)
 ·refine qS (gU H fun d7 h8 H=>(gU H fun y9 h10 H=>(bU H fun x12 z11 H=>(dW (dI [0] aF (dI [] (iW ([eN,bD]:List ByteArray) b6 lO) (dE [14,15] (f6 [0] [] Tryz.func86 (KO h8 h10 (fT d4 ([eN,bD]:List ByteArray) (by decide)))) (dB [5] 0 1 (RC [pI x2.gKind,pS x2.gName,aW x2.gArgs] b8) (dI [16,17] (bQ Tryz.func131 (T7 fu y9 x2 _ z11)) (m4 [4,18] (b3 hH) (dN (aO.ret ?_))))))))))))
  cases aZ H
  exact bR (hr:=⟨⟨_,_,_,rfl,rfl,b8,rfl,rfl⟩,trivial⟩)
 refine qS (qR (q1 eP (q1 aF (qN ?_))))
 refine bH H (fun h13 H=>?_) (fun h13 H=>?_)
 ·refine qS (qR (q1 (cY [pI x2.gKind,pS x2.gName,aW x2.gArgs] b8) (bU H fun x15 z14 H=>(q1 (bQ Tryz.func131 (T7 fu eN x2 _ z14)) (q1 (iW ([x15]:List aA) dX hP) (bU H fun x17 z16 H=>(q1 (bQ Tryz.func85 (iM fu cZ ([x15]:List aA) _ z16)) (q1 (b3 hH) (qN (aO.ret ?_))))))))))
  cases aZ H
  exact bR (hr:=⟨⟨_,_,_,rfl,rfl,b8,rfl,rfl⟩,trivial⟩)
 refine qS (qR (q1 eP (q1 aF (qN ?_))))
 refine bH H (fun h18 H=>?_) (fun h18 H=>?_)
 ·refine qS (qR (q1 (gD hP CL) (q1 (b3 hH) (qN (aO.ret ?_)))))
  cases aZ H
  exact bR (hr:=⟨⟨_,_,_,rfl,rfl,b8,rfl,rfl⟩,trivial⟩)
 refine aO.skip (qS (qR (q1 (cY [pI x2.gKind,pS x2.gName,aW x2.gArgs] b8) (q1 (b3 hH) (qN (aO.ret ?_))))))
 cases aZ H
 exact bR (hr:=⟨⟨_,_,_,rfl,rfl,b8,rfl,rfl⟩,trivial⟩)
def alH(m:Int→ByteArray→(List aH)→Option aH):Prop:= ∀(pk:Int) (pname:ByteArray) (pargs:List aH) (r:aH),m pk pname pargs=some r→cA Tryz.prog 158 [pI pk,pS pname,fZ pargs] ((aH.pv r):PV)
def tS(fu:Nat)(pk:Int)(pname:ByteArray)(pargs:List aH):Option aH:=
 gd (([]:List aH).length+(pargs).length≤68719476736)
 (some (aH.mk pk s_ pname 0 (aA.mk 0 s_ []) (([])++pargs) []))
theorem uN(fu:Nat):alH (tS fu):=by
 intro pk pname pargs r H
 have H:=fF H
 refine qI Tryz.func158 (fun C hC=>?_)
 refine qS (qR (q1 (iG lN) (qN (qS (qR ?_)))))
 iterate 2 refine q1 aF ?_
 refine q1 (wA ([]:List aH) m3 lN) (q1 aF (c9 H fun z1 H=>(q1 (oE z1 m3 aoR) (q1 (gD lN yH) (q1 (b3 pL) (qN (aO.ret ?_)))))))
 cases aZ H
 exact bR (hr:=⟨⟨_,_,_,rfl,rfl,iH,rfl,rfl⟩,trivial⟩)
abbrev sJ:=DS→(List ByteArray)→Int→Option (aH×DS)
def CT(m:sJ):Prop:= ∀(pq0:DS) (pa1:List ByteArray) (pString:Int) (r:aH×DS),m pq0 pa1 pString=some r→cP Tryz.prog 111 [.ptr 0 0,rS pa1,pI pString] ⟨[some ⟨151,dC pq0⟩],[]⟩ (fun q t=>q=((aH.pv r.1):PV)∧t=⟨[some ⟨151,dC r.2⟩],[]⟩)
def abQ(fu:Nat)(r_sl11Expr:sJ)(pq0:DS)(pa1:List ByteArray)(pString:Int)(d1:DS):Option ((aH×DS)⊕Int):=
 sw (decide (pString≤0))
 (some (.inr (((pq0.below 13)%3:Nat):Int)))
 (some (.inr (pq0.below 13:Int)))
def abR(fu:Nat)(r_sl11Expr:sJ)(pq0:DS)(pa1:List ByteArray)(pString:Int)(d1:DS)(v3:Int):Option ((aH×DS)⊕Bool):=
 sw (decide (v3=2))
 (some (.inr (decide (v3=2))))
 (some (.inr (decide (v3=3))))
def J2(fu:Nat)(r_sl11Expr:sJ)(pq0:DS)(pa1:List ByteArray)(pString:Int):Option (aH×DS):=
 lt (pq0.after 13) (fun d1=>
 so (abQ fu r_sl11Expr pq0 pa1 pString d1) (fun v3=>
 sw (decide (v3=1))
 (lt (d1.after 2) (fun d6=>
 some ((aH.mk 2 s_ s_ (d1.below 2:Int) (aA.mk 0 s_ []) [] []),d6)))
 (so (abR fu r_sl11Expr pq0 pa1 pString d1 v3) (fun v8=>
 sw (v8)
 (sw (decide ((pa1.length:Int)>0))
 (gd (0<(pa1).length)
 (lt (d1.after pa1.length) (fun d13=>
 lt (d1.pick pa1) (fun y15=>
 bd (uO fu y15) (fun x18=>
 some (x18,d13))))))
 (lt (d1.after 20) (fun d19=>
 bd (sV fu (aQ ((d1.below 20:Int)-5))) (fun x22=>
 some (x22,d19)))))
 (sw (decide (v3=4))
 (lt (d1.after ([s_f,s_g]:List ByteArray).length) (fun d24=>
 lt (d1.pick ([s_f,s_g]:List ByteArray)) (fun y26=>
 bd (r_sl11Expr d24 pa1 (aQ (pString-1))) (fun(x29,x30)=>
 bd (tS fu 4 y26 ([x29]:List aH)) (fun x32=>
 some (x32,x30))))))
 (sw (decide (v3=5))
 (lt (d1.after ([bD,eN]:List ByteArray).length) (fun d34=>
 lt (d1.pick ([bD,eN]:List ByteArray)) (fun y36=>
 bd (r_sl11Expr d34 pa1 (aQ (pString-1))) (fun(x39,x40)=>
 bd (r_sl11Expr x40 pa1 (aQ (pString-1))) (fun(x42,x43)=>
 some ((aH.mk 5 y36 fC 0 (aA.mk 0 s_ []) ([x39,x42]:List aH) []),x43))))))
 (sw (decide (v3=6))
 (bd (r_sl11Expr d1 pa1 (aQ (pString-1))) (fun(x46,x47)=>
 bd (r_sl11Expr x47 pa1 (aQ (pString-1))) (fun(x49,x50)=>
 bd (tS fu 6 cN ([x46,x49]:List aH)) (fun x52=>
 some (x52,x50)))))
 (sw (decide (v3=7))
 (gd (([]:List ByteArray).length+(pa1).length≤68719476736)
 (gd ((([])++pa1).length+(([s_h,s_t]:List ByteArray)).length≤68719476736)
 (bd (r_sl11Expr d1 pa1 (aQ (pString-1))) (fun(x57,x58)=>
 bd (r_sl11Expr x58 pa1 (aQ (pString-1))) (fun(x60,x61)=>
 bd (r_sl11Expr x61 ((([])++pa1)++([s_h,s_t]:List ByteArray)) (aQ (pString-1))) (fun(x63,x64)=>
 some ((aH.mk 7 s_ s_ 0 (aA.mk 0 s_ []) ([x57]:List aH) ([(bM.mk gB [] x60),(bM.mk cN ([s_h,s_t]:List ByteArray) x63)]:List bM)),x64)))))))
 (sw (decide (v3=8))
 (bd (r_sl11Expr d1 pa1 (aQ (pString-1))) (fun(x67,x68)=>
 gd (([]:List ByteArray).length+(pa1).length≤68719476736)
 (gd ((([])++pa1).length+(([qT]:List ByteArray)).length≤68719476736)
 (bd (r_sl11Expr x68 ((([])++pa1)++([qT]:List ByteArray)) (aQ (pString-1))) (fun(x72,x73)=>
 bd (tS fu 8 qT ([x67,x72]:List aH)) (fun x75=>
 some (x75,x73)))))))
 (sw (decide (v3=9))
 (bd (r_sl11Expr d1 pa1 (aQ (pString-1))) (fun(x78,x79)=>
 bd (r_sl11Expr x79 pa1 (aQ (pString-1))) (fun(x81,x82)=>
 bd (r_sl11Expr x82 pa1 (aQ (pString-1))) (fun(x84,x85)=>
 bd (tS fu 9 s_ ([x78,x81,x84]:List aH)) (fun x87=>
 some (x87,x85))))))
 (sw (decide (v3=10))
 (lt (d1.after ([yZ,DV,MF,MG,MH]:List ByteArray).length) (fun d89=>
 lt (d1.pick ([yZ,DV,MF,MG,MH]:List ByteArray)) (fun y91=>
 bd (r_sl11Expr d89 pa1 (aQ (pString-1))) (fun(x94,x95)=>
 bd (r_sl11Expr x95 pa1 (aQ (pString-1))) (fun(x97,x98)=>
 bd (tS fu 10 y91 ([x94,x97]:List aH)) (fun x100=>
 some (x100,x98)))))))
 (sw (decide (v3=11))
 (bd (r_sl11Expr d1 pa1 (aQ (pString-1))) (fun(x103,x104)=>
 some ((aH.mk 11 bD s_ 0 (aA.mk 0 s_ []) ([x103]:List aH) []),x104)))
 (sw (decide (v3=12))
 (bd (qX fu d1 ([gO]:List ByteArray) 1) (fun(x107,x108)=>
 bd (r_sl11Expr x108 pa1 (aQ (pString-1))) (fun(x110,x111)=>
 some ((aH.mk 12 s_ s_ 0 x107 ([x110]:List aH) []),x111))))
 (lt (d1.after 20) (fun d112=>
 bd (sV fu (aQ ((d1.below 20:Int)-5))) (fun x115=>
 some (x115,d112)))))))))))))))))
theorem VU(fu:Nat)(r_sl11Expr:sJ)(h_sl11Expr:CT r_sl11Expr):CT (J2 fu r_sl11Expr):=by
 intro pq0 pa1 pString r H
 have H:=fF H
 refine qI Tryz.func111 (fun C hC=>?_)
 refine qS (qR (q1 (iG lN) (qN (qS (qR (q1 aF (gU H fun d1 h2 H=>(q1 (f6 [0] [] Tryz.func103 (DX h2 (gF pq0 13))) (q1 aF (qN (qS ?_)))))))))))
 refine qF (σ:=Int) (fun v3=>⟨[(0,.ptr 0 0),(1,rS pa1),(2,pI pString),(6,.ptr 1 0),(7,pI v3)],⟨[some ⟨151,dC d1⟩,some ⟨87,[pI 0,pS s_,pS s_,pI 0,pI 0,pS s_,.nil,.nil,.nil]⟩],[]⟩⟩) (gW H) (fun H=>?_) ?_
 ·refine qS (qR (q1 aF (q1 rLe (qN ?_))))
  refine bH H (fun h4 H=>?_) (fun h4 H=>?_)
  ·refine qR (q1 aF ?_)
   refine q1 (aV.remN (a:=pq0.below 13) (b:=3) rfl rfl rfl rfl (by have:=DS.below_lt (d:=pq0) (n:=13) (by decide);omega) (by have:=DS.below_lt (d:=pq0) (n:=13) (by decide);omega)) ?_;refine q1 aF (qN ?_)
   exact eC ⟨_,(aZ H:),b9⟩
  refine aO.skip ?_;exact eC ⟨_,(aZ H:),b9⟩
 rintro v3 H
 iterate 2 refine qS ?_
 refine qR (q1 aF (qN (aO.block (qS (qR (q1 eP (q1 aF (qN ?_))))))))
 refine bH H (fun h5 H=>?_) (fun h5 H=>?_)
 ·refine qS (qR (q1 aF (gU H fun d6 h7 H=>(q1 (f6 [0] [] Tryz.func103 (DX h7 (gF d1 2))) (q1 (gD lN yH) (q1 (b3 pL) (qN (aO.ret ?_))))))))
  cases aZ H
  exact bR (hr:=⟨⟨_,_,_,rfl,rfl,iH,rfl,rfl⟩,trivial⟩)
 refine qS ?_;refine qF (σ:=Bool) (fun v8=>⟨[(0,.ptr 0 0),(1,rS pa1),(2,pI pString),(6,.ptr 1 0),(15,pI v3),(21,pB v8)],⟨[some ⟨151,dC d1⟩,some ⟨87,[pI 0,pS s_,pS s_,pI 0,pI 0,pS s_,.nil,.nil,.nil]⟩],[]⟩⟩) (gW H) (fun H=>?_) ?_
 ·refine qS (qR (q1 eP (q1 aF (qN ?_))))
  refine bH H (fun h9 H=>?_) (fun h9 H=>?_)
  ·refine aO.skip ?_;exact eC ⟨_,(aZ H:),b9⟩
  refine qR (q1 eP (q1 aF (qN ?_)))
  exact eC ⟨_,(aZ H:),b9⟩
 rintro v8 H
 refine bH H (fun h10 H=>?_) (fun h10 H=>?_)
 ·refine qS (qR (q1 aF (q1 (eR b6 (bI _)) (q1 MI (qN ?_)))))
  refine bH H (fun h11 H=>?_) (fun h11 H=>?_)
  ·refine qS (qR ?_)
   iterate 2 refine q1 aF ?_
   refine c9 H fun z12 H=>(gU H fun d13 h14 H=>(gU H fun y15 h16 H=>(q1 (f6 [0] [] Tryz.func86 (KO h14 h16 (fT d1 pa1 z12))) (bU H fun x18 z17 H=>(q1 (bQ Tryz.func157 (yR fu y15 _ z17)) (q1 (b3 pL) (qN (aO.ret ?_))))))))
   cases aZ H
   exact bR (hr:=⟨⟨_,_,_,rfl,rfl,iH,rfl,rfl⟩,trivial⟩)
  refine aO.skip (qS (qR (q1 aF (gU H fun d19 h20 H=>(q1 (f6 [0] [] Tryz.func103 (DX h20 (gF d1 20))) (q1 GQ (bU H fun x22 z21 H=>(q1 (bQ Tryz.func159 (uM fu (aQ ((d1.below 20:Int)-5)) _ z21)) (q1 (b3 pL) (qN (aO.ret ?_)))))))))))
  cases aZ H
  exact bR (hr:=⟨⟨_,_,_,rfl,rfl,iH,rfl,rfl⟩,trivial⟩)
 refine qS (qR (q1 eP (q1 aF (qN ?_))))
 refine bH H (fun h23 H=>?_) (fun h23 H=>?_)
 ·refine qS (qR (q1 aF (q1 (iW ([s_f,s_g]:List ByteArray) b6 lO) (gU H fun d24 h25 H=>(gU H fun y26 h27 H=>(q1 (f6 [0] [] Tryz.func86 (KO h25 h27 (fT d1 ([s_f,s_g]:List ByteArray) (by decide)))) ?_))))))
  iterate 3 refine q1 aF ?_
  refine q1 GQ (fQ H fun x29 x30 z28 H=>(q1 (f6 [0] [] Tryz.func111 (h_sl11Expr d24 pa1 (aQ (pString-1)) _ z28)) (q1 (iW ([x29]:List aH) m3 lN) (bU H fun x32 z31 H=>(q1 (bQ Tryz.func158 (uN fu 4 y26 ([x29]:List aH) _ z31)) (q1 (b3 pL) (qN (aO.ret ?_))))))))
  cases aZ H
  exact bR (hr:=⟨⟨_,_,_,rfl,rfl,iH,rfl,rfl⟩,trivial⟩)
 refine qS (qR (q1 eP (q1 aF (qN ?_))))
 refine bH H (fun h33 H=>?_) (fun h33 H=>?_)
 ·refine qS (qR (q1 aF (q1 (iW ([bD,eN]:List ByteArray) b6 lO) (gU H fun d34 h35 H=>(gU H fun y36 h37 H=>(q1 (f6 [0] [] Tryz.func86 (KO h35 h37 (fT d1 ([bD,eN]:List ByteArray) (by decide)))) ?_))))))
  iterate 3 refine q1 aF ?_
  refine q1 GQ (fQ H fun x39 x40 z38 H=>(q1 (f6 [0] [] Tryz.func111 (h_sl11Expr d34 pa1 (aQ (pString-1)) _ z38)) ?_))
  iterate 3 refine q1 aF ?_
  refine q1 GQ (fQ H fun x42 x43 z41 H=>(q1 (f6 [0] [] Tryz.func111 (h_sl11Expr x40 pa1 (aQ (pString-1)) _ z41)) (q1 (iW ([x39,x42]:List aH) m3 lN) (q1 (gD lN yH) (q1 (b3 pL) (qN (aO.ret ?_)))))))
  cases aZ H
  exact bR (hr:=⟨⟨_,_,_,rfl,rfl,iH,rfl,rfl⟩,trivial⟩)
 refine qS (qR (q1 eP (q1 aF (qN ?_))))
 refine bH H (fun h44 H=>?_) (fun h44 H=>?_)
 ·refine qS (qR ?_)
  iterate 3 refine q1 aF ?_
  refine q1 GQ (fQ H fun x46 x47 z45 H=>(q1 (f6 [0] [] Tryz.func111 (h_sl11Expr d1 pa1 (aQ (pString-1)) _ z45)) ?_))
  iterate 3 refine q1 aF ?_
  refine q1 GQ (fQ H fun x49 x50 z48 H=>(q1 (f6 [0] [] Tryz.func111 (h_sl11Expr x47 pa1 (aQ (pString-1)) _ z48)) (q1 (iW ([x46,x49]:List aH) m3 lN) (bU H fun x52 z51 H=>(q1 (bQ Tryz.func158 (uN fu 6 cN ([x46,x49]:List aH) _ z51)) (q1 (b3 pL) (qN (aO.ret ?_))))))))
  cases aZ H
  exact bR (hr:=⟨⟨_,_,_,rfl,rfl,iH,rfl,rfl⟩,trivial⟩)
 refine qS (qR (q1 eP (q1 aF (qN ?_))))
 refine bH H (fun h53 H=>?_) (fun h53 H=>?_)
 ·refine qS (qR (q1 (wA ([]:List ByteArray) b6 lO) (q1 aF (c9 H fun z54 H=>(q1 (oE z54 b6 sM) (q1 (iW ([s_h,s_t]:List ByteArray) b6 lO) (c9 H fun z55 H=>(q1 (oE z55 b6 sM) (q1 aF (qN (qS (qR ?_))))))))))))
  iterate 3 refine q1 aF ?_
  refine q1 GQ (fQ H fun x57 x58 z56 H=>(q1 (f6 [0] [] Tryz.func111 (h_sl11Expr d1 pa1 (aQ (pString-1)) _ z56)) (q1 (iW ([x57]:List aH) m3 lN) ?_)))
  iterate 3 refine q1 aF ?_
  refine q1 GQ (fQ H fun x60 x61 z59 H=>(q1 (f6 [0] [] Tryz.func111 (h_sl11Expr x58 pa1 (aQ (pString-1)) _ z59)) (q1 (gD UG alB) (q1 (iW ([s_h,s_t]:List ByteArray) b6 lO) ?_))))
  iterate 3 refine q1 aF ?_
  refine q1 GQ (fQ H fun x63 x64 z62 H=>(q1 (f6 [0] [] Tryz.func111 (h_sl11Expr x61 ((([])++pa1)++([s_h,s_t]:List ByteArray)) (aQ (pString-1)) _ z62)) (q1 (gD UG alB) (q1 (iW ([(bM.mk gB [] x60),(bM.mk cN ([s_h,s_t]:List ByteArray) x63)]:List bM) pJ UG) (q1 (gD lN yH) (q1 (b3 pL) (qN (aO.ret ?_))))))))
  cases aZ H
  exact bR (hr:=⟨⟨_,_,_,rfl,rfl,iH,rfl,rfl⟩,trivial⟩)
 refine qS (qR (q1 eP (q1 aF (qN ?_))))
 refine bH H (fun h65 H=>?_) (fun h65 H=>?_)
 ·refine qS (qR ?_)
  iterate 3 refine q1 aF ?_
  refine q1 GQ (fQ H fun x67 x68 z66 H=>(q1 (f6 [0] [] Tryz.func111 (h_sl11Expr d1 pa1 (aQ (pString-1)) _ z66)) (q1 aF (q1 (wA ([]:List ByteArray) b6 lO) (q1 aF (c9 H fun z69 H=>(q1 (oE z69 b6 sM) (q1 (iW ([qT]:List ByteArray) b6 lO) (c9 H fun z70 H=>(q1 (oE z70 b6 sM) (q1 aF (q1 GQ (fQ H fun x72 x73 z71 H=>?_)))))))))))))
  refine q1 (f6 [0] [] Tryz.func111 (h_sl11Expr x68 ((([])++pa1)++([qT]:List ByteArray)) (aQ (pString-1)) _ z71)) (q1 (iW ([x67,x72]:List aH) m3 lN) (bU H fun x75 z74 H=>(q1 (bQ Tryz.func158 (uN fu 8 qT ([x67,x72]:List aH) _ z74)) (q1 (b3 pL) (qN (aO.ret ?_))))))
  cases aZ H
  exact bR (hr:=⟨⟨_,_,_,rfl,rfl,iH,rfl,rfl⟩,trivial⟩)
 refine qS (qR (q1 eP (q1 aF (qN ?_))))
 refine bH H (fun h76 H=>?_) (fun h76 H=>?_)
 ·refine qS (qR ?_)
  iterate 3 refine q1 aF ?_
  refine q1 GQ (fQ H fun x78 x79 z77 H=>(q1 (f6 [0] [] Tryz.func111 (h_sl11Expr d1 pa1 (aQ (pString-1)) _ z77)) ?_))
  iterate 3 refine q1 aF ?_
  refine q1 GQ (fQ H fun x81 x82 z80 H=>(q1 (f6 [0] [] Tryz.func111 (h_sl11Expr x79 pa1 (aQ (pString-1)) _ z80)) ?_))
  iterate 3 refine q1 aF ?_
  refine q1 GQ (fQ H fun x84 x85 z83 H=>(q1 (f6 [0] [] Tryz.func111 (h_sl11Expr x82 pa1 (aQ (pString-1)) _ z83)) (q1 (iW ([x78,x81,x84]:List aH) m3 lN) (bU H fun x87 z86 H=>(q1 (bQ Tryz.func158 (uN fu 9 s_ ([x78,x81,x84]:List aH) _ z86)) (q1 (b3 pL) (qN (aO.ret ?_))))))))
  cases aZ H
  exact bR (hr:=⟨⟨_,_,_,rfl,rfl,iH,rfl,rfl⟩,trivial⟩)
 refine qS (qR (q1 eP (q1 aF (qN ?_))))
 refine bH H (fun h88 H=>?_) (fun h88 H=>?_)
 ·refine qS (qR (q1 aF (q1 (iW ([yZ,DV,MF,MG,MH]:List ByteArray) b6 lO) (gU H fun d89 h90 H=>(gU H fun y91 h92 H=>(q1 (f6 [0] [] Tryz.func86 (KO h90 h92 (fT d1 ([yZ,DV,MF,MG,MH]:List ByteArray) (by decide)))) ?_))))))
  iterate 3 refine q1 aF ?_
  refine q1 GQ (fQ H fun x94 x95 z93 H=>(q1 (f6 [0] [] Tryz.func111 (h_sl11Expr d89 pa1 (aQ (pString-1)) _ z93)) ?_))
  iterate 3 refine q1 aF ?_
  refine q1 GQ (fQ H fun x97 x98 z96 H=>(q1 (f6 [0] [] Tryz.func111 (h_sl11Expr x95 pa1 (aQ (pString-1)) _ z96)) (q1 (iW ([x94,x97]:List aH) m3 lN) (bU H fun x100 z99 H=>(q1 (bQ Tryz.func158 (uN fu 10 y91 ([x94,x97]:List aH) _ z99)) (q1 (b3 pL) (qN (aO.ret ?_))))))))
  cases aZ H
  exact bR (hr:=⟨⟨_,_,_,rfl,rfl,iH,rfl,rfl⟩,trivial⟩)
 refine qS (qR (q1 eP (q1 aF (qN ?_))))
 refine bH H (fun h101 H=>?_) (fun h101 H=>?_)
 ·refine qS (qR ?_)
  iterate 3 refine q1 aF ?_
  refine q1 GQ (fQ H fun x103 x104 z102 H=>(q1 (f6 [0] [] Tryz.func111 (h_sl11Expr d1 pa1 (aQ (pString-1)) _ z102)) (q1 (iW ([x103]:List aH) m3 lN) (q1 (gD lN yH) (q1 (b3 pL) (qN (aO.ret ?_)))))))
  cases aZ H
  exact bR (hr:=⟨⟨_,_,_,rfl,rfl,iH,rfl,rfl⟩,trivial⟩)
 refine qS (qR (q1 eP (q1 aF (qN ?_))))
 refine bH H (fun h105 H=>?_) (fun h105 H=>?_)
 ·refine qS (qR (q1 aF (q1 (iW ([gO]:List ByteArray) b6 lO) (fQ H fun x107 x108 z106 H=>(q1 (f6 [0] [] Tryz.func130 (ME fu d1 ([gO]:List ByteArray) 1 _ z106)) ?_)))))
  iterate 3 refine q1 aF ?_
  refine q1 GQ (fQ H fun x110 x111 z109 H=>(q1 (f6 [0] [] Tryz.func111 (h_sl11Expr x108 pa1 (aQ (pString-1)) _ z109)) (q1 (iW ([x110]:List aH) m3 lN) (q1 (gD lN yH) (q1 (b3 pL) (qN (aO.ret ?_)))))))
  cases aZ H
  exact bR (hr:=⟨⟨_,_,_,rfl,rfl,iH,rfl,rfl⟩,trivial⟩)
 refine aO.skip (qS (qR (q1 aF (gU H fun d112 h113 H=>(q1 (f6 [0] [] Tryz.func103 (DX h113 (gF d1 20))) (q1 GQ (bU H fun x115 z114 H=>(q1 (bQ Tryz.func159 (uM fu (aQ ((d1.below 20:Int)-5)) _ z114)) (q1 (b3 pL) (qN (aO.ret ?_)))))))))))
 cases aZ H
 exact bR (hr:=⟨⟨_,_,_,rfl,rfl,iH,rfl,rfl⟩,trivial⟩)
def lU:Nat→DS→(List ByteArray)→Int→Option (aH×DS)
 |0,_,_,_=>none
 |fu+1,pq0,pa1,pString=>J2 fu (lU fu) pq0 pa1 pString
theorem YM(fu:Nat):CT (lU fu):=by
 induction fu with
 |zero=>exact(fun pq0 pa1 pString r H=>by simp only [lU] at H;cases H)
 |succ fu ih=>exact(fun pq0 pa1 pString r H=>by simp only [lU] at H;exact VU fu (lU fu) ih pq0 pa1 pString r H)
theorem O5(fu:Nat):CT (lU fu):=(YM fu)
def alQ(m:Option aA):Prop:= ∀(r:aA),m=some r→cA Tryz.prog 147 [] ((aA.pv r):PV)
def BQ(fu:Nat):Option aA:=
 bd (iZ fu fK ([])) (fun x2=>
 some x2)
theorem uU(fu:Nat):alQ (BQ fu):=by
 intro r H
 have H:=fF H
 refine qI Tryz.func147 (fun C hC=>?_)
 refine qS (qR (q1 (iG hP) (qN (qS (qR (bU H fun x2 z1 H=>(q1 (bQ Tryz.func85 (iM fu fK ([]) _ z1)) (q1 (b3 hH) (qN (aO.ret ?_))))))))))
 cases aZ H
 exact bR (hr:=⟨⟨_,_,_,rfl,rfl,b8,rfl,rfl⟩,trivial⟩)
def afN(m:DS→Option (aG×DS)):Prop:= ∀(pq0:DS) (r:aG×DS),m pq0=some r→cP Tryz.prog 169 [.ptr 0 0] ⟨[some ⟨151,dC pq0⟩],[]⟩ (fun q t=>q=((aG.pv r.1):PV)∧t=⟨[some ⟨151,dC r.2⟩],[]⟩)
def acS(fu:Nat)(pq0 d1:DS)(y3:ByteArray)(d5:DS)(x8:aH):Option ((aG×DS)⊕((List ByteArray)×Int×ByteArray×(List aA)×(List aI)×DS)):=
 lt (d5.after 4) (fun d15=>
 sw (decide ((d5.below 4:Int)=0))
 (bd (BQ fu) (fun x19=>
 some (.inr ([],x19.gKind,x19.gName,x19.gArgs,[],d15))))
 (sw (decide ((d5.below 4:Int)=1))
 (bd (nL fu gO) (fun x22=>
 bd (iZ fu cZ ([x22]:List aA)) (fun x24=>
 some (.inr (([gO]:List ByteArray),x24.gKind,x24.gName,x24.gArgs,([(aI.mk y3 x22)]:List aI),d15)))))
 (sw (decide ((d5.below 4:Int)=2))
 (bd (nL fu gO) (fun x27=>
 bd (nL fu AK) (fun x29=>
 bd (iZ fu wJ ([x27,x29]:List aA)) (fun x31=>
 some (.inr (([gO,AK]:List ByteArray),x31.gKind,x31.gName,x31.gArgs,[],d15))))))
 (bd (nL fu gO) (fun x33=>
 some (.inr (([gO]:List ByteArray),x33.gKind,x33.gName,x33.gArgs,([(aI.mk eU x33)]:List aI),d15)))))))
def acT(fu:Nat)(pq0 d1:DS)(y3:ByteArray)(d5:DS)(x8:aH)(v9:List ByteArray)(v10:Int)(v11:ByteArray)(v12:List aA)(v13:List aI)(v14:DS):Option ((aG×DS)⊕((List aA)×Bool×Int×ByteArray×DS)):=
 lt (v14.after 3) (fun d39=>
 sw (decide (v14.below 3=0))
 (bd (qX fu d39 v9 1) (fun(x43,x44)=>
 some (.inr (x43.gArgs,true,x43.gKind,x43.gName,x44))))
 (some (.inr ([],false,0,s_,d39))))
def KA(fu:Nat)(pq0:DS):Option (aG×DS):=
 lt (pq0.after ([bD,kC,eN]:List ByteArray).length) (fun d1=>
 lt (pq0.pick ([bD,kC,eN]:List ByteArray)) (fun y3=>
 lt (d1.after 9) (fun d5=>
 bd (sV fu (d1.below 9:Int)) (fun x8=>
 so (acS fu pq0 d1 y3 d5 x8) (fun(v9,v10,v11,v12,v13,v14)=>
 so (acT fu pq0 d1 y3 d5 x8 v9 v10 v11 v12 v13 v14) (fun(v38,v35,v36,v37,v34)=>
 lt (v34.after 4) (fun d45=>
 lt (d45.after 12) (fun d47=>
 sw (decide ((d45.below 12:Int)=0))
 (bd (sY fu d47 2) (fun(x51,x52)=>
 some ((aG.mk y3 v9 x51 v13 (decide (v34.below 4=0)) v35 (aA.mk v36 v37 v38) ([(aN.mk fC ([eY]:List ByteArray) x8)]:List aN)),x52)))
 (sw (decide ((d45.below 12:Int)=1))
 (lt (d47.after ([gO,s_c]:List ByteArray).length) (fun d54=>
 lt (d47.pick ([gO,s_c]:List ByteArray)) (fun y56=>
 gd ((v9).length+(([y56]:List ByteArray)).length≤68719476736)
 (some ((aG.mk y3 (v9++([y56]:List ByteArray)) (aA.mk v10 v11 v12) v13 (decide (v34.below 4=0)) v35 (aA.mk v36 v37 v38) ([(aN.mk fC ([eY]:List ByteArray) x8)]:List aN)),d54)))))
 (sw (decide ((d45.below 12:Int)=2))
 (bd (sY fu d47 1) (fun(x61,x62)=>
 gd ((v13).length+(([(aI.mk kC x61)]:List aI)).length≤68719476736)
 (some ((aG.mk y3 v9 (aA.mk v10 v11 v12) (v13++([(aI.mk kC x61)]:List aI)) (decide (v34.below 4=0)) v35 (aA.mk v36 v37 v38) ([(aN.mk fC ([eY]:List ByteArray) x8)]:List aN)),x62))))
 (sw (decide ((d45.below 12:Int)=3))
 (bd (lU fu d47 ([eY,qT]:List ByteArray) 2) (fun(x66,x67)=>
 some ((aG.mk y3 v9 (aA.mk v10 v11 v12) v13 (decide (v34.below 4=0)) v35 (aA.mk v36 v37 v38) ([(aN.mk fC ([eY]:List ByteArray) x66)]:List aN)),x67)))
 (sw (decide ((d45.below 12:Int)=4))
 (bd (BQ fu) (fun x70=>
 some ((aG.mk y3 v9 (aA.mk v10 v11 v12) v13 (decide (v34.below 4=0)) v35 x70 ([(aN.mk fC ([eY]:List ByteArray) x8)]:List aN)),d47)))
 (sw (decide ((d45.below 12:Int)=5))
 (some ((aG.mk y3 v9 (aA.mk v10 v11 v12) v13 (decide (v34.below 4=0)) v35 (aA.mk v36 v37 v38) ([(aN.mk fC ([]) x8)]:List aN)),d47))
 (some ((aG.mk y3 v9 (aA.mk v10 v11 v12) v13 (decide (v34.below 4=0)) v35 (aA.mk v36 v37 v38) ([(aN.mk fC ([eY]:List ByteArray) x8)]:List aN)),d47)))))))))))))))
theorem acU(fu:Nat):afN (KA fu):=by
 intro pq0 r H
 have H:=fF H
 refine qI Tryz.func169 (fun C hC=>?_)
 refine qS (qR (q1 (iG tX) (qN (qS (qR (q1 aF (q1 (tZ ([bD,kC,eN]:List ByteArray) b6 lO) (gU H fun d1 h2 H=>(gU H fun y3 h4 H=>(q1 (f6 [0] [] Tryz.func86 (KO h2 h4 (fT pq0 ([bD,kC,eN]:List ByteArray) (by decide)))) (q1 (tZ ([eY]:List ByteArray) b6 lO) (q1 aF (gU H fun d5 h6 H=>?_)))))))))))))
 refine q1 (f6 [0] [] Tryz.func103 (DX h6 (gF d1 9))) (bU H fun x8 z7 H=>(q1 (bQ Tryz.func159 (uM fu (d1.below 9:Int) _ z7)) (q1 (gD O8 ak8) (q1 (aV.buildSliceB (cs:= [pS fC,.lit 1 (aX (([eY]:List ByteArray))),pI x8.gKind,pS x8.gTrait,pS x8.gName,pI x8.gN,pI x8.gType.gKind,pS x8.gType.gName,aW x8.gType.gArgs,fZ x8.gArgs,nG x8.gArms]) rfl rfl KY O8 rfl rfl rfl (by decide) rfl (by decide)) (q1 (gD tX U8) (q1 (iG tX) (q1 (b3 s4) (qN (qS ?_)))))))))
 refine qF (σ:=(List ByteArray)×Int×ByteArray×(List aA)×(List aI)×DS) (fun(v9,v10,v11,v12,v13,v14)=>⟨[(0,.ptr 0 0),(2,.ptr 1 0),(3,.ptr 3 0)],⟨[some ⟨151,dC v14⟩,some ⟨55,[pS s_,.nil,pI 0,pS s_,.nil,.nil,pB false,pB false,pI 0,pS s_,.nil,.nil]⟩,some ⟨161,[pS fC,.lit 1 (aX (([eY]:List ByteArray))),pI x8.gKind,pS x8.gTrait,pS x8.gName,pI x8.gN,pI x8.gType.gKind,pS x8.gType.gName,aW x8.gType.gArgs,fZ x8.gArgs,nG x8.gArms]⟩,some ⟨55,[pS y3,.lit 1 (aX (v9)),pI v10,pS v11,aW v12,.lit 4 (aI.trs (v13)),pB false,pB false,pI 0,pS s_,.nil,.bsl 2 1]⟩],[]⟩⟩) (gW H) (fun H=>?_) ?_
 ·refine qS (qR (q1 aF (gU H fun d15 h16 H=>(q1 (f6 [0] [] Tryz.func103 (DX h16 (gF d5 4))) (qN (aO.block (qS (qR (q1 eP (q1 aF (qN ?_)))))))))))
  refine bH H (fun h17 H=>?_) (fun h17 H=>?_)
  ·refine qR (bU H fun x19 z18 H=>(q1 (bQ Tryz.func147 (uU fu _ z18)) (q1 (bC m9) (q1 (b3 hH) (qN ?_)))))
   exact eC ⟨_,(aZ H:),b9⟩
  refine qS (qR (q1 eP (q1 aF (qN ?_))))
  refine bH H (fun h20 H=>?_) (fun h20 H=>?_)
  ·refine qS (qR (q1 (tZ ([gO]:List ByteArray) b6 lO) (q1 (bC rW) (q1 (b3 KN) (qN (qS (qR (bU H fun x22 z21 H=>(q1 (bQ Tryz.func118 (kT fu gO _ z21)) (q1 (tZ ([x22]:List aA) dX hP) (bU H fun x24 z23 H=>(q1 (bQ Tryz.func85 (iM fu cZ ([x22]:List aA) _ z23)) (q1 (bC m9) ?_)))))))))))))
   refine q1 (b3 hH) (qN (dW (dI [3] (bC RW) (dD [36] (bL fO) (dI [] (bQ Tryz.func118 (kT fu gO _ z21)) (dI [37,38] (gD AM U7) (dI [39] (tZ ([(aI.mk y3 x22)]:List aI) yW AM) (dI [3] (bC D8) (m4 [41,40] (b3 am6) (dN ?_))))))))))
   exact eC ⟨_,(aZ H:),b9⟩
  refine qS (qR (q1 eP (q1 aF (qN ?_))))
  refine bH H (fun h25 H=>?_) (fun h25 H=>?_)
  ·refine qS (qR (q1 (tZ ([gO,AK]:List ByteArray) b6 lO) (q1 (bC rW) (q1 (b3 KN) (qN (qR (bU H fun x27 z26 H=>(q1 (bQ Tryz.func118 (kT fu gO _ z26)) (bU H fun x29 z28 H=>(q1 (bQ Tryz.func118 (kT fu AK _ z28)) (q1 (tZ ([x27,x29]:List aA) dX hP) (bU H fun x31 z30 H=>(q1 (bQ Tryz.func85 (iM fu wJ ([x27,x29]:List aA) _ z30)) ?_)))))))))))))
   refine q1 (bC m9) (q1 (b3 hH) (qN ?_))
   exact eC ⟨_,(aZ H:),b9⟩
  refine qS (qR (q1 (tZ ([gO]:List ByteArray) b6 lO) (q1 (bC rW) (q1 (b3 KN) (qN (qS (qR (bU H fun x33 z32 H=>(q1 (bQ Tryz.func118 (kT fu gO _ z32)) (q1 (bC m9) (q1 (b3 hH) (qN (qR ?_)))))))))))))
  refine q1 (bQ Tryz.func118 (kT fu gO _ z32)) (q1 (gD AM U7) (q1 (tZ ([(aI.mk eU x33)]:List aI) yW AM) (q1 (bC D8) (q1 (b3 am6) (qN ?_)))))
  exact eC ⟨_,(aZ H:),b9⟩
 rintro⟨v9,v10,v11,v12,v13,v14⟩ H
 refine qS ?_;refine qF (σ:=(List aA)×Bool×Int×ByteArray×DS) (fun(v38,v35,v36,v37,v34)=>⟨[(0,.ptr 0 0),(2,.ptr 1 0),(3,.ptr 3 0)],⟨[some ⟨151,dC v34⟩,some ⟨55,[pS s_,.nil,pI 0,pS s_,.nil,.nil,pB false,pB false,pI 0,pS s_,.nil,.nil]⟩,some ⟨161,[pS fC,.lit 1 (aX (([eY]:List ByteArray))),pI x8.gKind,pS x8.gTrait,pS x8.gName,pI x8.gN,pI x8.gType.gKind,pS x8.gType.gName,aW x8.gType.gArgs,fZ x8.gArgs,nG x8.gArms]⟩,some ⟨55,[pS y3,.lit 1 (aX (v9)),pI v10,pS v11,aW v12,.lit 4 (aI.trs (v13)),pB false,pB v35,pI v36,pS v37,aW v38,.bsl 2 1]⟩],[]⟩⟩) (gW H) (fun H=>?_) ?_
 ·refine qS (qR (q1 aF (gU H fun d39 h40 H=>(q1 (f6 [0] [] Tryz.func112 (DX h40 (nY v14 3))) (qN ?_)))))
  refine bH H (fun h41 H=>?_) (fun h41 H=>?_)
  ·refine qS (qR (q1 (bC MY) (q1 (b3 sz4) (qN (qR (q1 aF (q1 (bC rW) (q1 (bL lI) (fQ H fun x43 x44 z42 H=>(q1 (f6 [0] [] Tryz.func130 (ME fu d39 v9 1 _ z42)) (q1 (bC D9) (q1 (b3 hH) (qN ?_)))))))))))))
   exact eC ⟨_,(aZ H:),b9⟩
  refine aO.skip ?_;exact eC ⟨_,(aZ H:),b9⟩
 rintro⟨v38,v35,v36,v37,v34⟩ H
 refine qS (qR (q1 aF (gU H fun d45 h46 H=>(q1 (f6 [0] [] Tryz.func112 (DX h46 (nY v34 4))) (q1 (bC RX) (q1 (b3 sz4) (qN ?_)))))))
 iterate 2 refine qS ?_
 refine qR (q1 aF (gU H fun d47 h48 H=>(q1 (f6 [0] [] Tryz.func103 (DX h48 (gF d45 12))) (qN (aO.block (qS (qR (q1 eP (q1 aF (qN ?_))))))))))
 refine bH H (fun h49 H=>?_) (fun h49 H=>?_)
 ·refine qR (q1 aF (fQ H fun x51 x52 z50 H=>(q1 (f6 [0] [] Tryz.func87 (uT fu d47 2 _ z50)) (q1 (bC m9) (q1 (b3 hH) (qN (qS (qR ?_))))))))
  refine AL.weak (Wk.freezeE (k:=2) (sz:=11) (es:= [aN.cs (aN.mk fC ([eY]:List ByteArray) x8)]) (es':=aN.trs (([(aN.mk fC ([eY]:List ByteArray) x8)]:List aN))) (s':=⟨[(0,.ptr 0 0),(2,.ptr 1 0),(3,.ptr 3 0),(63,pN (d45.below 12))],⟨[some ⟨151,dC x52⟩,some ⟨55,[pS s_,.nil,pI 0,pS s_,.nil,.nil,pB false,pB false,pI 0,pS s_,.nil,.nil]⟩,none,some ⟨55,[pS y3,.lit 1 (aX (v9)),pI x51.gKind,pS x51.gName,aW x51.gArgs,.lit 4 (aI.trs (v13)),pB (decide (v34.below 4=0)),pB v35,pI v36,pS v37,aW v38,jK ([(aN.mk fC ([eY]:List ByteArray) x8)]:List aN)]⟩],[]⟩⟩) (by simp [aN.trs_map,aN.tr_cs]) rfl lG (by simp [aN.cs]) (Nat.le_of_ble_eq_true rfl) ⟨⟨rfl,eI,rfl⟩,⟨⟨rfl,eI,rfl⟩,⟨⟨rfl,eI,rfl⟩,trivial⟩⟩⟩ rfl rfl (eX hC (lD rfl) (Nat.le_of_ble_eq_true rfl)) (by repeat' first|exact trivial|refine⟨⟨_,rfl,eI,rfl⟩,?_⟩)) ?_;refine q1 (cY [pS y3,.lit 1 (aX (v9)),pI x51.gKind,pS x51.gName,aW x51.gArgs,.lit 4 (aI.trs (v13)),pB (decide (v34.below 4=0)),pB v35,pI v36,pS v37,aW v38,jK ([(aN.mk fC ([eY]:List ByteArray) x8)]:List aN)] pD) (q1 (b3 s4) (qN (aO.ret ?_)))
  cases aZ H
  exact bR (hr:=⟨⟨_,_,_,rfl,rfl,pD,rfl,rfl⟩,trivial⟩)
 refine qS (qR (q1 eP (q1 aF (qN ?_))))
 refine bH H (fun h53 H=>?_) (fun h53 H=>?_)
 ·refine gU H fun d54 h55 H=>(gU H fun y56 h57 H=>(c9 H fun z58 H=>(dW (dI [3] (bC rW) (dB [71] 0 1 (vQ lI) (dI [0] aF (dI [] (tZ ([gO,s_c]:List ByteArray) b6 lO) (dE [73,74] (f6 [0] [] Tryz.func86 (KO h55 h57 (fT d47 ([gO,s_c]:List ByteArray) (by decide)))) (dI [75] (tZ ([y56]:List ByteArray) b6 lO) ?_)))))))))
  refine dI [72,76] (aV.appendLit (es1:=aX (v9)) (es2:=aX (([y56]:List ByteArray))) (es3:=aX (v9++([y56]:List ByteArray))) rfl rfl rfl rfl rfl (mX _) (mX _) (by exact List.cons_ne_nil _ _) (by decide) b6 sM (by decide) (by rw [bI,bI];exact zE z58 (by decide)) (u5 _ _)) ?_;refine dI [3] (bC rW) (m4 [78,77] (b3 KN) (dN (qS (qR ?_))))
  refine AL.weak (Wk.freezeE (k:=2) (sz:=11) (es:= [aN.cs (aN.mk fC ([eY]:List ByteArray) x8)]) (es':=aN.trs (([(aN.mk fC ([eY]:List ByteArray) x8)]:List aN))) (s':=⟨[(0,.ptr 0 0),(2,.ptr 1 0),(3,.ptr 3 0),(63,pN (d45.below 12))],⟨[some ⟨151,dC d54⟩,some ⟨55,[pS s_,.nil,pI 0,pS s_,.nil,.nil,pB false,pB false,pI 0,pS s_,.nil,.nil]⟩,none,some ⟨55,[pS y3,rS (v9++([y56]:List ByteArray)),pI v10,pS v11,aW v12,.lit 4 (aI.trs (v13)),pB (decide (v34.below 4=0)),pB v35,pI v36,pS v37,aW v38,jK ([(aN.mk fC ([eY]:List ByteArray) x8)]:List aN)]⟩],[]⟩⟩) (by simp [aN.trs_map,aN.tr_cs]) rfl lG (by simp [aN.cs]) (Nat.le_of_ble_eq_true rfl) ⟨⟨rfl,eI,rfl⟩,⟨⟨rfl,eI,rfl⟩,⟨⟨rfl,eI,rfl⟩,trivial⟩⟩⟩ rfl rfl (eX hC (lD rfl) (Nat.le_of_ble_eq_true rfl)) (by repeat' first|exact trivial|refine⟨⟨_,rfl,eI,rfl⟩,?_⟩)) ?_;refine q1 (cY [pS y3,rS (v9++([y56]:List ByteArray)),pI v10,pS v11,aW v12,.lit 4 (aI.trs (v13)),pB (decide (v34.below 4=0)),pB v35,pI v36,pS v37,aW v38,jK ([(aN.mk fC ([eY]:List ByteArray) x8)]:List aN)] pD) (q1 (b3 s4) (qN (aO.ret ?_)))
  cases aZ H
  exact bR (hr:=⟨⟨_,_,_,rfl,rfl,pD,rfl,rfl⟩,trivial⟩)
 refine qS (qR (q1 eP (q1 aF (qN ?_))))
 refine bH H (fun h59 H=>?_) (fun h59 H=>?_)
 ·refine fQ H fun x61 x62 z60 H=>(c9 H fun z63 H=>(dW (dI [3] (bC D8) (dB [81] 0 1 (vQ ae5) (dI [0] aF (dE [83] (f6 [0] [] Tryz.func87 (uT fu d47 1 _ z60)) (dI [84] (gD AM U7) (dI [85] (tZ ([(aI.mk kC x61)]:List aI) yW AM) ?_))))))))
  refine dI [82,86] (aV.appendLit (es1:=aI.trs (v13)) (es2:=aI.trs (([(aI.mk kC x61)]:List aI))) (es3:=aI.trs (v13++([(aI.mk kC x61)]:List aI))) rfl rfl rfl rfl rfl (fun e he=>by rw [aI.trs_map] at he;obtain⟨x,_,rfl⟩:=List.mem_map.1 he;rw [aI.tr_cs];rfl) (fun e he=>by rw [aI.trs_map] at he;obtain⟨x,_,rfl⟩:=List.mem_map.1 he;rw [aI.tr_cs];rfl) (by rw [aI.trs_map];exact List.cons_ne_nil _ _) (by decide) yW aoQ (by decide) (by rw [aI.trs_len,aI.trs_len];exact zE z63 (by decide)) (by rw [aI.trs_map,aI.trs_map,aI.trs_map,List.map_append])) ?_;refine dI [3] (bC D8) (m4 [88,87] (b3 am6) (dN (qS (qR ?_))))
  refine AL.weak (Wk.freezeE (k:=2) (sz:=11) (es:= [aN.cs (aN.mk fC ([eY]:List ByteArray) x8)]) (es':=aN.trs (([(aN.mk fC ([eY]:List ByteArray) x8)]:List aN))) (s':=⟨[(0,.ptr 0 0),(2,.ptr 1 0),(3,.ptr 3 0),(63,pN (d45.below 12))],⟨[some ⟨151,dC x62⟩,some ⟨55,[pS s_,.nil,pI 0,pS s_,.nil,.nil,pB false,pB false,pI 0,pS s_,.nil,.nil]⟩,none,some ⟨55,[pS y3,.lit 1 (aX (v9)),pI v10,pS v11,aW v12,fD (v13++([(aI.mk kC x61)]:List aI)),pB (decide (v34.below 4=0)),pB v35,pI v36,pS v37,aW v38,jK ([(aN.mk fC ([eY]:List ByteArray) x8)]:List aN)]⟩],[]⟩⟩) (by simp [aN.trs_map,aN.tr_cs]) rfl lG (by simp [aN.cs]) (Nat.le_of_ble_eq_true rfl) ⟨⟨rfl,eI,rfl⟩,⟨⟨rfl,eI,rfl⟩,⟨⟨rfl,eI,rfl⟩,trivial⟩⟩⟩ rfl rfl (eX hC (lD rfl) (Nat.le_of_ble_eq_true rfl)) (by repeat' first|exact trivial|refine⟨⟨_,rfl,eI,rfl⟩,?_⟩)) ?_;refine q1 (cY [pS y3,.lit 1 (aX (v9)),pI v10,pS v11,aW v12,fD (v13++([(aI.mk kC x61)]:List aI)),pB (decide (v34.below 4=0)),pB v35,pI v36,pS v37,aW v38,jK ([(aN.mk fC ([eY]:List ByteArray) x8)]:List aN)] pD) (q1 (b3 s4) (qN (aO.ret ?_)))
  cases aZ H
  exact bR (hr:=⟨⟨_,_,_,rfl,rfl,pD,rfl,rfl⟩,trivial⟩)
 refine qS (qR (q1 eP (q1 aF (qN ?_))))
 refine bH H (fun h64 H=>?_) (fun h64 H=>?_)
 ·refine fQ H fun x66 x67 z65 H=>(dW (dI [3] (bC xV) (dB [91] 0 1 (vQ YL) (dI [0] aF (dI [] (tZ ([eY,qT]:List ByteArray) b6 lO) (dE [93,94] (f6 [0] [] Tryz.func111 (O5 fu d47 ([eY,qT]:List ByteArray) 2 _ z65)) (dI [92] (aV.indexB (sz:=11) (k:=2) (N:=1) (i:=0) rfl rfl rfl rfl (by decide) KY) (dI [96] (bC QV) (m4 [97,95] (b3 pL) (dN (qS (qR ?_))))))))))))
  refine AL.weak (Wk.freezeE (k:=2) (sz:=11) (es:= [aN.cs (aN.mk fC ([eY]:List ByteArray) x66)]) (es':=aN.trs (([(aN.mk fC ([eY]:List ByteArray) x66)]:List aN))) (s':=⟨[(0,.ptr 0 0),(2,.ptr 1 0),(3,.ptr 3 0),(63,pN (d45.below 12))],⟨[some ⟨151,dC x67⟩,some ⟨55,[pS s_,.nil,pI 0,pS s_,.nil,.nil,pB false,pB false,pI 0,pS s_,.nil,.nil]⟩,none,some ⟨55,[pS y3,.lit 1 (aX (v9)),pI v10,pS v11,aW v12,.lit 4 (aI.trs (v13)),pB (decide (v34.below 4=0)),pB v35,pI v36,pS v37,aW v38,jK ([(aN.mk fC ([eY]:List ByteArray) x66)]:List aN)]⟩],[]⟩⟩) (by simp [aN.trs_map,aN.tr_cs]) rfl lG (by simp [aN.cs]) (Nat.le_of_ble_eq_true rfl) ⟨⟨rfl,eI,rfl⟩,⟨⟨rfl,eI,rfl⟩,⟨⟨rfl,eI,rfl⟩,trivial⟩⟩⟩ rfl rfl (eX hC (lD rfl) (Nat.le_of_ble_eq_true rfl)) (by repeat' first|exact trivial|refine⟨⟨_,rfl,eI,rfl⟩,?_⟩)) ?_;refine q1 (cY [pS y3,.lit 1 (aX (v9)),pI v10,pS v11,aW v12,.lit 4 (aI.trs (v13)),pB (decide (v34.below 4=0)),pB v35,pI v36,pS v37,aW v38,jK ([(aN.mk fC ([eY]:List ByteArray) x66)]:List aN)] pD) (q1 (b3 s4) (qN (aO.ret ?_)))
  cases aZ H
  exact bR (hr:=⟨⟨_,_,_,rfl,rfl,pD,rfl,rfl⟩,trivial⟩)
 refine qS (qR (q1 eP (q1 aF (qN ?_))))
 refine bH H (fun h68 H=>?_) (fun h68 H=>?_)
 ·refine qR (bU H fun x70 z69 H=>(q1 (bQ Tryz.func147 (uU fu _ z69)) (q1 (bC D9) (q1 (b3 hH) (qN (qS (qR ?_)))))))
  refine AL.weak (Wk.freezeE (k:=2) (sz:=11) (es:= [aN.cs (aN.mk fC ([eY]:List ByteArray) x8)]) (es':=aN.trs (([(aN.mk fC ([eY]:List ByteArray) x8)]:List aN))) (s':=⟨[(0,.ptr 0 0),(2,.ptr 1 0),(3,.ptr 3 0),(63,pN (d45.below 12))],⟨[some ⟨151,dC d47⟩,some ⟨55,[pS s_,.nil,pI 0,pS s_,.nil,.nil,pB false,pB false,pI 0,pS s_,.nil,.nil]⟩,none,some ⟨55,[pS y3,.lit 1 (aX (v9)),pI v10,pS v11,aW v12,.lit 4 (aI.trs (v13)),pB (decide (v34.below 4=0)),pB v35,pI x70.gKind,pS x70.gName,aW x70.gArgs,jK ([(aN.mk fC ([eY]:List ByteArray) x8)]:List aN)]⟩],[]⟩⟩) (by simp [aN.trs_map,aN.tr_cs]) rfl lG (by simp [aN.cs]) (Nat.le_of_ble_eq_true rfl) ⟨⟨rfl,eI,rfl⟩,⟨⟨rfl,eI,rfl⟩,⟨⟨rfl,eI,rfl⟩,trivial⟩⟩⟩ rfl rfl (eX hC (lD rfl) (Nat.le_of_ble_eq_true rfl)) (by repeat' first|exact trivial|refine⟨⟨_,rfl,eI,rfl⟩,?_⟩)) ?_;refine q1 (cY [pS y3,.lit 1 (aX (v9)),pI v10,pS v11,aW v12,.lit 4 (aI.trs (v13)),pB (decide (v34.below 4=0)),pB v35,pI x70.gKind,pS x70.gName,aW x70.gArgs,jK ([(aN.mk fC ([eY]:List ByteArray) x8)]:List aN)] pD) (q1 (b3 s4) (qN (aO.ret ?_)))
  cases aZ H
  exact bR (hr:=⟨⟨_,_,_,rfl,rfl,pD,rfl,rfl⟩,trivial⟩)
 refine qS (qR (q1 eP (q1 aF (qN ?_))))
 refine bH H (fun h71 H=>?_) (fun h71 H=>?_)
 ·refine qR (q1 (bC xV) (q1 (bL YL) (q1 (tZ ([]:List ByteArray) b6 lO) (q1 (aV.indexB (sz:=11) (k:=2) (N:=1) (i:=0) rfl rfl rfl rfl (by decide) KY) (q1 (bC FO) (q1 (b3 KN) (qN (qS (qR ?_)))))))))
  refine AL.weak (Wk.freezeE (k:=2) (sz:=11) (es:= [aN.cs (aN.mk fC ([]) x8)]) (es':=aN.trs (([(aN.mk fC ([]) x8)]:List aN))) (s':=⟨[(0,.ptr 0 0),(2,.ptr 1 0),(3,.ptr 3 0),(63,pN (d45.below 12))],⟨[some ⟨151,dC d47⟩,some ⟨55,[pS s_,.nil,pI 0,pS s_,.nil,.nil,pB false,pB false,pI 0,pS s_,.nil,.nil]⟩,none,some ⟨55,[pS y3,.lit 1 (aX (v9)),pI v10,pS v11,aW v12,.lit 4 (aI.trs (v13)),pB (decide (v34.below 4=0)),pB v35,pI v36,pS v37,aW v38,jK ([(aN.mk fC ([]) x8)]:List aN)]⟩],[]⟩⟩) (by simp [aN.trs_map,aN.tr_cs]) rfl lG (by simp [aN.cs]) (Nat.le_of_ble_eq_true rfl) ⟨⟨rfl,eI,rfl⟩,⟨⟨rfl,eI,rfl⟩,⟨⟨rfl,eI,rfl⟩,trivial⟩⟩⟩ rfl rfl (eX hC (lD rfl) (Nat.le_of_ble_eq_true rfl)) (by repeat' first|exact trivial|refine⟨⟨_,rfl,eI,rfl⟩,?_⟩)) ?_;refine q1 (cY [pS y3,.lit 1 (aX (v9)),pI v10,pS v11,aW v12,.lit 4 (aI.trs (v13)),pB (decide (v34.below 4=0)),pB v35,pI v36,pS v37,aW v38,jK ([(aN.mk fC ([]) x8)]:List aN)] pD) (q1 (b3 s4) (qN (aO.ret ?_)))
  cases aZ H
  exact bR (hr:=⟨⟨_,_,_,rfl,rfl,pD,rfl,rfl⟩,trivial⟩)
 refine aO.skip (qS (qR ?_))
 refine AL.weak (Wk.freezeE (k:=2) (sz:=11) (es:= [aN.cs (aN.mk fC ([eY]:List ByteArray) x8)]) (es':=aN.trs (([(aN.mk fC ([eY]:List ByteArray) x8)]:List aN))) (s':=⟨[(0,.ptr 0 0),(2,.ptr 1 0),(3,.ptr 3 0),(63,pN (d45.below 12))],⟨[some ⟨151,dC d47⟩,some ⟨55,[pS s_,.nil,pI 0,pS s_,.nil,.nil,pB false,pB false,pI 0,pS s_,.nil,.nil]⟩,none,some ⟨55,[pS y3,.lit 1 (aX (v9)),pI v10,pS v11,aW v12,.lit 4 (aI.trs (v13)),pB (decide (v34.below 4=0)),pB v35,pI v36,pS v37,aW v38,jK ([(aN.mk fC ([eY]:List ByteArray) x8)]:List aN)]⟩],[]⟩⟩) (by simp [aN.trs_map,aN.tr_cs]) rfl lG (by simp [aN.cs]) (Nat.le_of_ble_eq_true rfl) ⟨⟨rfl,eI,rfl⟩,⟨⟨rfl,eI,rfl⟩,⟨⟨rfl,eI,rfl⟩,trivial⟩⟩⟩ rfl rfl (eX hC (lD rfl) (Nat.le_of_ble_eq_true rfl)) (by repeat' first|exact trivial|refine⟨⟨_,rfl,eI,rfl⟩,?_⟩)) ?_;refine q1 (cY [pS y3,.lit 1 (aX (v9)),pI v10,pS v11,aW v12,.lit 4 (aI.trs (v13)),pB (decide (v34.below 4=0)),pB v35,pI v36,pS v37,aW v38,jK ([(aN.mk fC ([eY]:List ByteArray) x8)]:List aN)] pD) (q1 (b3 s4) (qN (aO.ret ?_)))
 cases aZ H
 exact bR (hr:=⟨⟨_,_,_,rfl,rfl,pD,rfl,rfl⟩,trivial⟩)
def alJ(m:DS→Option (aK×DS)):Prop:= ∀(pc:DS) (r:aK×DS),m pc=some r→cP Tryz.prog 170 [.ptr 0 0] ⟨[some ⟨151,dC pc⟩],[]⟩ (fun q t=>q=((aK.pv r.1):PV)∧t=⟨[some ⟨151,dC r.2⟩],[]⟩)
def TL(fu:Nat)(pc:DS):Option (aK×DS):=
 lt (pc.after ([s_f,s_g]:List ByteArray).length) (fun d1=>
 lt (pc.pick ([s_f,s_g]:List ByteArray)) (fun y3=>
 bd (nL fu gO) (fun x6=>
 bd (BQ fu) (fun x8=>
 bd (uO fu eY) (fun x10=>
 lt (d1.after 10) (fun d11=>
 sw (decide ((d1.below 10:Int)=0))
 (bd (sY fu d11 2) (fun(x15,x16)=>
 some ((aK.mk y3 ([gO]:List ByteArray) ([(aI.mk bD x6)]:List aI) ([(aR.mk eY x6)]:List aR) x15 (aH.mk 5 bD fC 0 (aA.mk 0 s_ []) ([x10]:List aH) [])),x16)))
 (sw (decide ((d1.below 10:Int)=1))
 (lt (d11.after ([eY,qT]:List ByteArray).length) (fun d18=>
 lt (d11.pick ([eY,qT]:List ByteArray)) (fun y20=>
 gd ((([(aR.mk eY x6)]:List aR)).length+(([(aR.mk y20 x8)]:List aR)).length≤68719476736)
 (some ((aK.mk y3 ([gO]:List ByteArray) ([(aI.mk bD x6)]:List aI) (([(aR.mk eY x6)]:List aR)++([(aR.mk y20 x8)]:List aR)) x8 (aH.mk 5 bD fC 0 (aA.mk 0 s_ []) ([x10]:List aH) [])),d18)))))
 (sw (decide ((d1.below 10:Int)=2))
 (bd (lU fu d11 ([eY,qT]:List ByteArray) 3) (fun(x25,x26)=>
 some ((aK.mk y3 ([gO]:List ByteArray) ([(aI.mk bD x6)]:List aI) ([(aR.mk eY x6)]:List aR) x8 x25),x26)))
 (sw (decide ((d1.below 10:Int)=3))
 (bd (sY fu d11 1) (fun(x29,x30)=>
 some ((aK.mk y3 ([gO]:List ByteArray) ([(aI.mk bD x29)]:List aI) ([(aR.mk eY x6)]:List aR) x8 (aH.mk 5 bD fC 0 (aA.mk 0 s_ []) ([x10]:List aH) [])),x30)))
 (sw (decide ((d1.below 10:Int)=4))
 (lt (d11.after ([s_,CS]:List ByteArray).length) (fun d32=>
 lt (d11.pick ([s_,CS]:List ByteArray)) (fun y34=>
 some ((aK.mk y34 ([gO]:List ByteArray) ([(aI.mk bD x6)]:List aI) ([(aR.mk eY x6)]:List aR) x8 (aH.mk 5 bD fC 0 (aA.mk 0 s_ []) ([x10]:List aH) [])),d32))))
 (some ((aK.mk y3 ([gO]:List ByteArray) ([(aI.mk bD x6)]:List aI) ([(aR.mk eY x6)]:List aR) x8 (aH.mk 5 bD fC 0 (aA.mk 0 s_ []) ([x10]:List aH) [])),d11))))))))))))
theorem ajO(fu:Nat):alJ (TL fu):=by
 intro pc r H
 have H:=fF H
 refine qI Tryz.func170 (fun C hC=>?_)
 refine qS (qR (q1 (iG DI) (qN (qS (qR (q1 aF (q1 (tZ ([s_f,s_g]:List ByteArray) b6 lO) (gU H fun d1 h2 H=>(gU H fun y3 h4 H=>(q1 (f6 [0] [] Tryz.func86 (KO h2 h4 (fT pc ([s_f,s_g]:List ByteArray) (by decide)))) (q1 (tZ ([gO]:List ByteArray) b6 lO) (bU H fun x6 z5 H=>(q1 (bQ Tryz.func118 (kT fu gO _ z5)) ?_)))))))))))))
 refine q1 (gD AM U7) (q1 (aV.buildSliceB (cs:= [pS bD,pI x6.gKind,pS x6.gName,aW x6.gArgs]) rfl rfl yW AM rfl rfl rfl (by decide) rfl (by decide)) (q1 (bQ Tryz.func118 (kT fu gO _ z5)) (q1 (gD WZ alA) (q1 (tZ ([(aR.mk eY x6)]:List aR) D7 WZ) (bU H fun x8 z7 H=>(q1 (bQ Tryz.func147 (uU fu _ z7)) (bU H fun x10 z9 H=>(q1 (bQ Tryz.func157 (yR fu eY _ z9)) (q1 (tZ ([x10]:List aH) m3 lN) (q1 (gD lN yH) (q1 (gD DI abE) (q1 (iG DI) (q1 (b3 BS) ?_)))))))))))))
 refine qN ?_
 iterate 2 refine qS ?_
 refine qR (q1 aF (gU H fun d11 h12 H=>(q1 (f6 [0] [] Tryz.func103 (DX h12 (gF d1 10))) (qN (aO.block (qS (qR (q1 eP (q1 aF (qN ?_))))))))))
 refine bH H (fun h13 H=>?_) (fun h13 H=>?_)
 ·refine qR (q1 aF (fQ H fun x15 x16 z14 H=>(q1 (f6 [0] [] Tryz.func87 (uT fu d11 2 _ z14)) (q1 (bC XM) (q1 (b3 hH) (qN (qS (qR ?_))))))))
  refine AL.weak (Wk.freezeE (k:=2) (sz:=4) (es:= [aI.cs (aI.mk bD x6)]) (es':=aI.trs (([(aI.mk bD x6)]:List aI))) (s':=⟨[(0,.ptr 0 0),(2,.ptr 1 0),(3,.ptr 3 0),(20,pN (d1.below 10))],⟨[some ⟨151,dC x16⟩,some ⟨148,[pS s_,.nil,.nil,.nil,pI 0,pS s_,.nil,pI 0,pS s_,pS s_,pI 0,pI 0,pS s_,.nil,.nil,.nil]⟩,none,some ⟨148,[pS y3,.lit 1 (aX (([gO]:List ByteArray))),fD ([(aI.mk bD x6)]:List aI),.lit 4 (aR.trs (([(aR.mk eY x6)]:List aR))),pI x15.gKind,pS x15.gName,aW x15.gArgs,pI 5,pS bD,pS fC,pI 0,pI 0,pS s_,.nil,.lit 9 (aH.trs (([x10]:List aH))),.nil]⟩],[]⟩⟩) (by simp [aI.trs_map,aI.tr_cs]) rfl lG (by simp [aI.cs]) (Nat.le_of_ble_eq_true rfl) ⟨⟨rfl,eI,rfl⟩,⟨⟨rfl,eI,rfl⟩,⟨⟨rfl,eI,rfl⟩,trivial⟩⟩⟩ rfl rfl (eX hC (lD rfl) (Nat.le_of_ble_eq_true rfl)) (by repeat' first|exact trivial|refine⟨⟨_,rfl,eI,rfl⟩,?_⟩)) ?_;refine q1 (cY [pS y3,.lit 1 (aX (([gO]:List ByteArray))),fD ([(aI.mk bD x6)]:List aI),.lit 4 (aR.trs (([(aR.mk eY x6)]:List aR))),pI x15.gKind,pS x15.gName,aW x15.gArgs,pI 5,pS bD,pS fC,pI 0,pI 0,pS s_,.nil,.lit 9 (aH.trs (([x10]:List aH))),.nil] rL) (q1 (b3 BS) (qN (aO.ret ?_)))
  cases aZ H
  exact bR (hr:=⟨⟨_,_,_,rfl,rfl,rL,rfl,rfl⟩,trivial⟩)
 refine qS (qR (q1 eP (q1 aF (qN ?_))))
 refine bH H (fun h17 H=>?_) (fun h17 H=>?_)
 ·refine gU H fun d18 h19 H=>(gU H fun y20 h21 H=>(c9 H fun z22 H=>(dW (dI [3] (bC uX) (dB [28] 0 1 (vQ O4) (dI [0] aF (dI [] (tZ ([eY,qT]:List ByteArray) b6 lO) (dE [30,31] (f6 [0] [] Tryz.func86 (KO h19 h21 (fT d11 ([eY,qT]:List ByteArray) (by decide)))) (dI [] (bQ Tryz.func147 (uU fu _ z7)) (dI [32,33] (gD WZ alA) (dI [34] (tZ ([(aR.mk y20 x8)]:List aR) D7 WZ) ?_)))))))))))
  refine dI [29,35] (aV.appendLit (es1:=aR.trs (([(aR.mk eY x6)]:List aR))) (es2:=aR.trs (([(aR.mk y20 x8)]:List aR))) (es3:=aR.trs (([(aR.mk eY x6)]:List aR)++([(aR.mk y20 x8)]:List aR))) rfl rfl rfl rfl rfl (fun e he=>by rw [aR.trs_map] at he;obtain⟨x,_,rfl⟩:=List.mem_map.1 he;rw [aR.tr_cs];rfl) (fun e he=>by rw [aR.trs_map] at he;obtain⟨x,_,rfl⟩:=List.mem_map.1 he;rw [aR.tr_cs];rfl) (by rw [aR.trs_map];exact List.cons_ne_nil _ _) (by decide) D7 anX (by decide) (by rw [aR.trs_len,aR.trs_len];exact zE z22 (by decide)) (by rw [aR.trs_map,aR.trs_map,aR.trs_map,List.map_append])) ?_;refine dI [3] (bC uX) (m4 [37,36] (b3 anR) (dN (qS (qR ?_))))
  refine AL.weak (Wk.freezeE (k:=2) (sz:=4) (es:= [aI.cs (aI.mk bD x6)]) (es':=aI.trs (([(aI.mk bD x6)]:List aI))) (s':=⟨[(0,.ptr 0 0),(2,.ptr 1 0),(3,.ptr 3 0),(20,pN (d1.below 10))],⟨[some ⟨151,dC d18⟩,some ⟨148,[pS s_,.nil,.nil,.nil,pI 0,pS s_,.nil,pI 0,pS s_,pS s_,pI 0,pI 0,pS s_,.nil,.nil,.nil]⟩,none,some ⟨148,[pS y3,.lit 1 (aX (([gO]:List ByteArray))),fD ([(aI.mk bD x6)]:List aI),SO (([(aR.mk eY x6)]:List aR)++([(aR.mk y20 x8)]:List aR)),pI x8.gKind,pS x8.gName,aW x8.gArgs,pI 5,pS bD,pS fC,pI 0,pI 0,pS s_,.nil,.lit 9 (aH.trs (([x10]:List aH))),.nil]⟩],[]⟩⟩) (by simp [aI.trs_map,aI.tr_cs]) rfl lG (by simp [aI.cs]) (Nat.le_of_ble_eq_true rfl) ⟨⟨rfl,eI,rfl⟩,⟨⟨rfl,eI,rfl⟩,⟨⟨rfl,eI,rfl⟩,trivial⟩⟩⟩ rfl rfl (eX hC (lD rfl) (Nat.le_of_ble_eq_true rfl)) (by repeat' first|exact trivial|refine⟨⟨_,rfl,eI,rfl⟩,?_⟩)) ?_;refine q1 (cY [pS y3,.lit 1 (aX (([gO]:List ByteArray))),fD ([(aI.mk bD x6)]:List aI),SO (([(aR.mk eY x6)]:List aR)++([(aR.mk y20 x8)]:List aR)),pI x8.gKind,pS x8.gName,aW x8.gArgs,pI 5,pS bD,pS fC,pI 0,pI 0,pS s_,.nil,.lit 9 (aH.trs (([x10]:List aH))),.nil] rL) (q1 (b3 BS) (qN (aO.ret ?_)))
  cases aZ H
  exact bR (hr:=⟨⟨_,_,_,rfl,rfl,rL,rfl,rfl⟩,trivial⟩)
 refine qS (qR (q1 eP (q1 aF (qN ?_))))
 refine bH H (fun h23 H=>?_) (fun h23 H=>?_)
 ·refine qR (q1 aF (q1 (tZ ([eY,qT]:List ByteArray) b6 lO) (fQ H fun x25 x26 z24 H=>(q1 (f6 [0] [] Tryz.func111 (O5 fu d11 ([eY,qT]:List ByteArray) 3 _ z24)) (q1 (bC XN) (q1 (b3 pL) (qN (qS (qR ?_)))))))))
  refine AL.weak (Wk.freezeE (k:=2) (sz:=4) (es:= [aI.cs (aI.mk bD x6)]) (es':=aI.trs (([(aI.mk bD x6)]:List aI))) (s':=⟨[(0,.ptr 0 0),(2,.ptr 1 0),(3,.ptr 3 0),(20,pN (d1.below 10))],⟨[some ⟨151,dC x26⟩,some ⟨148,[pS s_,.nil,.nil,.nil,pI 0,pS s_,.nil,pI 0,pS s_,pS s_,pI 0,pI 0,pS s_,.nil,.nil,.nil]⟩,none,some ⟨148,[pS y3,.lit 1 (aX (([gO]:List ByteArray))),fD ([(aI.mk bD x6)]:List aI),.lit 4 (aR.trs (([(aR.mk eY x6)]:List aR))),pI x8.gKind,pS x8.gName,aW x8.gArgs,pI x25.gKind,pS x25.gTrait,pS x25.gName,pI x25.gN,pI x25.gType.gKind,pS x25.gType.gName,aW x25.gType.gArgs,fZ x25.gArgs,nG x25.gArms]⟩],[]⟩⟩) (by simp [aI.trs_map,aI.tr_cs]) rfl lG (by simp [aI.cs]) (Nat.le_of_ble_eq_true rfl) ⟨⟨rfl,eI,rfl⟩,⟨⟨rfl,eI,rfl⟩,⟨⟨rfl,eI,rfl⟩,trivial⟩⟩⟩ rfl rfl (eX hC (lD rfl) (Nat.le_of_ble_eq_true rfl)) (by repeat' first|exact trivial|refine⟨⟨_,rfl,eI,rfl⟩,?_⟩)) ?_;refine q1 (cY [pS y3,.lit 1 (aX (([gO]:List ByteArray))),fD ([(aI.mk bD x6)]:List aI),.lit 4 (aR.trs (([(aR.mk eY x6)]:List aR))),pI x8.gKind,pS x8.gName,aW x8.gArgs,pI x25.gKind,pS x25.gTrait,pS x25.gName,pI x25.gN,pI x25.gType.gKind,pS x25.gType.gName,aW x25.gType.gArgs,fZ x25.gArgs,nG x25.gArms] rL) (q1 (b3 BS) (qN (aO.ret ?_)))
  cases aZ H
  exact bR (hr:=⟨⟨_,_,_,rfl,rfl,rL,rfl,rfl⟩,trivial⟩)
 refine qS (qR (q1 eP (q1 aF (qN ?_))))
 refine bH H (fun h27 H=>?_) (fun h27 H=>?_)
 ·refine fQ H fun x29 x30 z28 H=>(dW (dI [3] (bC XL) (dB [46] 0 1 (vQ ae5) (dI [0] aF (dE [48] (f6 [0] [] Tryz.func87 (uT fu d11 1 _ z28)) (dI [47] (aV.indexB (sz:=4) (k:=2) (N:=1) (i:=0) rfl rfl rfl rfl (by decide) yW) (dI [50] (bC xU) (m4 [51,49] (b3 hH) (dN (qS (qR ?_)))))))))))
  refine AL.weak (Wk.freezeE (k:=2) (sz:=4) (es:= [aI.cs (aI.mk bD x29)]) (es':=aI.trs (([(aI.mk bD x29)]:List aI))) (s':=⟨[(0,.ptr 0 0),(2,.ptr 1 0),(3,.ptr 3 0),(20,pN (d1.below 10))],⟨[some ⟨151,dC x30⟩,some ⟨148,[pS s_,.nil,.nil,.nil,pI 0,pS s_,.nil,pI 0,pS s_,pS s_,pI 0,pI 0,pS s_,.nil,.nil,.nil]⟩,none,some ⟨148,[pS y3,.lit 1 (aX (([gO]:List ByteArray))),fD ([(aI.mk bD x29)]:List aI),.lit 4 (aR.trs (([(aR.mk eY x6)]:List aR))),pI x8.gKind,pS x8.gName,aW x8.gArgs,pI 5,pS bD,pS fC,pI 0,pI 0,pS s_,.nil,.lit 9 (aH.trs (([x10]:List aH))),.nil]⟩],[]⟩⟩) (by simp [aI.trs_map,aI.tr_cs]) rfl lG (by simp [aI.cs]) (Nat.le_of_ble_eq_true rfl) ⟨⟨rfl,eI,rfl⟩,⟨⟨rfl,eI,rfl⟩,⟨⟨rfl,eI,rfl⟩,trivial⟩⟩⟩ rfl rfl (eX hC (lD rfl) (Nat.le_of_ble_eq_true rfl)) (by repeat' first|exact trivial|refine⟨⟨_,rfl,eI,rfl⟩,?_⟩)) ?_;refine q1 (cY [pS y3,.lit 1 (aX (([gO]:List ByteArray))),fD ([(aI.mk bD x29)]:List aI),.lit 4 (aR.trs (([(aR.mk eY x6)]:List aR))),pI x8.gKind,pS x8.gName,aW x8.gArgs,pI 5,pS bD,pS fC,pI 0,pI 0,pS s_,.nil,.lit 9 (aH.trs (([x10]:List aH))),.nil] rL) (q1 (b3 BS) (qN (aO.ret ?_)))
  cases aZ H
  exact bR (hr:=⟨⟨_,_,_,rfl,rfl,rL,rfl,rfl⟩,trivial⟩)
 refine qS (qR (q1 eP (q1 aF (qN ?_))))
 refine bH H (fun h31 H=>?_) (fun h31 H=>?_)
 ·refine qR (q1 aF (q1 (tZ ([s_,CS]:List ByteArray) b6 lO) (gU H fun d32 h33 H=>(gU H fun y34 h35 H=>(q1 (f6 [0] [] Tryz.func86 (KO h33 h35 (fT d11 ([s_,CS]:List ByteArray) (by decide)))) (q1 (bC QS) (q1 (b3 sz9) (qN (qS (qR ?_))))))))))
  refine AL.weak (Wk.freezeE (k:=2) (sz:=4) (es:= [aI.cs (aI.mk bD x6)]) (es':=aI.trs (([(aI.mk bD x6)]:List aI))) (s':=⟨[(0,.ptr 0 0),(2,.ptr 1 0),(3,.ptr 3 0),(20,pN (d1.below 10))],⟨[some ⟨151,dC d32⟩,some ⟨148,[pS s_,.nil,.nil,.nil,pI 0,pS s_,.nil,pI 0,pS s_,pS s_,pI 0,pI 0,pS s_,.nil,.nil,.nil]⟩,none,some ⟨148,[pS y34,.lit 1 (aX (([gO]:List ByteArray))),fD ([(aI.mk bD x6)]:List aI),.lit 4 (aR.trs (([(aR.mk eY x6)]:List aR))),pI x8.gKind,pS x8.gName,aW x8.gArgs,pI 5,pS bD,pS fC,pI 0,pI 0,pS s_,.nil,.lit 9 (aH.trs (([x10]:List aH))),.nil]⟩],[]⟩⟩) (by simp [aI.trs_map,aI.tr_cs]) rfl lG (by simp [aI.cs]) (Nat.le_of_ble_eq_true rfl) ⟨⟨rfl,eI,rfl⟩,⟨⟨rfl,eI,rfl⟩,⟨⟨rfl,eI,rfl⟩,trivial⟩⟩⟩ rfl rfl (eX hC (lD rfl) (Nat.le_of_ble_eq_true rfl)) (by repeat' first|exact trivial|refine⟨⟨_,rfl,eI,rfl⟩,?_⟩)) ?_;refine q1 (cY [pS y34,.lit 1 (aX (([gO]:List ByteArray))),fD ([(aI.mk bD x6)]:List aI),.lit 4 (aR.trs (([(aR.mk eY x6)]:List aR))),pI x8.gKind,pS x8.gName,aW x8.gArgs,pI 5,pS bD,pS fC,pI 0,pI 0,pS s_,.nil,.lit 9 (aH.trs (([x10]:List aH))),.nil] rL) (q1 (b3 BS) (qN (aO.ret ?_)))
  cases aZ H
  exact bR (hr:=⟨⟨_,_,_,rfl,rfl,rL,rfl,rfl⟩,trivial⟩)
 refine aO.skip (qS (qR ?_))
 refine AL.weak (Wk.freezeE (k:=2) (sz:=4) (es:= [aI.cs (aI.mk bD x6)]) (es':=aI.trs (([(aI.mk bD x6)]:List aI))) (s':=⟨[(0,.ptr 0 0),(2,.ptr 1 0),(3,.ptr 3 0),(20,pN (d1.below 10))],⟨[some ⟨151,dC d11⟩,some ⟨148,[pS s_,.nil,.nil,.nil,pI 0,pS s_,.nil,pI 0,pS s_,pS s_,pI 0,pI 0,pS s_,.nil,.nil,.nil]⟩,none,some ⟨148,[pS y3,.lit 1 (aX (([gO]:List ByteArray))),fD ([(aI.mk bD x6)]:List aI),.lit 4 (aR.trs (([(aR.mk eY x6)]:List aR))),pI x8.gKind,pS x8.gName,aW x8.gArgs,pI 5,pS bD,pS fC,pI 0,pI 0,pS s_,.nil,.lit 9 (aH.trs (([x10]:List aH))),.nil]⟩],[]⟩⟩) (by simp [aI.trs_map,aI.tr_cs]) rfl lG (by simp [aI.cs]) (Nat.le_of_ble_eq_true rfl) ⟨⟨rfl,eI,rfl⟩,⟨⟨rfl,eI,rfl⟩,⟨⟨rfl,eI,rfl⟩,trivial⟩⟩⟩ rfl rfl (eX hC (lD rfl) (Nat.le_of_ble_eq_true rfl)) (by repeat' first|exact trivial|refine⟨⟨_,rfl,eI,rfl⟩,?_⟩)) ?_;refine q1 (cY [pS y3,.lit 1 (aX (([gO]:List ByteArray))),fD ([(aI.mk bD x6)]:List aI),.lit 4 (aR.trs (([(aR.mk eY x6)]:List aR))),pI x8.gKind,pS x8.gName,aW x8.gArgs,pI 5,pS bD,pS fC,pI 0,pI 0,pS s_,.nil,.lit 9 (aH.trs (([x10]:List aH))),.nil] rL) (q1 (b3 BS) (qN (aO.ret ?_)))
 cases aZ H
 exact bR (hr:=⟨⟨_,_,_,rfl,rfl,rL,rfl,rfl⟩,trivial⟩)
end
end Go.Proofs.YtpioomclpaiomaaGreat.W

namespace Go.Proofs.YtpioomclpaiomaaGreat.W
set_option maxRecDepth 100000
set_option maxHeartbeats 40000000
noncomputable section
open Go.RowKit Go.Proofs
set_option linter.unusedSimpArgs false
set_option linter.unusedVariables false
attribute [local irreducible] lt
def acW(m:DS→Option (aU×DS)):Prop:= ∀(pq0:DS) (r:aU×DS),m pq0=some r→cP Tryz.prog 167 [.ptr 0 0] ⟨[some ⟨151,dC pq0⟩],[]⟩ (fun q t=>q=((aU.pv r.1):PV)∧t=⟨[some ⟨151,dC r.2⟩],[]⟩)
def YX(fu:Nat)(pq0:DS)(x2:aA)(d3:DS)(y5:ByteArray)(d7:DS)(x10:aA)(d13:DS)(x17 x19 x21:aH):Option ((aU×DS)⊕((List ByteArray))):=
 lt (d13.after 3) (fun d24=>
 sw (decide (d13.below 3=0))
 (some (.inr ([eU]:List ByteArray)))
 (some (.inr ([]))))
def YY(fu:Nat)(pq0:DS)(x2:aA)(d3:DS)(y5:ByteArray)(d7:DS)(x10:aA)(d37:DS):Option ((aU×DS)⊕((List ByteArray))):=
 lt (d37.after 3) (fun d41=>
 sw (decide (d37.below 3=0))
 (some (.inr ([eU]:List ByteArray)))
 (some (.inr ([]))))
def YZ(fu:Nat)(pq0:DS)(x2:aA)(d3:DS)(y5:ByteArray)(d7:DS)(x10:aA):Option ((aU×DS)⊕((List aE))):=
 lt (d7.after 2) (fun d56=>
 sw (decide (d7.below 2=0))
 (bd (uO fu eY) (fun x61=>
 bd (sV fu 1) (fun x63=>
 bd (tS fu 10 yZ ([(aH.mk 5 y5 fC 0 (aA.mk 0 s_ []) ([x61]:List aH) []),x63]:List aH)) (fun x65=>
 gd ((([(aE.mk fC [] x10 false [] (aH.mk 0 s_ s_ 0 (aA.mk 0 s_ []) [] []))]:List aE)).length+(([(aE.mk fU ([x2]:List aA) x10 true ([eY,qT]:List ByteArray) x65)]:List aE)).length≤68719476736)
 (some (.inr (([(aE.mk fC [] x10 false [] (aH.mk 0 s_ s_ 0 (aA.mk 0 s_ []) [] []))]:List aE)++([(aE.mk fU ([x2]:List aA) x10 true ([eY,qT]:List ByteArray) x65)]:List aE))))))))
 (some (.inr ([(aE.mk fC [] x10 false [] (aH.mk 0 s_ s_ 0 (aA.mk 0 s_ []) [] []))]:List aE))))
def Y0(fu:Nat)(pq0:DS)(x2:aA)(d3:DS)(y5:ByteArray)(d7:DS)(x10:aA)(v55:List aE):Option ((aU×DS)⊕((List ByteArray))):=
 lt ((d7.after 2).after 3) (fun d68=>
 sw (decide ((d7.after 2).below 3=0))
 (some (.inr ([eU]:List ByteArray)))
 (some (.inr ([]))))
def E5(fu:Nat)(pq0:DS):Option (aU×DS):=
 bd (nL fu jX) (fun x2=>
 lt (pq0.after ([bD,kC,eN]:List ByteArray).length) (fun d3=>
 lt (pq0.pick ([bD,kC,eN]:List ByteArray)) (fun y5=>
 lt (d3.after 3) (fun d7=>
 bd (BQ fu) (fun x10=>
 sw (decide ((((((d7.after 2).after 3).below 12:Nat):Int):Int)=2)||decide ((((((d7.after 2).after 3).below 12:Nat):Int):Int)=3))
 (sw (decide (d7.below 2=0))
 (lt (d7.after 2) (fun d13=>
 bd (uO fu eY) (fun x17=>
 bd (sV fu 1) (fun x19=>
 bd (tS fu 10 yZ ([(aH.mk 5 y5 fC 0 (aA.mk 0 s_ []) ([x17]:List aH) []),x19]:List aH)) (fun x21=>
 gd ((([(aE.mk fC [] x10 false [] (aH.mk 0 s_ s_ 0 (aA.mk 0 s_ []) [] []))]:List aE)).length+(([(aE.mk fU ([x2]:List aA) x10 true ([eY,qT]:List ByteArray) x21)]:List aE)).length≤68719476736)
 (so (YX fu pq0 x2 d3 y5 d7 x10 d13 x17 x19 x21) (fun v23=>
 lt ((d13.after 3).after 12) (fun d28=>
 sw (decide (((((d13.after 3).below 12:Nat):Int):Int)=2))
 (lt (d28.after ([jX,AK]:List ByteArray).length) (fun d31=>
 lt (d28.pick ([jX,AK]:List ByteArray)) (fun y33=>
 bd (nL fu y33) (fun x36=>
 some ((aU.mk y5 v23 false (decide (d3.below 3=0)) ([(aE.mk fC ([]) x36 false ([]) (aH.mk 0 s_ s_ 0 (aA.mk 0 s_ ([])) ([]) ([]))),(aE.mk fU ([x2]:List aA) x10 true ([eY,qT]:List ByteArray) x21)]:List aE)),d31)))))
 (some ((aU.mk y5 v23 false (decide (d3.below 3=0)) ([(aE.mk fC ([]) x10 true ([]) (aH.mk 0 s_ s_ 0 (aA.mk 0 s_ ([])) ([]) ([]))),(aE.mk fU ([x2]:List aA) x10 true ([eY,qT]:List ByteArray) x21)]:List aE)),d28))))))))))
 (lt (d7.after 2) (fun d37=>
 so (YY fu pq0 x2 d3 y5 d7 x10 d37) (fun v40=>
 lt ((d37.after 3).after 12) (fun d45=>
 sw (decide (((((d37.after 3).below 12:Nat):Int):Int)=2))
 (lt (d45.after ([jX,AK]:List ByteArray).length) (fun d48=>
 lt (d45.pick ([jX,AK]:List ByteArray)) (fun y50=>
 bd (nL fu y50) (fun x53=>
 some ((aU.mk y5 v40 false (decide (d3.below 3=0)) ([(aE.mk fC [] x53 false [] (aH.mk 0 s_ s_ 0 (aA.mk 0 s_ []) [] []))]:List aE)),d48)))))
 (some ((aU.mk y5 v40 false (decide (d3.below 3=0)) ([(aE.mk fC [] x10 true [] (aH.mk 0 s_ s_ 0 (aA.mk 0 s_ []) [] []))]:List aE)),d45)))))))
 (so (YZ fu pq0 x2 d3 y5 d7 x10) (fun v55=>
 so (Y0 fu pq0 x2 d3 y5 d7 x10 v55) (fun v67=>
 lt (((d7.after 2).after 3).after 12) (fun d72=>
 sw (decide ((((((d7.after 2).after 3).below 12:Nat):Int):Int)=0))
 (some ((aU.mk y5 v67 true (decide (d3.below 3=0)) v55),d72))
 (sw (decide ((((((d7.after 2).after 3).below 12:Nat):Int):Int)=1))
 (lt (d72.after ([s_,fK,s_A]:List ByteArray).length) (fun d76=>
 lt (d72.pick ([s_,fK,s_A]:List ByteArray)) (fun y78=>
 some ((aU.mk y78 v67 false (decide (d3.below 3=0)) v55),d76))))
 (sw (decide ((((((d7.after 2).after 3).below 12:Nat):Int):Int)=4))
 (gd ((v67).length+(([eU]:List ByteArray)).length≤68719476736)
 (some ((aU.mk y5 (v67++([eU]:List ByteArray)) false (decide (d3.below 3=0)) v55),d72)))
 (sw (decide ((((((d7.after 2).after 3).below 12:Nat):Int):Int)=5))
 (gd (0<(v55).length)
 (lt (bB v55 0) (fun y84=>
 gd ((v55).length+(([y84]:List aE)).length≤68719476736)
 (some ((aU.mk y5 v67 false (decide (d3.below 3=0)) (v55++([y84]:List aE))),d72)))))
 (some ((aU.mk y5 v67 false (decide (d3.below 3=0)) v55),d72))))))))))))))
theorem Y1(fu:Nat):acW (E5 fu):=by
 intro pq0 r H
 have H:=fF H
 refine qI Tryz.func167 (fun C hC=>?_)
 refine qS (qR (q1 (iG H3) (qN (qS (qR (bU H fun x2 z1 H=>(q1 (bQ Tryz.func118 (kT fu jX _ z1)) (q1 (iG hP) (q1 (b3 hH) (qN (qS (qR (q1 aF ?_)))))))))))))
 refine q1 (tZ ([bD,kC,eN]:List ByteArray) b6 lO) (gU H fun d3 h4 H=>(gU H fun y5 h6 H=>(q1 (f6 [0] [] Tryz.func86 (KO h4 h6 (fT pq0 ([bD,kC,eN]:List ByteArray) (by decide)))) (q1 aF (gU H fun d7 h8 H=>(q1 (f6 [0] [] Tryz.func112 (DX h8 (nY d3 3))) (bU H fun x10 z9 H=>(q1 (bQ Tryz.func147 (uU fu _ z9)) (q1 (gD zT ahT) ?_)))))))))
 rcases nN (decide ((((((d7.after 2).after 3).below 12:Nat):Int):Int)=2)||decide ((((((d7.after 2).after 3).below 12:Nat):Int):Int)=3)) with g11|g11
 ·have H:=qZ H g11
  rcases nN (decide (d7.below 2=0)) with g12|g12
  ·have H:=qZ H g12
   refine q1 (aV.buildSliceB (cs:= [pS fC,.nil,pI x10.gKind,pS x10.gName,aW x10.gArgs,pB false,.nil,pI 0,pS s_,pS s_,pI 0,pI 0,pS s_,.nil,.nil,.nil]) rfl rfl wU zT rfl rfl rfl (by decide) rfl (by decide)) (q1 (gD H3 aeY) (q1 (iG H3) (q1 (b3 DU) (qN ?_))))
   iterate 2 refine qS ?_
   refine qR (q1 aF (gU H fun d13 h14 H=>?_))
   have g15:=g11
   rw [← h14] at g15
   refine q1 (f6 [0] [] Tryz.func112 (DX h14 (nY d7 2))) (qN (eM g12 (bU H fun x17 z16 H=>(bU H fun x19 z18 H=>(bU H fun x21 z20 H=>?_)))))
   refine aO.wk (Wk.freezeE (k:=3) (sz:=16) (es:= [aE.cs (aE.mk fC [] x10 false [] (aH.mk 0 s_ s_ 0 (aA.mk 0 s_ []) [] []))]) (es':=aE.trs (([(aE.mk fC [] x10 false [] (aH.mk 0 s_ s_ 0 (aA.mk 0 s_ []) [] []))]:List aE))) (s':=⟨[(0,.ptr 0 0),(2,.ptr 1 0),(3,.ptr 2 0),(4,.ptr 4 0),(5,(aA.pv x2)),(6,.ptr 0 0),(7,.lit 1 (aX (([bD,kC,eN]:List ByteArray)))),(8,pS y5),(9,.ptr 0 0),(10,pB (decide (d3.below 3=0))),(11,(aA.pv x10)),(12,.agg [pS fC,.nil,pI x10.gKind,pS x10.gName,aW x10.gArgs,pB false,.nil,pI 0,pS s_,pS s_,pI 0,pI 0,pS s_,.nil,.nil,.nil]),(13,.lit 16 (aE.trs (([(aE.mk fC [] x10 false [] (aH.mk 0 s_ s_ 0 (aA.mk 0 s_ []) [] []))]:List aE)))),(14,.agg [pS y5,.nil,pB false,pB (decide (d3.below 3=0)),.lit 16 (aE.trs (([(aE.mk fC [] x10 false [] (aH.mk 0 s_ s_ 0 (aA.mk 0 s_ []) [] []))]:List aE)))]),(15,.ptr 0 0),(16,pB (decide (d7.below 2=0)))],⟨[some ⟨151,dC d13⟩,some ⟨60,[pS s_,.nil,pB false,pB false,.nil]⟩,some ⟨35,c5 x2⟩,none,some ⟨60,[pS y5,.nil,pB false,pB (decide (d3.below 3=0)),.lit 16 (aE.trs (([(aE.mk fC [] x10 false [] (aH.mk 0 s_ s_ 0 (aA.mk 0 s_ []) [] []))]:List aE)))]⟩],[]⟩⟩) (by simp [aE.trs_map,aE.tr_cs]) rfl lG (by simp [aE.cs]) (Nat.le_of_ble_eq_true rfl) ⟨⟨rfl,eI,rfl⟩,⟨⟨rfl,eI,rfl⟩,⟨⟨rfl,eI,rfl⟩,⟨⟨rfl,eI,rfl⟩,trivial⟩⟩⟩⟩ rfl rfl (eX hC (lD rfl) (Nat.le_of_ble_eq_true rfl)) (by repeat' first|exact trivial|refine⟨⟨_,rfl,eI,rfl⟩,?_⟩)) ?_;refine c9 H fun z22 H=>(dW (dI [4] (bC mJ) (dD [17] (bL H2) (dD [3] (cY [pI x2.gKind,pS x2.gName,aW x2.gArgs] b8) (dI [19] (tZ ([x2]:List aA) dX hP) (dI [] (bQ Tryz.func147 (uU fu _ z9)) (dI [] (tZ ([eY,qT]:List ByteArray) b6 lO) (dI [4] (bC I5) (dD [23] (bL fO) (dI [] (bQ Tryz.func157 (yR fu eY _ z16)) (dI [25] (tZ ([x17]:List aH) m3 lN) (dI [24,26] (gD lN yH) (dI [] (bQ Tryz.func159 (uM fu 1 _ z18)) ?_)))))))))))))
   refine dI [27,28] (tZ ([(aH.mk 5 y5 fC 0 (aA.mk 0 s_ []) ([x17]:List aH) []),x19]:List aH) m3 lN) (dI [29] (bQ Tryz.func158 (uN fu 10 yZ ([(aH.mk 5 y5 fC 0 (aA.mk 0 s_ []) ([x17]:List aH) []),x19]:List aH) _ z20)) (dI [20,21,22,30] (gD zT ahT) (dI [31] (tZ ([(aE.mk fU ([x2]:List aA) x10 true ([eY,qT]:List ByteArray) x21)]:List aE) wU zT) ?_)))
   refine dE [18,32] (aV.appendLitBE (es1:=aE.trs (([(aE.mk fC [] x10 false [] (aH.mk 0 s_ s_ 0 (aA.mk 0 s_ []) [] []))]:List aE))) (es2:=aE.trs (([(aE.mk fU ([x2]:List aA) x10 true ([eY,qT]:List ByteArray) x21)]:List aE))) (es3:= [aE.cs (aE.mk fC [] x10 false [] (aH.mk 0 s_ s_ 0 (aA.mk 0 s_ []) [] [])),aE.cs (aE.mk fU ([x2]:List aA) x10 true ([eY,qT]:List ByteArray) x21)]) (cs:= [pS fC,aW [],pI x10.gKind,pS x10.gName,aW x10.gArgs,pB false,rS [],pI 0,pS s_,pS s_,pI 0,pI 0,pS s_,aW [],fZ [],nG [],pS fU,aW ([x2]:List aA),pI x10.gKind,pS x10.gName,aW x10.gArgs,pB true,rS ([eY,qT]:List ByteArray),pI x21.gKind,pS x21.gTrait,pS x21.gName,pI x21.gN,pI x21.gType.gKind,pS x21.gType.gName,aW x21.gType.gArgs,fZ x21.gArgs,nG x21.gArms]) rfl rfl rfl rfl rfl (fun e he=>by rw [aE.trs_map] at he;obtain⟨x,_,rfl⟩:=List.mem_map.1 he;rw [aE.tr_cs];rfl) (fun e he=>by rw [aE.trs_map] at he;obtain⟨x,_,rfl⟩:=List.mem_map.1 he;rw [aE.tr_cs];rfl) (by rw [aE.trs_map];exact List.cons_ne_nil _ _) (by decide) wU al8 (by decide) (by rw [aE.trs_len,aE.trs_len];exact zE z22 (by decide)) (by simp [aE.trs_map,aE.tr_cs]) rfl rfl) ?_;refine dI [4] (bC mJ) (m4 [34,33] (b3 al3) (dN (qS ?_)))
   refine qF (σ:=(List ByteArray)) (fun v23=>⟨[(0,.ptr 0 0),(2,.ptr 1 0),(4,.ptr 4 0)],⟨[some ⟨151,dC (d13.after 3)⟩,some ⟨60,[pS s_,.nil,pB false,pB false,.nil]⟩,some ⟨35,c5 x2⟩,none,some ⟨60,[pS y5,.lit 1 (aX (v23)),pB false,pB (decide (d3.below 3=0)),.gsl 5 2]⟩,some ⟨164,[pS fC,aW [],pI x10.gKind,pS x10.gName,aW x10.gArgs,pB false,rS [],pI 0,pS s_,pS s_,pI 0,pI 0,pS s_,aW [],fZ [],nG [],pS fU,aW ([x2]:List aA),pI x10.gKind,pS x10.gName,aW x10.gArgs,pB true,rS ([eY,qT]:List ByteArray),pI x21.gKind,pS x21.gTrait,pS x21.gName,pI x21.gN,pI x21.gType.gKind,pS x21.gType.gName,aW x21.gType.gArgs,fZ x21.gArgs,nG x21.gArms]⟩],[]⟩⟩) (gW H) (fun H=>?_) ?_
   ·refine qS (qR (q1 aF (gU H fun d24 h25 H=>?_)))
    have g26:=g15
    rw [← h25] at g26
    refine q1 (f6 [0] [] Tryz.func112 (DX h25 (nY d13 3))) (qN ?_)
    refine bH H (fun h27 H=>?_) (fun h27 H=>?_)
    ·refine qR (q1 (tZ ([eU]:List ByteArray) b6 lO) (q1 (bC B8) (q1 (b3 KN) (qN ?_))))
     subst h25
     exact eC ⟨_,(aZ H:),b9⟩
    refine aO.skip ?_
    subst h25
    exact eC ⟨_,(aZ H:),b9⟩
   rintro v23 H
   iterate 2 refine qS ?_
   refine qR (q1 aF (gU H fun d28 h29 H=>(q1 (f6 [0] [] Tryz.func103 (DX h29 (gF (d13.after 3) 12))) (qN (aO.block (qS (qR (q1 eP (q1 aF (qN (kP (ahG (b:=0) g15 (by decide) (by decide)) (qS (qR ?_)))))))))))))
   refine q1 eP (q1 aF (qN (kP (ahG (b:=1) g15 (by decide) (by decide)) (qS (qR (q1 eP (q1 aF (qN ?_))))))))
   refine bH H (fun h30 H=>?_) (fun h30 H=>?_)
   ·refine gU H fun d31 h32 H=>(gU H fun y33 h34 H=>(bU H fun x36 z35 H=>(dW (dI [4] (bC mJ) (dB [52] 0 1 (vQ H2) (dI [0] aF (dI [] (tZ ([jX,AK]:List ByteArray) b6 lO) (dE [54,55] (f6 [0] [] Tryz.func86 (KO h32 h34 (fT d28 ([jX,AK]:List ByteArray) (by decide)))) (dI [56] (bQ Tryz.func118 (kT fu y33 _ z35)) (dI [53] (aV.indexG (sz:=16) (k:=5) (N:=2) (i:=0) rfl rfl rfl rfl (by decide) wU) (dI [58] (bC QX) (m4 [59,57] (b3 hH) (dN ?_)))))))))))))
    refine qS (qR ?_)
    refine AL.weak (Wk.freezeE (k:=5) (sz:=16) (es:= [aE.cs (aE.mk fC ([]) x36 false ([]) (aH.mk 0 s_ s_ 0 (aA.mk 0 s_ ([])) ([]) ([]))),aE.cs (aE.mk fU ([x2]:List aA) x10 true ([eY,qT]:List ByteArray) x21)]) (es':=aE.trs (([(aE.mk fC ([]) x36 false ([]) (aH.mk 0 s_ s_ 0 (aA.mk 0 s_ ([])) ([]) ([]))),(aE.mk fU ([x2]:List aA) x10 true ([eY,qT]:List ByteArray) x21)]:List aE))) (s':=⟨[(0,.ptr 0 0),(2,.ptr 1 0),(4,.ptr 4 0),(40,pN ((d13.after 3).below 12))],⟨[some ⟨151,dC d31⟩,some ⟨60,[pS s_,.nil,pB false,pB false,.nil]⟩,some ⟨35,c5 x2⟩,none,some ⟨60,[pS y5,.lit 1 (aX (v23)),pB false,pB (decide (d3.below 3=0)),lT ([(aE.mk fC ([]) x36 false ([]) (aH.mk 0 s_ s_ 0 (aA.mk 0 s_ ([])) ([]) ([]))),(aE.mk fU ([x2]:List aA) x10 true ([eY,qT]:List ByteArray) x21)]:List aE)]⟩,none],[]⟩⟩) (by simp [aE.trs_map,aE.tr_cs]) rfl lG (by simp [aE.cs]) (Nat.le_of_ble_eq_true rfl) ⟨⟨rfl,eI,rfl⟩,⟨⟨rfl,eI,rfl⟩,⟨⟨rfl,eI,rfl⟩,⟨⟨rfl,eI,rfl⟩,trivial⟩⟩⟩⟩ rfl rfl (eX hC (lD rfl) (Nat.le_of_ble_eq_true rfl)) (by repeat' first|exact trivial|refine⟨⟨_,rfl,eI,rfl⟩,?_⟩)) ?_;refine q1 (cY [pS y5,.lit 1 (aX (v23)),pB false,pB (decide (d3.below 3=0)),lT ([(aE.mk fC ([]) x36 false ([]) (aH.mk 0 s_ s_ 0 (aA.mk 0 s_ ([])) ([]) ([]))),(aE.mk fU ([x2]:List aA) x10 true ([eY,qT]:List ByteArray) x21)]:List aE)] uL) (q1 (b3 DU) (qN (aO.ret ?_)))
    cases aZ H
    exact bR (hr:=⟨⟨_,_,_,rfl,rfl,uL,rfl,rfl⟩,trivial⟩)
   refine qS (qR (q1 eP (q1 aF (qN (eM (anJ g15 h30) (qR (q1 (bC mJ) (q1 (bL H2) (q1 (aV.indexG (sz:=16) (k:=5) (N:=2) (i:=0) rfl rfl rfl rfl (by decide) wU) (q1 (bC K4) (q1 (b3 sz4) (qN (qS ?_)))))))))))))
   refine qR ?_;refine AL.weak (Wk.freezeE (k:=5) (sz:=16) (es:= [aE.cs (aE.mk fC ([]) x10 true ([]) (aH.mk 0 s_ s_ 0 (aA.mk 0 s_ ([])) ([]) ([]))),aE.cs (aE.mk fU ([x2]:List aA) x10 true ([eY,qT]:List ByteArray) x21)]) (es':=aE.trs (([(aE.mk fC ([]) x10 true ([]) (aH.mk 0 s_ s_ 0 (aA.mk 0 s_ ([])) ([]) ([]))),(aE.mk fU ([x2]:List aA) x10 true ([eY,qT]:List ByteArray) x21)]:List aE))) (s':=⟨[(0,.ptr 0 0),(2,.ptr 1 0),(4,.ptr 4 0),(40,pN ((d13.after 3).below 12))],⟨[some ⟨151,dC d28⟩,some ⟨60,[pS s_,.nil,pB false,pB false,.nil]⟩,some ⟨35,c5 x2⟩,none,some ⟨60,[pS y5,.lit 1 (aX (v23)),pB false,pB (decide (d3.below 3=0)),lT ([(aE.mk fC ([]) x10 true ([]) (aH.mk 0 s_ s_ 0 (aA.mk 0 s_ ([])) ([]) ([]))),(aE.mk fU ([x2]:List aA) x10 true ([eY,qT]:List ByteArray) x21)]:List aE)]⟩,none],[]⟩⟩) (by simp [aE.trs_map,aE.tr_cs]) rfl lG (by simp [aE.cs]) (Nat.le_of_ble_eq_true rfl) ⟨⟨rfl,eI,rfl⟩,⟨⟨rfl,eI,rfl⟩,⟨⟨rfl,eI,rfl⟩,⟨⟨rfl,eI,rfl⟩,trivial⟩⟩⟩⟩ rfl rfl (eX hC (lD rfl) (Nat.le_of_ble_eq_true rfl)) (by repeat' first|exact trivial|refine⟨⟨_,rfl,eI,rfl⟩,?_⟩)) ?_;refine q1 (cY [pS y5,.lit 1 (aX (v23)),pB false,pB (decide (d3.below 3=0)),lT ([(aE.mk fC ([]) x10 true ([]) (aH.mk 0 s_ s_ 0 (aA.mk 0 s_ ([])) ([]) ([]))),(aE.mk fU ([x2]:List aA) x10 true ([eY,qT]:List ByteArray) x21)]:List aE)] uL) (q1 (b3 DU) (qN (aO.ret ?_)))
   cases aZ H
   exact bR (hr:=⟨⟨_,_,_,rfl,rfl,uL,rfl,rfl⟩,trivial⟩)
  have H:=qY H g12
  refine q1 (aV.buildSliceB (cs:= [pS fC,.nil,pI x10.gKind,pS x10.gName,aW x10.gArgs,pB false,.nil,pI 0,pS s_,pS s_,pI 0,pI 0,pS s_,.nil,.nil,.nil]) rfl rfl wU zT rfl rfl rfl (by decide) rfl (by decide)) (q1 (gD H3 aeY) (q1 (iG H3) (q1 (b3 DU) (qN ?_))))
  iterate 2 refine qS ?_
  refine qR (q1 aF (gU H fun d37 h38 H=>?_))
  have g39:=g11
  rw [← h38] at g39
  refine q1 (f6 [0] [] Tryz.func112 (DX h38 (nY d7 2))) (qN (kP g12 (aO.skip (qS ?_))))
  refine qF (σ:=(List ByteArray)) (fun v40=>⟨[(0,.ptr 0 0),(2,.ptr 1 0),(4,.ptr 4 0)],⟨[some ⟨151,dC (d37.after 3)⟩,some ⟨60,[pS s_,.nil,pB false,pB false,.nil]⟩,some ⟨35,c5 x2⟩,some ⟨164,[pS fC,.nil,pI x10.gKind,pS x10.gName,aW x10.gArgs,pB false,.nil,pI 0,pS s_,pS s_,pI 0,pI 0,pS s_,.nil,.nil,.nil]⟩,some ⟨60,[pS y5,.lit 1 (aX (v40)),pB false,pB (decide (d3.below 3=0)),.bsl 3 1]⟩],[]⟩⟩) (gW H) (fun H=>?_) ?_
  ·refine qS (qR (q1 aF (gU H fun d41 h42 H=>?_)))
   have g43:=g39
   rw [← h42] at g43
   refine q1 (f6 [0] [] Tryz.func112 (DX h42 (nY d37 3))) (qN ?_)
   refine bH H (fun h44 H=>?_) (fun h44 H=>?_)
   ·refine qR (q1 (tZ ([eU]:List ByteArray) b6 lO) (q1 (bC B8) (q1 (b3 KN) (qN ?_))))
    subst h42
    exact eC ⟨_,(aZ H:),b9⟩
   refine aO.skip ?_
   subst h42
   exact eC ⟨_,(aZ H:),b9⟩
  rintro v40 H
  iterate 2 refine qS ?_
  refine qR (q1 aF (gU H fun d45 h46 H=>(q1 (f6 [0] [] Tryz.func103 (DX h46 (gF (d37.after 3) 12))) (qN (aO.block (qS (qR (q1 eP (q1 aF (qN (kP (ahG (b:=0) g39 (by decide) (by decide)) (qS (qR ?_)))))))))))))
  refine q1 eP (q1 aF (qN (kP (ahG (b:=1) g39 (by decide) (by decide)) (qS (qR (q1 eP (q1 aF (qN ?_))))))))
  refine bH H (fun h47 H=>?_) (fun h47 H=>?_)
  ·refine gU H fun d48 h49 H=>(gU H fun y50 h51 H=>(bU H fun x53 z52 H=>(dW (dI [4] (bC mJ) (dB [52] 0 1 (vQ H2) (dI [0] aF (dI [] (tZ ([jX,AK]:List ByteArray) b6 lO) (dE [54,55] (f6 [0] [] Tryz.func86 (KO h49 h51 (fT d45 ([jX,AK]:List ByteArray) (by decide)))) (dI [56] (bQ Tryz.func118 (kT fu y50 _ z52)) (dI [53] (aV.indexB (sz:=16) (k:=3) (N:=1) (i:=0) rfl rfl rfl rfl (by decide) wU) (dI [58] (bC QX) (m4 [59,57] (b3 hH) (dN ?_)))))))))))))
   refine qS (qR ?_)
   refine AL.weak (Wk.freezeE (k:=3) (sz:=16) (es:= [aE.cs (aE.mk fC [] x53 false [] (aH.mk 0 s_ s_ 0 (aA.mk 0 s_ []) [] []))]) (es':=aE.trs (([(aE.mk fC [] x53 false [] (aH.mk 0 s_ s_ 0 (aA.mk 0 s_ []) [] []))]:List aE))) (s':=⟨[(0,.ptr 0 0),(2,.ptr 1 0),(4,.ptr 4 0),(40,pN ((d37.after 3).below 12))],⟨[some ⟨151,dC d48⟩,some ⟨60,[pS s_,.nil,pB false,pB false,.nil]⟩,some ⟨35,c5 x2⟩,none,some ⟨60,[pS y5,.lit 1 (aX (v40)),pB false,pB (decide (d3.below 3=0)),lT ([(aE.mk fC [] x53 false [] (aH.mk 0 s_ s_ 0 (aA.mk 0 s_ []) [] []))]:List aE)]⟩],[]⟩⟩) (by simp [aE.trs_map,aE.tr_cs]) rfl lG (by simp [aE.cs]) (Nat.le_of_ble_eq_true rfl) ⟨⟨rfl,eI,rfl⟩,⟨⟨rfl,eI,rfl⟩,⟨⟨rfl,eI,rfl⟩,⟨⟨rfl,eI,rfl⟩,trivial⟩⟩⟩⟩ rfl rfl (eX hC (lD rfl) (Nat.le_of_ble_eq_true rfl)) (by repeat' first|exact trivial|refine⟨⟨_,rfl,eI,rfl⟩,?_⟩)) ?_;refine q1 (cY [pS y5,.lit 1 (aX (v40)),pB false,pB (decide (d3.below 3=0)),lT ([(aE.mk fC [] x53 false [] (aH.mk 0 s_ s_ 0 (aA.mk 0 s_ []) [] []))]:List aE)] uL) (q1 (b3 DU) (qN (aO.ret ?_)))
   cases aZ H
   exact bR (hr:=⟨⟨_,_,_,rfl,rfl,uL,rfl,rfl⟩,trivial⟩)
  refine qS (qR (q1 eP (q1 aF (qN (eM (anJ g39 h47) (qR (q1 (bC mJ) (q1 (bL H2) (q1 (aV.indexB (sz:=16) (k:=3) (N:=1) (i:=0) rfl rfl rfl rfl (by decide) wU) (q1 (bC K4) (q1 (b3 sz4) (qN (qS ?_)))))))))))))
  refine qR ?_;refine AL.weak (Wk.freezeE (k:=3) (sz:=16) (es:= [aE.cs (aE.mk fC [] x10 true [] (aH.mk 0 s_ s_ 0 (aA.mk 0 s_ []) [] []))]) (es':=aE.trs (([(aE.mk fC [] x10 true [] (aH.mk 0 s_ s_ 0 (aA.mk 0 s_ []) [] []))]:List aE))) (s':=⟨[(0,.ptr 0 0),(2,.ptr 1 0),(4,.ptr 4 0),(40,pN ((d37.after 3).below 12))],⟨[some ⟨151,dC d45⟩,some ⟨60,[pS s_,.nil,pB false,pB false,.nil]⟩,some ⟨35,c5 x2⟩,none,some ⟨60,[pS y5,.lit 1 (aX (v40)),pB false,pB (decide (d3.below 3=0)),lT ([(aE.mk fC [] x10 true [] (aH.mk 0 s_ s_ 0 (aA.mk 0 s_ []) [] []))]:List aE)]⟩],[]⟩⟩) (by simp [aE.trs_map,aE.tr_cs]) rfl lG (by simp [aE.cs]) (Nat.le_of_ble_eq_true rfl) ⟨⟨rfl,eI,rfl⟩,⟨⟨rfl,eI,rfl⟩,⟨⟨rfl,eI,rfl⟩,⟨⟨rfl,eI,rfl⟩,trivial⟩⟩⟩⟩ rfl rfl (eX hC (lD rfl) (Nat.le_of_ble_eq_true rfl)) (by repeat' first|exact trivial|refine⟨⟨_,rfl,eI,rfl⟩,?_⟩)) ?_;refine q1 (cY [pS y5,.lit 1 (aX (v40)),pB false,pB (decide (d3.below 3=0)),lT ([(aE.mk fC [] x10 true [] (aH.mk 0 s_ s_ 0 (aA.mk 0 s_ []) [] []))]:List aE)] uL) (q1 (b3 DU) (qN (aO.ret ?_)))
  cases aZ H
  exact bR (hr:=⟨⟨_,_,_,rfl,rfl,uL,rfl,rfl⟩,trivial⟩)
 have H:=qY H g11
 refine q1 (wA ([(aE.mk fC [] x10 false [] (aH.mk 0 s_ s_ 0 (aA.mk 0 s_ []) [] []))]:List aE) wU zT) (q1 (gD H3 aeY) (q1 (iG H3) (q1 (b3 DU) (qN (qS ?_)))))
 refine qF (σ:=(List aE)) (fun v55=>⟨[(0,.ptr 0 0),(2,.ptr 1 0),(4,.ptr 3 0)],⟨[some ⟨151,dC (d7.after 2)⟩,some ⟨60,[pS s_,.nil,pB false,pB false,.nil]⟩,some ⟨35,c5 x2⟩,some ⟨60,[pS y5,.nil,pB false,pB (decide (d3.below 3=0)),lQ v55 0]⟩],[⟨164,16,aE.trs (v55),false⟩]⟩⟩) (gW H) (fun H=>?_) ?_
 ·refine qS (qR (q1 aF (gU H fun d56 h57 H=>?_)))
  have g58:=g11
  rw [← h57] at g58
  refine q1 (f6 [0] [] Tryz.func112 (DX h57 (nY d7 2))) (qN ?_)
  refine bH H (fun h59 H=>?_) (fun h59 H=>?_)
  ·refine bU H fun x61 z60 H=>(bU H fun x63 z62 H=>(bU H fun x65 z64 H=>(c9 H fun z66 H=>(dW (dI [4] (bC mJ) (dD [17] (bL H2) (dD [3] (cY [pI x2.gKind,pS x2.gName,aW x2.gArgs] b8) (dI [19] (tZ ([x2]:List aA) dX hP) (dI [] (bQ Tryz.func147 (uU fu _ z9)) (dI [] (tZ ([eY,qT]:List ByteArray) b6 lO) (dI [4] (bC I5) (dD [23] (bL fO) (dI [] (bQ Tryz.func157 (yR fu eY _ z60)) ?_)))))))))))))
   refine dI [25] (tZ ([x61]:List aH) m3 lN) (dI [24,26] (gD lN yH) (dI [] (bQ Tryz.func159 (uM fu 1 _ z62)) (dI [27,28] (tZ ([(aH.mk 5 y5 fC 0 (aA.mk 0 s_ []) ([x61]:List aH) []),x63]:List aH) m3 lN) (dI [29] (bQ Tryz.func158 (uN fu 10 yZ ([(aH.mk 5 y5 fC 0 (aA.mk 0 s_ []) ([x61]:List aH) []),x63]:List aH) _ z64)) (dI [20,21,22,30] (gD zT ahT) (dI [31] (tZ ([(aE.mk fU ([x2]:List aA) x10 true ([eY,qT]:List ByteArray) x65)]:List aE) wU zT) (dE [18,32] (oE z66 wU al8) (dI [4] (bC mJ) (m4 [34,33] (b3 al3) (dN ?_))))))))))
   subst h57
   exact eC ⟨_,(aZ H:),b9⟩
  refine aO.skip ?_
  subst h57
  exact eC ⟨_,(aZ H:),b9⟩
 rintro v55 H
 refine qS ?_;refine qF (σ:=(List ByteArray)) (fun v67=>⟨[(0,.ptr 0 0),(2,.ptr 1 0),(4,.ptr 3 0)],⟨[some ⟨151,dC ((d7.after 2).after 3)⟩,some ⟨60,[pS s_,.nil,pB false,pB false,.nil]⟩,some ⟨35,c5 x2⟩,some ⟨60,[pS y5,.lit 1 (aX (v67)),pB false,pB (decide (d3.below 3=0)),lQ v55 0]⟩],[⟨164,16,aE.trs (v55),false⟩]⟩⟩) (gW H) (fun H=>?_) ?_
 ·refine qS (qR (q1 aF (gU H fun d68 h69 H=>?_)))
  have g70:=g11
  rw [← h69] at g70
  refine q1 (f6 [0] [] Tryz.func112 (DX h69 (nY (d7.after 2) 3))) (qN ?_)
  refine bH H (fun h71 H=>?_) (fun h71 H=>?_)
  ·refine qR (q1 (tZ ([eU]:List ByteArray) b6 lO) (q1 (bC B8) (q1 (b3 KN) (qN ?_))))
   subst h69
   exact eC ⟨_,(aZ H:),b9⟩
  refine aO.skip ?_
  subst h69
  exact eC ⟨_,(aZ H:),b9⟩
 rintro v67 H
 iterate 2 refine qS ?_
 refine qR (q1 aF (gU H fun d72 h73 H=>(q1 (f6 [0] [] Tryz.func103 (DX h73 (gF ((d7.after 2).after 3) 12))) (qN (aO.block (qS (qR (q1 eP (q1 aF (qN ?_))))))))))
 refine bH H (fun h74 H=>?_) (fun h74 H=>?_)
 ·refine qR (q1 (bC aeM) (q1 (b3 sz4) (qN (qS (qR (q1 (cY [pS y5,.lit 1 (aX (v67)),pB true,pB (decide (d3.below 3=0)),lQ v55 0] uL) (q1 (b3 DU) (qN (aO.ret ?_)))))))))
  cases aZ H
  exact bR (hr:=⟨⟨_,_,_,rfl,rfl,uL,rfl,rfl⟩,trivial⟩)
 refine qS (qR (q1 eP (q1 aF (qN ?_))))
 refine bH H (fun h75 H=>?_) (fun h75 H=>?_)
 ·refine qR (q1 aF (q1 (tZ ([s_,fK,s_A]:List ByteArray) b6 lO) (gU H fun d76 h77 H=>(gU H fun y78 h79 H=>(q1 (f6 [0] [] Tryz.func86 (KO h77 h79 (fT d72 ([s_,fK,s_A]:List ByteArray) (by decide)))) (q1 (bC I5) (q1 (b3 sz9) (qN (qS (qR (q1 (cY [pS y78,.lit 1 (aX (v67)),pB false,pB (decide (d3.below 3=0)),lQ v55 0] uL) (q1 (b3 DU) (qN ?_)))))))))))))
  refine aO.ret ?_
  cases aZ H
  exact bR (hr:=⟨⟨_,_,_,rfl,rfl,uL,rfl,rfl⟩,trivial⟩)
 refine qS (qR (q1 eP (q1 aF (qN (kP (apA g11) (qS (qR (q1 eP (q1 aF (qN (kP (apB g11) (qS (qR ?_)))))))))))))
 refine q1 eP (q1 aF (qN ?_))
 refine bH H (fun h80 H=>?_) (fun h80 H=>?_)
 ·refine qR (q1 (bC B8) (q1 (bL lI) (q1 (tZ ([eU]:List ByteArray) b6 lO) (c9 H fun z81 H=>?_))))
  refine q1 (aV.appendLit (es1:=aX (v67)) (es2:=aX (([eU]:List ByteArray))) (es3:=aX (v67++([eU]:List ByteArray))) rfl rfl rfl rfl rfl (mX _) (mX _) (by exact List.cons_ne_nil _ _) (by decide) b6 sM (by decide) (by rw [bI,bI];exact zE z81 (by decide)) (u5 _ _)) ?_;refine q1 (bC B8) (q1 (b3 KN) (qN (qS (qR (q1 (cY [pS y5,rS (v67++([eU]:List ByteArray)),pB false,pB (decide (d3.below 3=0)),lQ v55 0] uL) (q1 (b3 DU) (qN (aO.ret ?_))))))))
  cases aZ H
  exact bR (hr:=⟨⟨_,_,_,rfl,rfl,uL,rfl,rfl⟩,trivial⟩)
 refine qS (qR (q1 eP (q1 aF (qN ?_))))
 refine bH H (fun h82 H=>?_) (fun h82 H=>?_)
 ·refine c9 H fun z83 H=>(gU H fun y84 h85 H=>(c9 H fun z86 H=>(dW (dI [4] (bC mJ) (dD [75] (bL H2) (dI [4] (bC mJ) (dD [77] (bL H2) (dI [78] (yI h85 z83 wU) (dI [79] (lB (aE.cs y84) abP) (dI [80] (tZ ([y84]:List aE) wU zT) (dE [76,81] (oE z86 wU al8) (dI [4] (bC mJ) (m4 [83,82] (b3 al3) ?_)))))))))))))
  refine dN (qS (qR (q1 (cY [pS y5,.lit 1 (aX (v67)),pB false,pB (decide (d3.below 3=0)),lQ (v55++([y84]:List aE)) 0] uL) (q1 (b3 DU) (qN (aO.ret ?_))))))
  cases aZ H
  exact bR (hr:=⟨⟨_,_,_,rfl,rfl,uL,rfl,rfl⟩,trivial⟩)
 refine aO.skip (qS (qR (q1 (cY [pS y5,.lit 1 (aX (v67)),pB false,pB (decide (d3.below 3=0)),lQ v55 0] uL) (q1 (b3 DU) (qN (aO.ret ?_))))))
 cases aZ H
 exact bR (hr:=⟨⟨_,_,_,rfl,rfl,uL,rfl,rfl⟩,trivial⟩)
def afM(m:DS→Option (aM×DS)):Prop:= ∀(pc:DS) (r:aM×DS),m pc=some r→cP Tryz.prog 168 [.ptr 0 0] ⟨[some ⟨151,dC pc⟩],[]⟩ (fun q t=>q=((aM.pv r.1):PV)∧t=⟨[some ⟨151,dC r.2⟩],[]⟩)
def J9(fu:Nat)(pc:DS):Option (aM×DS):=
 bd (nL fu gO) (fun x2=>
 bd (iZ fu cZ ([x2]:List aA)) (fun x4=>
 lt (pc.after 10) (fun d5=>
 sw (decide ((pc.below 10:Int)=0))
 (lt (d5.after ([gO,AK]:List ByteArray).length) (fun d8=>
 lt (d5.pick ([gO,AK]:List ByteArray)) (fun y10=>
 gd ((([gO]:List ByteArray)).length+(([y10]:List ByteArray)).length≤68719476736)
 (some ((aM.mk cZ (([gO]:List ByteArray)++([y10]:List ByteArray)) ([(aD.mk gB []),(aD.mk cN ([x2,x4]:List aA))]:List aD)),d8)))))
 (sw (decide ((pc.below 10:Int)=1))
 (lt (d5.after 2) (fun d14=>
 gd ((0:Int)≤0∧(0:Int)≤(d5.below 2:Int)∧(d5.below 2:Int)≤((([(aD.mk gB []),(aD.mk cN ([x2,x4]:List aA))]:List aD).length:Nat):Int))
 (some ((aM.mk cZ ([gO]:List ByteArray) (List.drop (0:Int).toNat (List.take (d5.below 2:Int).toNat ([(aD.mk gB []),(aD.mk cN ([x2,x4]:List aA))]:List aD)))),d14))))
 (sw (decide ((pc.below 10:Int)=2))
 (bd (sY fu d5 2) (fun(x19,x20)=>
 some ((aM.mk cZ ([gO]:List ByteArray) ([(aD.mk gB ([x19]:List aA)),(aD.mk cN ([x2,x4]:List aA))]:List aD)),x20)))
 (sw (decide ((pc.below 10:Int)=3))
 (lt (d5.after ([cN,s_,TF]:List ByteArray).length) (fun d22=>
 lt (d5.pick ([cN,s_,TF]:List ByteArray)) (fun y24=>
 some ((aM.mk cZ ([gO]:List ByteArray) ([(aD.mk y24 []),(aD.mk cN ([x2,x4]:List aA))]:List aD)),d22))))
 (some ((aM.mk cZ ([gO]:List ByteArray) ([(aD.mk gB []),(aD.mk cN ([x2,x4]:List aA))]:List aD)),d5))))))))
theorem acR(fu:Nat):afM (J9 fu):=by
 intro pc r H
 have H:=fF H
 refine qI Tryz.func168 (fun C hC=>?_)
 refine qS (qR (q1 (iG DH) (qN (qS (qR (q1 (tZ ([gO]:List ByteArray) b6 lO) (q1 (gD adW ak9) (bU H fun x2 z1 H=>?_))))))))
 iterate 2 refine q1 (bQ Tryz.func118 (kT fu gO _ z1)) ?_
 refine q1 (tZ ([x2]:List aA) dX hP) (bU H fun x4 z3 H=>(q1 (bQ Tryz.func85 (iM fu cZ ([x2]:List aA) _ z3)) (q1 (tZ ([x2,x4]:List aA) dX hP) (q1 (gD adW ak9) (q1 (aV.buildSliceB (cs:= [pS gB,.nil,pS cN,.lit 3 (aA.trs (([x2,x4]:List aA)))]) rfl rfl wM adW rfl rfl rfl (by decide) rfl (by decide)) (q1 (gD DH abD) (q1 (iG DH) (q1 (b3 DG) (qN ?_)))))))))
 iterate 2 refine qS ?_
 refine qR (q1 aF (gU H fun d5 h6 H=>(q1 (f6 [0] [] Tryz.func103 (DX h6 (gF pc 10))) (qN (aO.block (qS (qR (q1 eP (q1 aF (qN ?_))))))))))
 refine bH H (fun h7 H=>?_) (fun h7 H=>?_)
 ·refine gU H fun d8 h9 H=>(gU H fun y10 h11 H=>(c9 H fun z12 H=>(dW (dI [3] (bC K2) (dB [18] 0 1 (vQ lI) (dI [0] aF (dI [] (tZ ([gO,AK]:List ByteArray) b6 lO) (dE [20,21] (f6 [0] [] Tryz.func86 (KO h9 h11 (fT d5 ([gO,AK]:List ByteArray) (by decide)))) (dI [22] (tZ ([y10]:List ByteArray) b6 lO) ?_)))))))))
  refine dI [19,23] (aV.appendLit (es1:=aX (([gO]:List ByteArray))) (es2:=aX (([y10]:List ByteArray))) (es3:=aX (([gO]:List ByteArray)++([y10]:List ByteArray))) rfl rfl rfl rfl rfl (mX _) (mX _) (by exact List.cons_ne_nil _ _) (by decide) b6 sM (by decide) (by rw [bI,bI];exact zE z12 (by decide)) (u5 _ _)) ?_;refine dI [3] (bC K2) (m4 [25,24] (b3 KN) (dN (qS (qR ?_))))
  refine AL.weak (Wk.freezeE (k:=2) (sz:=2) (es:= [aD.cs (aD.mk gB []),aD.cs (aD.mk cN ([x2,x4]:List aA))]) (es':=aD.trs (([(aD.mk gB []),(aD.mk cN ([x2,x4]:List aA))]:List aD))) (s':=⟨[(0,.ptr 0 0),(2,.ptr 1 0),(3,.ptr 3 0),(15,pN (pc.below 10))],⟨[some ⟨151,dC d8⟩,some ⟨116,[pS s_,.nil,.nil]⟩,none,some ⟨116,[pS cZ,rS (([gO]:List ByteArray)++([y10]:List ByteArray)),fM ([(aD.mk gB []),(aD.mk cN ([x2,x4]:List aA))]:List aD)]⟩],[]⟩⟩) (by simp [aD.trs_map,aD.tr_cs]) rfl lG (by simp [aD.cs]) (Nat.le_of_ble_eq_true rfl) ⟨⟨rfl,eI,rfl⟩,⟨⟨rfl,eI,rfl⟩,⟨⟨rfl,eI,rfl⟩,trivial⟩⟩⟩ rfl rfl (eX hC (lD rfl) (Nat.le_of_ble_eq_true rfl)) (by repeat' first|exact trivial|refine⟨⟨_,rfl,eI,rfl⟩,?_⟩)) ?_;refine q1 (cY [pS cZ,rS (([gO]:List ByteArray)++([y10]:List ByteArray)),fM ([(aD.mk gB []),(aD.mk cN ([x2,x4]:List aA))]:List aD)] tR) (q1 (b3 DG) (qN (aO.ret ?_)))
  cases aZ H
  exact bR (hr:=⟨⟨_,_,_,rfl,rfl,tR,rfl,rfl⟩,trivial⟩)
 refine qS (qR (q1 eP (q1 aF (qN ?_))))
 refine bH H (fun h13 H=>?_) (fun h13 H=>?_)
 ·refine gU H fun d14 h15 H=>?_;refine aO.wk (Wk.freezeE (k:=2) (sz:=2) (es:= [aD.cs (aD.mk gB []),aD.cs (aD.mk cN ([x2,x4]:List aA))]) (es':=aD.trs (([(aD.mk gB []),(aD.mk cN ([x2,x4]:List aA))]:List aD))) (s':=⟨[(0,.ptr 0 0),(2,.ptr 1 0),(3,.ptr 3 0),(4,.lit 1 (aX (([gO]:List ByteArray)))),(5,.agg [pS gB,.nil]),(6,(aA.pv x2)),(7,(aA.pv x2)),(8,.lit 3 (aA.trs (([x2]:List aA)))),(9,(aA.pv x4)),(10,.lit 3 (aA.trs (([x2,x4]:List aA)))),(11,.agg [pS cN,.lit 3 (aA.trs (([x2,x4]:List aA)))]),(12,fM ([(aD.mk gB []),(aD.mk cN ([x2,x4]:List aA))]:List aD)),(13,.agg [pS cZ,.lit 1 (aX (([gO]:List ByteArray))),fM ([(aD.mk gB []),(aD.mk cN ([x2,x4]:List aA))]:List aD)]),(14,.ptr 0 0),(15,pN (pc.below 10)),(16,pB (decide ((pc.below 10:Int)=0))),(17,pB (decide ((pc.below 10:Int)=0))),(26,pB (decide ((pc.below 10:Int)=1))),(27,pB (decide ((pc.below 10:Int)=1)))],⟨[some ⟨151,dC d5⟩,some ⟨116,[pS s_,.nil,.nil]⟩,none,some ⟨116,[pS cZ,.lit 1 (aX (([gO]:List ByteArray))),fM ([(aD.mk gB []),(aD.mk cN ([x2,x4]:List aA))]:List aD)]⟩],[]⟩⟩) (by simp [aD.trs_map,aD.tr_cs]) rfl lG (by simp [aD.cs]) (Nat.le_of_ble_eq_true rfl) ⟨⟨rfl,eI,rfl⟩,⟨⟨rfl,eI,rfl⟩,⟨⟨rfl,eI,rfl⟩,trivial⟩⟩⟩ rfl rfl (eX hC (lD rfl) (Nat.le_of_ble_eq_true rfl)) (by repeat' first|exact trivial|refine⟨⟨_,rfl,eI,rfl⟩,?_⟩)) ?_;refine c9 H fun z16 H=>(dW (dI [3] (bC m5) (dB [28] 0 1 (vQ zK) (dI [0] aF (dE [30] (f6 [0] [] Tryz.func103 (DX h15 (gF d5 2))) ?_)))))
  refine dI [29,31] (aV.congrP (aV.sliceR (es:=aD.trs (([(aD.mk gB []),(aD.mk cN ([x2,x4]:List aA))]:List aD))) (l:=0) (k:=(d5.below 2:Int)) rfl rfl rfl rfl rfl (by rw [aD.trs_len];exact rfl) (by rw [aD.trs_len];exact z16) wM) (aD.trs_part _ _ _)) ?_;refine dI [3] (bC m5) (m4 [33,32] (b3 anM) (dN (qS (qR (q1 (cY [pS cZ,.lit 1 (aX (([gO]:List ByteArray))),fM (List.drop (0:Int).toNat (List.take (d5.below 2:Int).toNat ([(aD.mk gB []),(aD.mk cN ([x2,x4]:List aA))]:List aD)))] tR) (q1 (b3 DG) (qN (aO.ret ?_))))))))
  cases aZ H
  exact bR (hr:=⟨⟨_,_,_,rfl,rfl,tR,rfl,rfl⟩,trivial⟩)
 refine qS (qR (q1 eP (q1 aF (qN ?_))))
 refine bH H (fun h17 H=>?_) (fun h17 H=>?_)
 ·refine fQ H fun x19 x20 z18 H=>(dW (dI [3] (bC m5) (dB [36] 0 1 (vQ zK) (dI [0] aF (dE [38] (f6 [0] [] Tryz.func87 (uT fu d5 2 _ z18)) (dI [39] (tZ ([x19]:List aA) dX hP) (dI [37] (aV.indexB (sz:=2) (k:=2) (N:=2) (i:=0) rfl rfl rfl rfl (by decide) wM) (dI [41] (bC K5) (m4 [42,40] (b3 apN) (dN (qS (qR ?_))))))))))))
  refine AL.weak (Wk.freezeE (k:=2) (sz:=2) (es:= [aD.cs (aD.mk gB ([x19]:List aA)),aD.cs (aD.mk cN ([x2,x4]:List aA))]) (es':=aD.trs (([(aD.mk gB ([x19]:List aA)),(aD.mk cN ([x2,x4]:List aA))]:List aD))) (s':=⟨[(0,.ptr 0 0),(2,.ptr 1 0),(3,.ptr 3 0),(15,pN (pc.below 10))],⟨[some ⟨151,dC x20⟩,some ⟨116,[pS s_,.nil,.nil]⟩,none,some ⟨116,[pS cZ,.lit 1 (aX (([gO]:List ByteArray))),fM ([(aD.mk gB ([x19]:List aA)),(aD.mk cN ([x2,x4]:List aA))]:List aD)]⟩],[]⟩⟩) (by simp [aD.trs_map,aD.tr_cs]) rfl lG (by simp [aD.cs]) (Nat.le_of_ble_eq_true rfl) ⟨⟨rfl,eI,rfl⟩,⟨⟨rfl,eI,rfl⟩,⟨⟨rfl,eI,rfl⟩,trivial⟩⟩⟩ rfl rfl (eX hC (lD rfl) (Nat.le_of_ble_eq_true rfl)) (by repeat' first|exact trivial|refine⟨⟨_,rfl,eI,rfl⟩,?_⟩)) ?_;refine q1 (cY [pS cZ,.lit 1 (aX (([gO]:List ByteArray))),fM ([(aD.mk gB ([x19]:List aA)),(aD.mk cN ([x2,x4]:List aA))]:List aD)] tR) (q1 (b3 DG) (qN (aO.ret ?_)))
  cases aZ H
  exact bR (hr:=⟨⟨_,_,_,rfl,rfl,tR,rfl,rfl⟩,trivial⟩)
 refine qS (qR (q1 eP (q1 aF (qN ?_))))
 refine bH H (fun h21 H=>?_) (fun h21 H=>?_)
 ·refine gU H fun d22 h23 H=>(gU H fun y24 h25 H=>(dW (dI [3] (bC m5) (dB [45] 0 1 (vQ zK) (dI [0] aF (dI [] (tZ ([cN,s_,TF]:List ByteArray) b6 lO) (dE [47,48] (f6 [0] [] Tryz.func86 (KO h23 h25 (fT d5 ([cN,s_,TF]:List ByteArray) (by decide)))) (dI [46] (aV.indexB (sz:=2) (k:=2) (N:=2) (i:=0) rfl rfl rfl rfl (by decide) wM) (dI [50] (bC QZ) (m4 [51,49] (b3 sz9) (dN (qS (qR ?_)))))))))))))
  refine AL.weak (Wk.freezeE (k:=2) (sz:=2) (es:= [aD.cs (aD.mk y24 []),aD.cs (aD.mk cN ([x2,x4]:List aA))]) (es':=aD.trs (([(aD.mk y24 []),(aD.mk cN ([x2,x4]:List aA))]:List aD))) (s':=⟨[(0,.ptr 0 0),(2,.ptr 1 0),(3,.ptr 3 0),(15,pN (pc.below 10))],⟨[some ⟨151,dC d22⟩,some ⟨116,[pS s_,.nil,.nil]⟩,none,some ⟨116,[pS cZ,.lit 1 (aX (([gO]:List ByteArray))),fM ([(aD.mk y24 []),(aD.mk cN ([x2,x4]:List aA))]:List aD)]⟩],[]⟩⟩) (by simp [aD.trs_map,aD.tr_cs]) rfl lG (by simp [aD.cs]) (Nat.le_of_ble_eq_true rfl) ⟨⟨rfl,eI,rfl⟩,⟨⟨rfl,eI,rfl⟩,⟨⟨rfl,eI,rfl⟩,trivial⟩⟩⟩ rfl rfl (eX hC (lD rfl) (Nat.le_of_ble_eq_true rfl)) (by repeat' first|exact trivial|refine⟨⟨_,rfl,eI,rfl⟩,?_⟩)) ?_;refine q1 (cY [pS cZ,.lit 1 (aX (([gO]:List ByteArray))),fM ([(aD.mk y24 []),(aD.mk cN ([x2,x4]:List aA))]:List aD)] tR) (q1 (b3 DG) (qN (aO.ret ?_)))
  cases aZ H
  exact bR (hr:=⟨⟨_,_,_,rfl,rfl,tR,rfl,rfl⟩,trivial⟩)
 refine aO.skip (qS (qR ?_))
 refine AL.weak (Wk.freezeE (k:=2) (sz:=2) (es:= [aD.cs (aD.mk gB []),aD.cs (aD.mk cN ([x2,x4]:List aA))]) (es':=aD.trs (([(aD.mk gB []),(aD.mk cN ([x2,x4]:List aA))]:List aD))) (s':=⟨[(0,.ptr 0 0),(2,.ptr 1 0),(3,.ptr 3 0),(15,pN (pc.below 10))],⟨[some ⟨151,dC d5⟩,some ⟨116,[pS s_,.nil,.nil]⟩,none,some ⟨116,[pS cZ,.lit 1 (aX (([gO]:List ByteArray))),fM ([(aD.mk gB []),(aD.mk cN ([x2,x4]:List aA))]:List aD)]⟩],[]⟩⟩) (by simp [aD.trs_map,aD.tr_cs]) rfl lG (by simp [aD.cs]) (Nat.le_of_ble_eq_true rfl) ⟨⟨rfl,eI,rfl⟩,⟨⟨rfl,eI,rfl⟩,⟨⟨rfl,eI,rfl⟩,trivial⟩⟩⟩ rfl rfl (eX hC (lD rfl) (Nat.le_of_ble_eq_true rfl)) (by repeat' first|exact trivial|refine⟨⟨_,rfl,eI,rfl⟩,?_⟩)) ?_;refine q1 (cY [pS cZ,.lit 1 (aX (([gO]:List ByteArray))),fM ([(aD.mk gB []),(aD.mk cN ([x2,x4]:List aA))]:List aD)] tR) (q1 (b3 DG) (qN (aO.ret ?_)))
 cases aZ H
 exact bR (hr:=⟨⟨_,_,_,rfl,rfl,tR,rfl,rfl⟩,trivial⟩)
end
end Go.Proofs.YtpioomclpaiomaaGreat.W

namespace Go.Proofs.YtpioomclpaiomaaGreat.W
set_option maxRecDepth 100000
set_option maxHeartbeats 40000000
noncomputable section
open Go.RowKit Go.Proofs
set_option linter.unusedSimpArgs false
set_option linter.unusedVariables false
attribute [local irreducible] lt
def ajS(m:DS→Option (aJ×DS)):Prop:= ∀(pq0:DS) (r:aJ×DS),m pq0=some r→cP Tryz.prog 117 [.ptr 0 0] ⟨[some ⟨151,dC pq0⟩],[]⟩ (fun q t=>q=((aJ.pv r.1):PV)∧t=⟨[some ⟨151,dC r.2⟩],[]⟩)
def af0(fu:Nat)(pq0 d1:DS):Nat→((List aU)×(List aM)×(List aG)×(List aK)×DS)→Option (LR ((List aU)×(List aM)×(List aG)×(List aK)×DS) (aJ×DS)):=
 fun i3 (v9,v10,v11,v12,v4)=>lt (v4.after 4) (fun d15=>
 sw (decide ((v4.below 4:Int)=0))
 (bd (E5 fu d15) (fun(x19,x20)=>
 gd ((v9).length+(([x19]:List aU)).length≤68719476736)
 (some (.next ((v9++([x19]:List aU)),v10,v11,v12,x20)))))
 (sw (decide ((v4.below 4:Int)=1))
 (bd (J9 fu d15) (fun(x24,x25)=>
 gd ((v10).length+(([x24]:List aM)).length≤68719476736)
 (some (.next (v9,(v10++([x24]:List aM)),v11,v12,x25)))))
 (sw (decide ((v4.below 4:Int)=2))
 (bd (KA fu d15) (fun(x29,x30)=>
 gd ((v11).length+(([x29]:List aG)).length≤68719476736)
 (some (.next (v9,v10,(v11++([x29]:List aG)),v12,x30)))))
 (bd (TL fu d15) (fun(x33,x34)=>
 gd ((v12).length+(([x33]:List aK)).length≤68719476736)
 (some (.next (v9,v10,v11,(v12++([x33]:List aK)),x34))))))))
def af1(fu:Nat)(pq0 d1:DS):Option ((aJ×DS)⊕((List aU)×(List aM)×(List aG)×(List aK)×DS)):=
 loopN (af0 fu pq0 d1) (pq0.below 5-0) 0 (([]),([]),([]),([]),d1)
def OF(fu:Nat)(pq0:DS):Option (aJ×DS):=
 lt (pq0.after 5) (fun d1=>
 so (af1 fu pq0 d1) (fun(v9,v10,v11,v12,v4)=>
 lt (v4.after 10) (fun d36=>
 sw (decide ((v4.below 10:Int)=0))
 (lt (d36.after ([s_,gJ]:List ByteArray).length) (fun d39=>
 lt (d36.pick ([s_,gJ]:List ByteArray)) (fun y41=>
 some ((aJ.mk y41 ([gJ]:List ByteArray) v9 v10 v11 v12),d39))))
 (sw (decide ((v4.below 10:Int)=1))
 (lt (d36.after ([gJ,s_q,s_p]:List ByteArray).length) (fun d44=>
 lt (d36.pick ([gJ,s_q,s_p]:List ByteArray)) (fun y46=>
 gd ((([gJ]:List ByteArray)).length+(([y46]:List ByteArray)).length≤68719476736)
 (some ((aJ.mk s_p (([gJ]:List ByteArray)++([y46]:List ByteArray)) v9 v10 v11 v12),d44)))))
 (some ((aJ.mk s_p ([gJ]:List ByteArray) v9 v10 v11 v12),d36))))))
theorem af2(fu:Nat):ajS (OF fu):=by
 intro pq0 r H
 have H:=fF H
 refine qI Tryz.func117 (fun C hC=>?_)
 refine qS (qR (q1 (iG s3) (qN (qS (qR (q1 (tZ ([gJ]:List ByteArray) b6 lO) (q1 (gD s3 IE) (q1 (iG s3) (q1 (b3 t2) (qN (qS (qR (q1 aF ?_)))))))))))))
 refine gU H fun d1 h2 H=>(q1 (f6 [0] [] Tryz.func103 (DX h2 (gF pq0 5))) (q1 aF (qN ?_)))
 iterate 2 refine qS ?_
 refine qR (q1 aF (qN (aO.wk (Wk.regBox (k:=2) (j:=2) 60 5 (by decide) rfl rfl) (aO.wk (Wk.regBox (k:=2) (j:=3) 116 3 (by decide) rfl rfl) (aO.wk (Wk.regBox (k:=2) (j:=4) 55 12 (by decide) rfl rfl) (aO.wk (Wk.regBox (k:=2) (j:=5) 148 16 (by decide) rfl rfl) ?_))))))
 have hb13:=DS.below_lt (d:=pq0) (n:=5) (by decide)
 refine cM (σ:=(List aU)×(List aM)×(List aG)×(List aK)×DS) (fun i3 (v9,v10,v11,v12,v4)=>⟨[(0,.ptr 0 0),(2,.ptr 1 0),(3,.ptr 2 0),(4,pN (pq0.below 5)),(5,pN i3)],⟨[some ⟨151,dC v4⟩,some ⟨131,[pS s_,.nil,.nil,.nil,.nil,.nil]⟩,some ⟨131,[pS s_p,.lit 1 (aX (([gJ]:List ByteArray))),xQ v9 0,m6 v10 1,m8 v11 2,m7 v12 3]⟩],[⟨60,5,aU.trs (v9),false⟩,⟨116,3,aM.trs (v10),false⟩,⟨55,12,aG.trs (v11),false⟩,⟨148,16,aK.trs (v12),false⟩]⟩⟩) (fun(v9,v10,v11,v12,v4)=>⟨[(0,.ptr 0 0),(2,.ptr 1 0),(3,.ptr 2 0)],⟨[some ⟨151,dC v4⟩,some ⟨131,[pS s_,.nil,.nil,.nil,.nil,.nil]⟩,some ⟨131,[pS s_p,.lit 1 (aX (([gJ]:List ByteArray))),xQ v9 0,m6 v10 1,m8 v11 2,m7 v12 3]⟩],[⟨60,5,aU.trs (v9),false⟩,⟨116,3,aM.trs (v10),false⟩,⟨55,12,aG.trs (v11),false⟩,⟨148,16,aK.trs (v12),false⟩]⟩⟩) (gW H) ?_ ?_
 ·rintro i3 ⟨v9,v10,v11,v12,v4⟩ H
  iterate 2 refine qS ?_
  refine qR ?_
  iterate 2 refine q1 aF ?_
  refine q1 iQ (qN ?_)
  refine eO H (fun h14 h14l H=>?_) (fun h14 H=>?_)
  ·have h14n:i3<pq0.below 5:=by have:=of_decide_eq_true h14;omega
   refine aO.skip (qS (aO.block (qS (qR (q1 aF (gU H fun d15 h16 H=>(q1 (f6 [0] [] Tryz.func103 (DX h16 (gF v4 4))) (qN (aO.block (qS (qR (q1 eP (q1 aF ?_)))))))))))))
   refine qN ?_;refine bH H (fun h17 H=>?_) (fun h17 H=>?_)
   ·refine fQ H fun x19 x20 z18 H=>(c9 H fun z21 H=>(dW (dI [3] (bC wV) (dB [26] 0 1 (vQ TG) (dI [0] aF (dE [28] (f6 [0] [] Tryz.func167 (Y1 fu d15 _ z18)) (dI [29] (tZ ([x19]:List aU) KW H3) (dE [27,30] (oE z21 KW anT) (dI [3] (bC wV) (m4 [32,31] (b3 anN) (dN (qR (q1 aF ?_)))))))))))))
    refine q1 (aV.addI rfl rfl rfl rfl (c:=((i3+1:Nat):Int)) (by omega) (by omega)) (q1 aF (qN ?_))
    exact j8 h14l ⟨_,(aZ H:),b9⟩
   refine qS (qR (q1 eP (q1 aF (qN ?_))))
   refine bH H (fun h22 H=>?_) (fun h22 H=>?_)
   ·refine fQ H fun x24 x25 z23 H=>(c9 H fun z26 H=>(dW (dI [3] (bC s9) (dB [35] 0 1 (vQ L5) (dI [0] aF (dE [37] (f6 [0] [] Tryz.func168 (acR fu d15 _ z23)) (dI [38] (tZ ([x24]:List aM) D6 DH) (dE [36,39] (oE z26 D6 anU) (dI [3] (bC s9) (m4 [41,40] (b3 anO) (dN (qR (q1 aF ?_)))))))))))))
    refine q1 (aV.addI rfl rfl rfl rfl (c:=((i3+1:Nat):Int)) (by omega) (by omega)) (q1 aF (qN ?_))
    exact j8 h14l ⟨_,(aZ H:),b9⟩
   refine qS (qR (q1 eP (q1 aF (qN ?_))))
   refine bH H (fun h27 H=>?_) (fun h27 H=>?_)
   ·refine fQ H fun x29 x30 z28 H=>(c9 H fun z31 H=>(dW (dI [3] (bC nP) (dB [44] 0 1 (vQ BM) (dI [0] aF (dE [46] (f6 [0] [] Tryz.func169 (acU fu d15 _ z28)) (dI [47] (tZ ([x29]:List aG) xT tX) (dE [45,48] (oE z31 xT anV) (dI [3] (bC nP) (m4 [50,49] (b3 anP) (dN (qR (q1 aF ?_)))))))))))))
    refine q1 (aV.addI rfl rfl rfl rfl (c:=((i3+1:Nat):Int)) (by omega) (by omega)) (q1 aF (qN ?_))
    exact j8 h14l ⟨_,(aZ H:),b9⟩
   refine fQ H fun x33 x34 z32 H=>(c9 H fun z35 H=>(dW (dI [3] (bC wW) (dB [17] 0 1 (vQ TH) (dI [0] aF (dE [19] (f6 [0] [] Tryz.func170 (ajO fu d15 _ z32)) (dI [20] (tZ ([x33]:List aK) KX DI) (dE [18,21] (oE z35 KX anW) (dI [3] (bC wW) (m4 [23,22] (b3 anQ) (dN (qR (q1 aF ?_)))))))))))))
   refine q1 (aV.addI rfl rfl rfl rfl (c:=((i3+1:Nat):Int)) (by omega) (by omega)) (q1 aF (qN ?_))
   exact j8 h14l ⟨_,(aZ H:),b9⟩
  refine aO.exit ?_;exact lP ⟨_,H,b9⟩
 rintro⟨v9,v10,v11,v12,v4⟩ H
 iterate 2 refine qS ?_
 refine qR (q1 aF (gU H fun d36 h37 H=>(q1 (f6 [0] [] Tryz.func103 (DX h37 (gF v4 10))) (qN (aO.block (qS (qR (q1 eP (q1 aF (qN ?_))))))))))
 refine bH H (fun h38 H=>?_) (fun h38 H=>?_)
 ·refine qR (q1 aF (q1 (tZ ([s_,gJ]:List ByteArray) b6 lO) (gU H fun d39 h40 H=>(gU H fun y41 h42 H=>(q1 (f6 [0] [] Tryz.func86 (KO h40 h42 (fT d36 ([s_,gJ]:List ByteArray) (by decide)))) (q1 (bC XK) (q1 (b3 sz9) (qN (qS (qR (q1 (cY [pS y41,.lit 1 (aX (([gJ]:List ByteArray))),xQ v9 0,m6 v10 1,m8 v11 2,m7 v12 3] qB) (q1 (b3 t2) (qN ?_)))))))))))))
  refine aO.ret ?_
  cases aZ H
  exact bR (hr:=⟨⟨_,_,_,rfl,rfl,qB,rfl,rfl⟩,trivial⟩)
 refine qS (qR (q1 eP (q1 aF (qN ?_))))
 refine bH H (fun h43 H=>?_) (fun h43 H=>?_)
 ·refine gU H fun d44 h45 H=>(gU H fun y46 h47 H=>(c9 H fun z48 H=>(dW (dI [3] (bC QR) (dB [61] 0 1 (vQ lI) (dI [0] aF (dI [] (tZ ([gJ,s_q,s_p]:List ByteArray) b6 lO) (dE [63,64] (f6 [0] [] Tryz.func86 (KO h45 h47 (fT d36 ([gJ,s_q,s_p]:List ByteArray) (by decide)))) (dI [65] (tZ ([y46]:List ByteArray) b6 lO) ?_)))))))))
  refine dI [62,66] (aV.appendLit (es1:=aX (([gJ]:List ByteArray))) (es2:=aX (([y46]:List ByteArray))) (es3:=aX (([gJ]:List ByteArray)++([y46]:List ByteArray))) rfl rfl rfl rfl rfl (mX _) (mX _) (by exact List.cons_ne_nil _ _) (by decide) b6 sM (by decide) (by rw [bI,bI];exact zE z48 (by decide)) (u5 _ _)) ?_;refine dI [3] (bC QR) (m4 [68,67] (b3 KN) (dN (qS (qR (q1 (cY [pS s_p,rS (([gJ]:List ByteArray)++([y46]:List ByteArray)),xQ v9 0,m6 v10 1,m8 v11 2,m7 v12 3] qB) (q1 (b3 t2) (qN (aO.ret ?_))))))))
  cases aZ H
  exact bR (hr:=⟨⟨_,_,_,rfl,rfl,qB,rfl,rfl⟩,trivial⟩)
 refine aO.skip (qS (qR (q1 (cY [pS s_p,.lit 1 (aX (([gJ]:List ByteArray))),xQ v9 0,m6 v10 1,m8 v11 2,m7 v12 3] qB) (q1 (b3 t2) (qN (aO.ret ?_))))))
 cases aZ H
 exact bR (hr:=⟨⟨_,_,_,rfl,rfl,qB,rfl,rfl⟩,trivial⟩)
def adB(m:DS→Option (aP×DS)):Prop:= ∀(pc:DS) (r:aP×DS),m pc=some r→cP Tryz.prog 55 [.ptr 0 0] ⟨[some ⟨151,dC pc⟩],[]⟩ (fun q t=>q=((aP.pv r.1):PV)∧t=⟨[some ⟨151,dC r.2⟩],[]⟩)
def E9(fu:Nat)(pc:DS):Option (aP×DS):=
 bd (KE fu pc) (fun(x2,x3)=>
 lt (x3.after 5) (fun d4=>
 sw (decide (x3.below 5=0))
 (bd (OF fu d4) (fun(x8,x9)=>
 gd ((x2.gPackages).length+(([x8]:List aJ)).length≤68719476736)
 (some ((aP.mk (x2.gPackages++([x8]:List aJ))),x9))))
 (some ((aP.mk x2.gPackages),d4))))
theorem ZU(fu:Nat):adB (E9 fu):=by
 intro pc r H
 have H:=fF H
 refine qI Tryz.func55 (fun C hC=>?_)
 refine qS (qR (q1 (iG QO) (qN (qS (qR (q1 aF (fQ H fun x2 x3 z1 H=>(q1 (aV.callOwn (pre:=⟨[some ⟨151,dC pc⟩],[]⟩) (B:= [some ⟨151,dC x3⟩]) (R:=fun k=> .agg [rE x2.gPackages k]) (ps:= [_]) (qs:= [.ptr 0 0]) [0] rfl rfl Tryz.func116 (by kernel_rfl) rfl rfl rfl (l6.of ⟨⟨_,rfl,rfl,lG,rfl⟩,trivial⟩ trivial (by decide) (by decide)) rfl lG rfl rfl rfl (fun k k'=>(.agg (.cons Mv.acc XC.nil))) (adA fu pc _ z1)) (q1 (iG QO) (q1 (b3 QN) (qN ?_)))))))))))
 iterate 2 refine qS ?_
 refine qR (q1 aF (gU H fun d4 h5 H=>(q1 (f6 [0] [] Tryz.func112 (DX h5 (nY x3 5))) (qN ?_))))
 refine bH H (fun h6 H=>?_) (fun h6 H=>?_)
 ·refine fQ H fun x8 x9 z7 H=>(c9 H fun z10 H=>(dW (dI [3] (bC nQ) (dB [8] 0 1 (vQ EV) (dI [0] aF (dE [10] (f6 [0] [] Tryz.func117 (af2 fu d4 _ z7)) (dI [11] (iW ([x8]:List aJ) zY s3) (dE [9,12] (oE z10 zY apU) (dI [3] (bC nQ) (m4 [14,13] (b3 apM) (dN (qS (qR ?_)))))))))))))
  refine q1 (cY [rE (x2.gPackages++([x8]:List aJ)) 0] vK) (q1 (b3 QN) (qN (aO.ret ?_)))
  cases aZ H
  exact bR (hr:=⟨⟨_,_,_,rfl,rfl,vK,rfl,rfl⟩,trivial⟩)
 refine aO.skip (qS (qR (q1 (cY [rE x2.gPackages 0] vK) (q1 (b3 QN) (qN (aO.ret ?_))))))
 cases aZ H
 exact bR (hr:=⟨⟨_,_,_,rfl,rfl,vK,rfl,rfl⟩,trivial⟩)
end
end Go.Proofs.YtpioomclpaiomaaGreat.W

namespace Go.Proofs.YtpioomclpaiomaaGreat.W
set_option maxRecDepth 100000
set_option maxHeartbeats 40000000
noncomputable section
open Go.RowKit Go.Proofs
set_option linter.unusedSimpArgs false
set_option linter.unusedVariables false
attribute [local irreducible] lt
def PZ(m:aP→Option ((List aC))):Prop:= ∀(pw:aP) (r:(List aC)),m pw=some r→cA Tryz.prog 75 [(aP.pv pw)] (cK r:PV)
def qO(fu:Nat)(pw:aP)(i1:Nat)(v3:List aC):((List aC)×Int)→Option (LR ((List aC)×Int) (LR ((List aC)) ((List aC)))):=
 fun(v8,v7)=>lt (bB pw.gPackages i1) (fun y11=>
 sw (decide (v7<(y11.gInstances.length:Int)))
 (gd ((v8).length+(([(aC.mk (i1:Int) v7)]:List aC)).length≤68719476736)
 (some (.next ((v8++([(aC.mk (i1:Int) v7)]:List aC)),(aQ (v7+1))))))
 (some (.brk (v8,v7))))
def BJ(fu:Nat)(pw:aP)(i1:Nat)(v3:List aC):Option ((LR ((List aC)) ((List aC)))⊕((List aC)×Int)):=
 loopW (qO fu pw i1 v3) fu (v3,0)
def uI(fu:Nat)(pw:aP):Nat→((List aC))→Option (LR ((List aC)) ((List aC))):=
 fun i1 v3=>so (BJ fu pw i1 v3) (fun(v8,v7)=>
 some (.next v8))
def BI(fu:Nat)(pw:aP):Option (((List aC))⊕((List aC))):=
 loopN (uI fu pw) (pw.gPackages.length-0) 0 ([])
def rQ(fu:Nat)(pw:aP):Option ((List aC)):=
 so (BI fu pw) (fun v3=>
 some v3)
theorem NJ(fu:Nat):PZ (rQ fu):=by
 intro pw r H
 have H:=fF H
 refine qI Tryz.func75 (fun C hC=>?_)
 refine qS (qR (q1 (kQ ([bZ pw.gPackages])) (q1 aF (qN (qS (qR (q1 (wA ([]:List aC) pP BV) (q1 aF (qN ?_)))))))))
 iterate 2 refine qS ?_
 refine qR (q1 aF (qN ?_))
 refine aO.fact (c3 0 0 rfl rfl rfl (aJ.trs_len _)) (fun hl4=>?_)
 refine cM (σ:=(List aC)) (fun i1 v3=>⟨[(1,.ptr 0 0),(2,.nil),(3,f8 v3 0),(4,pN i1)],⟨[some ⟨26,[bZ pw.gPackages]⟩],[⟨45,2,aC.trs (v3),false⟩]⟩⟩) (fun v3=>⟨[(2,.nil),(3,f8 v3 0)],⟨[some ⟨26,[bZ pw.gPackages]⟩],[⟨45,2,aC.trs (v3),false⟩]⟩⟩) (gW H) ?_ ?_
 ·rintro i1 v3 H
  iterate 2 refine qS ?_
  refine qR (q1 aF (q1 (bC nQ) (q1 (bL EV) (q1 (eR zY (aJ.trs_len _)) (q1 iQ (qN ?_))))))
  refine eO H (fun h5 h5l H=>?_) (fun h5 H=>?_)
  ·have h5n:=bF h5
   refine aO.skip (qS (aO.block (qS (qR (q1 aF (qN ?_))))))
   refine kV 3 (aC.trs_len _) (fun hl10=>?_)
   refine WJ (σ:=(List aC)×Int) (fun(v8,v7)=>⟨[(1,.ptr 0 0),(2,.nil),(3,f8 v8 0),(4,pN i1),(5,pI v7),(7,pN i1),(8,.ptr 0 0),(9,bZ pw.gPackages),(10,pN pw.gPackages.length),(11,pB (decide ((i1:Int)<(pw.gPackages.length:Int))))],⟨[some ⟨26,[bZ pw.gPackages]⟩],[⟨45,2,aC.trs (v8),false⟩]⟩⟩) (fun(v8,v7)=>⟨[(1,.ptr 0 0),(2,.nil),(3,f8 v8 0),(4,pN i1),(5,pI v7),(7,pN i1),(8,.ptr 0 0),(9,bZ pw.gPackages),(10,pN pw.gPackages.length),(11,pB (decide ((i1:Int)<(pw.gPackages.length:Int))))],⟨[some ⟨26,[bZ pw.gPackages]⟩],[⟨45,2,aC.trs (v8),false⟩]⟩⟩) (gW H) ?_ ?_
   ·rintro k9 ⟨v8,v7⟩ H
    iterate 2 refine qS ?_
    refine qR (q1 aF (q1 (bC nQ) (q1 (bL EV) (q1 aF (gU H fun y11 h12 H=>(q1 (yI h12 h5n zY) (q1 (rC nP) (q1 (p9 BM) ?_))))))))
    refine amO 20 (aG.trs_len _) (fun hl13=>?_)
    refine q1 (eR xT (aG.trs_len _)) (q1 iQ (qN ?_))
    refine bH H (fun h14 H=>?_) (fun h14 H=>?_)
    ·refine aO.skip (qS (aO.block (qR ?_)))
     iterate 3 refine q1 aF ?_
     refine q1 (gD BV aeX) (q1 (iW ([(aC.mk (i1:Int) v7)]:List aC) pP BV) (c9 H fun z15 H=>(q1 (oE z15 pP anA) (q1 aF (qN (qR (q1 aF (q1 Q6 (q1 aF (qN ?_))))))))))
     exact lwN ⟨_,(aZ H:),b9⟩
    refine aO.exit ?_;exact lwB ⟨_,(aZ H:),b9⟩
   rintro⟨v8,v7⟩ H
   refine qR (q1 aF (q1 (aV.addI rfl rfl rfl rfl (c:=((i1+1:Nat):Int)) (by omega) (by omega)) (q1 aF (qN ?_))))
   exact j8 h5l ⟨_,(aZ H:),b9⟩
  refine aO.exit ?_;exact lP ⟨_,H,b9⟩
 rintro v3 H
 refine qS (qR ?_)
 iterate 2 refine q1 aF ?_
 refine qN (aO.ret ?_)
 cases aZ H
 exact bR
def PN(m:aP→Option ((List aC))):Prop:= ∀(pw:aP) (r:(List aC)),m pw=some r→cA Tryz.prog 73 [(aP.pv pw)] (cK r:PV)
def A7(fu:Nat)(pw:aP)(i1:Nat)(v3:List aC)(y6:aJ):Nat→((List aC))→Option (LR ((List aC)) (LR ((List aC)) ((List aC)))):=
 fun i9 v11=>gd ((v11).length+(([(aC.mk (i1:Int) (i9:Int))]:List aC)).length≤68719476736)
 (some (.next (v11++([(aC.mk (i1:Int) (i9:Int))]:List aC))))
def A9(fu:Nat)(pw:aP)(i1:Nat)(v3:List aC)(y6:aJ):Option ((LR ((List aC)) ((List aC)))⊕((List aC))):=
 loopN (A7 fu pw i1 v3 y6) (y6.gInstances.length-0) 0 v3
def t7(fu:Nat)(pw:aP):Nat→((List aC))→Option (LR ((List aC)) ((List aC))):=
 fun i1 v3=>lt (bB pw.gPackages i1) (fun y6=>
 so (A9 fu pw i1 v3 y6) (fun v11=>
 some (.next v11)))
def A8(fu:Nat)(pw:aP):Option (((List aC))⊕((List aC))):=
 loopN (t7 fu pw) (pw.gPackages.length-0) 0 ([])
def rP(fu:Nat)(pw:aP):Option ((List aC)):=
 so (A8 fu pw) (fun v3=>
 some v3)
theorem aiW(fu:Nat):PN (rP fu):=by
 intro pw r H
 have H:=fF H
 refine qI Tryz.func73 (fun C hC=>?_)
 refine qS (qR (q1 (kQ ([bZ pw.gPackages])) (q1 aF (qN (qS (qR (q1 (wA ([]:List aC) pP BV) (q1 aF (qN ?_)))))))))
 iterate 2 refine qS ?_
 refine qR (q1 (bC nQ) (q1 (bL EV) (q1 (eR zY (aJ.trs_len _)) (q1 aF (qN ?_)))))
 refine kV 9 (aJ.trs_len _) (fun hl4=>?_)
 refine cM (σ:=(List aC)) (fun i1 v3=>⟨[(2,.nil),(3,f8 v3 0),(9,bZ pw.gPackages),(10,pN pw.gPackages.length),(11,pN i1)],⟨[some ⟨26,[bZ pw.gPackages]⟩],[⟨45,2,aC.trs (v3),false⟩]⟩⟩) (fun v3=>⟨[(2,.nil),(3,f8 v3 0)],⟨[some ⟨26,[bZ pw.gPackages]⟩],[⟨45,2,aC.trs (v3),false⟩]⟩⟩) (gW H) ?_ ?_
 ·rintro i1 v3 H
  refine qS (qR (q1 iQ (qN (qS ?_))))
  refine eO H (fun h5 h5l H=>?_) (fun h5 H=>?_)
  ·have h5n:=bF h5
   refine aO.skip (qS (aO.block (qS (qR (q1 aF (gU H fun y6 h7 H=>(q1 (yI h7 h5n zY) (q1 (lB (aJ.cs y6) qB) (q1 (iG s3) (q1 aF (q1 (b3 t2) (qN (qS ?_)))))))))))))
   refine qR (q1 (bC nP) (q1 (bL BM) ?_))
   refine amO 17 (aG.trs_len _) (fun hl8=>?_)
   refine q1 (eR xT (aG.trs_len _)) (q1 aF (qN ?_))
   refine cM (σ:=(List aC)) (fun i9 v11=>⟨[(2,.nil),(3,f8 v11 0),(4,pN i1),(5,.ptr 1 0),(9,bZ pw.gPackages),(10,pN pw.gPackages.length),(11,pN i1),(12,pB (decide ((i1:Int)<(pw.gPackages.length:Int)))),(13,pN i1),(14,.eptr (aJ.cs y6)),(15,(aJ.pv y6)),(16,.ptr 1 4),(17,nH y6.gInstances),(18,pN y6.gInstances.length),(19,pN i9)],⟨[some ⟨26,[bZ pw.gPackages]⟩,some ⟨131,gG y6⟩],[⟨45,2,aC.trs (v11),false⟩]⟩⟩) (fun v11=>⟨[(2,.nil),(3,f8 v11 0),(4,pN i1),(5,.ptr 1 0),(9,bZ pw.gPackages),(10,pN pw.gPackages.length),(11,pN i1),(12,pB (decide ((i1:Int)<(pw.gPackages.length:Int)))),(13,pN i1),(14,.eptr (aJ.cs y6)),(15,(aJ.pv y6)),(16,.ptr 1 4),(17,nH y6.gInstances),(18,pN y6.gInstances.length)],⟨[some ⟨26,[bZ pw.gPackages]⟩,some ⟨131,gG y6⟩],[⟨45,2,aC.trs (v11),false⟩]⟩⟩) (gW H) ?_ ?_
   ·rintro i9 v11 H
    refine qS (qR (q1 iQ (qN (qS ?_))))
    refine eO H (fun h12 h12l H=>?_) (fun h12 H=>?_)
    ·have h12n:=bF h12
     refine aO.skip (qS (aO.block (qS (qR ?_))))
     iterate 2 refine q1 aF ?_
     refine qN (qR ?_)
     iterate 3 refine q1 aF ?_
     refine q1 (gD BV aeX) (q1 (iW ([(aC.mk (i1:Int) (i9:Int))]:List aC) pP BV) (c9 H fun z13 H=>(q1 (oE z13 pP anA) (q1 aF (qN (qR (q1 (aV.addI rfl rfl rfl rfl (c:=((i9+1:Nat):Int)) (by omega) (by omega)) (q1 aF (qN ?_)))))))))
     exact j8 h12l ⟨_,(aZ H:),b9⟩
    refine aO.exit ?_;exact lP ⟨_,H,b9⟩
   rintro v11 H
   refine qR (q1 (aV.addI rfl rfl rfl rfl (c:=((i1+1:Nat):Int)) (by omega) (by omega)) (q1 aF (qN ?_)))
   exact j8 h5l ⟨_,(aZ H:),b9⟩
  refine aO.exit ?_;exact lP ⟨_,H,b9⟩
 rintro v3 H
 refine qS (qR ?_)
 iterate 2 refine q1 aF ?_
 refine qN (aO.ret ?_)
 cases aZ H
 exact bR
theorem LH(fu:Nat)(pw:aP)(r:(List aC))(H:rP fu pw=some r):amB Tryz.prog 73 [(aP.pv pw)] 45 2 (aC.trs (r)) none:=by
 unfold amB
 have H:=fF H
 refine qI Tryz.func73 (fun C hC=>?_)
 refine qS ?_;refine qR ?_;refine q1 (kQ ([bZ pw.gPackages])) ?_;refine q1 aF ?_;refine qN ?_;refine qS ?_;refine qR ?_;refine q1 (wA ([]:List aC) pP BV) ?_;refine q1 aF ?_;refine qN ?_;refine qS ?_;refine qS ?_;refine qR ?_;refine q1 (bC nQ) ?_;refine q1 (bL EV) ?_;refine q1 (eR zY (aJ.trs_len _)) ?_;refine q1 aF ?_;refine qN ?_;refine kV 9 (aJ.trs_len _) (fun hl4=>?_)
 refine cM (σ:=(List aC)) (fun i1 v3=>⟨[(2,.nil),(3,f8 v3 0),(9,bZ pw.gPackages),(10,pN pw.gPackages.length),(11,pN i1)],⟨[some ⟨26,[bZ pw.gPackages]⟩],[⟨45,2,aC.trs (v3),false⟩]⟩⟩) (fun v3=>⟨[(2,.nil),(3,f8 v3 0)],⟨[some ⟨26,[bZ pw.gPackages]⟩],[⟨45,2,aC.trs (v3),false⟩]⟩⟩) (gW H) ?_ ?_
 ·rintro i1 v3 H
  refine qS ?_;refine qR ?_;refine q1 iQ ?_;refine qN ?_;refine qS ?_;refine eO H (fun h5 h5l H=>?_) (fun h5 H=>?_)
  ·have h5n:=bF h5
   refine aO.skip ?_;refine qS ?_;refine aO.block ?_;refine qS ?_;refine qR ?_;refine q1 aF ?_;refine gU H fun y6 h7 H=>?_;refine q1 (yI h7 h5n zY) ?_;refine q1 (lB (aJ.cs y6) qB) ?_;refine q1 (iG s3) ?_;refine q1 aF ?_;refine q1 (b3 t2) ?_;refine qN ?_;refine qS ?_;refine qR ?_;refine q1 (bC nP) ?_;refine q1 (bL BM) ?_;refine amO 17 (aG.trs_len _) (fun hl8=>?_)
   refine q1 (eR xT (aG.trs_len _)) ?_;refine q1 aF ?_;refine qN ?_;refine cM (σ:=(List aC)) (fun i9 v11=>⟨[(2,.nil),(3,f8 v11 0),(4,pN i1),(5,.ptr 1 0),(9,bZ pw.gPackages),(10,pN pw.gPackages.length),(11,pN i1),(12,pB (decide ((i1:Int)<(pw.gPackages.length:Int)))),(13,pN i1),(14,.eptr (aJ.cs y6)),(15,(aJ.pv y6)),(16,.ptr 1 4),(17,nH y6.gInstances),(18,pN y6.gInstances.length),(19,pN i9)],⟨[some ⟨26,[bZ pw.gPackages]⟩,some ⟨131,gG y6⟩],[⟨45,2,aC.trs (v11),false⟩]⟩⟩) (fun v11=>⟨[(2,.nil),(3,f8 v11 0),(4,pN i1),(5,.ptr 1 0),(9,bZ pw.gPackages),(10,pN pw.gPackages.length),(11,pN i1),(12,pB (decide ((i1:Int)<(pw.gPackages.length:Int)))),(13,pN i1),(14,.eptr (aJ.cs y6)),(15,(aJ.pv y6)),(16,.ptr 1 4),(17,nH y6.gInstances),(18,pN y6.gInstances.length)],⟨[some ⟨26,[bZ pw.gPackages]⟩,some ⟨131,gG y6⟩],[⟨45,2,aC.trs (v11),false⟩]⟩⟩) (gW H) ?_ ?_
   ·rintro i9 v11 H
    refine qS ?_;refine qR ?_;refine q1 iQ ?_;refine qN ?_;refine qS ?_;refine eO H (fun h12 h12l H=>?_) (fun h12 H=>?_)
    ·have h12n:=bF h12
     refine aO.skip ?_;refine qS ?_;refine aO.block ?_;refine qS ?_;refine qR ?_;refine q1 aF ?_;refine q1 aF ?_;refine qN ?_;refine qR ?_;refine q1 aF ?_;refine q1 aF ?_;refine q1 aF ?_;refine q1 (gD BV aeX) ?_;refine q1 (iW ([(aC.mk (i1:Int) (i9:Int))]:List aC) pP BV) ?_;refine c9 H fun z13 H=>?_;refine q1 (oE z13 pP anA) ?_;refine q1 aF ?_;refine qN ?_;refine qR ?_;refine q1 (aV.addI rfl rfl rfl rfl (c:=((i9+1:Nat):Int)) (by omega) (by omega)) ?_;refine q1 aF ?_;refine qN ?_;exact j8 h12l ⟨_,(aZ H:),b9⟩
    refine aO.exit ?_;exact lP ⟨_,H,b9⟩
   rintro v11 H
   refine qR ?_;refine q1 (aV.addI rfl rfl rfl rfl (c:=((i1+1:Nat):Int)) (by omega) (by omega)) ?_;refine q1 aF ?_;refine qN ?_;exact j8 h5l ⟨_,(aZ H:),b9⟩
  refine aO.exit ?_;exact lP ⟨_,H,b9⟩
 rintro v3 H
 refine qS ?_;refine qR ?_;refine q1 aF ?_;refine q1 aF ?_;refine qN ?_;refine aO.ret ?_
 obtain rfl:_=r:=(aZ H:)
 exact zU.mk (ps:= [_]) (by first|exact .inr rfl|exact .inl rfl) ⟨rfl,trivial⟩ rfl (oF.mk' (st':=⟨[],[⟨45,2,aC.trs (v3),false⟩]⟩) trivial (by first|rfl|simp)) ⟨fun k x h=>by simp [hC] at h,fun r row h=>by simp [hC] at h⟩ (q:= .acc 2 (aC.trs (v3)) 0) lG rfl ⟨0,rfl,rfl⟩
def aa6(m:aP→aC→Option (aG×Bool)):Prop:= ∀(pw:aP) (po:aC) (r:aG×Bool),m pw po=some r→cA Tryz.prog 81 [(aP.pv pw),(aC.pv po)] (.tup [(aG.pv r.1),pB r.2]:PV)
def sP(fu:Nat)(pw:aP)(po:aC):Option (aG×Bool):=
 sw (decide (po.gPackage<0))
 (some ((aG.mk s_ [] (aA.mk 0 s_ []) [] false false (aA.mk 0 s_ []) []),false))
 (sw (decide (po.gPackage≥(pw.gPackages.length:Int)))
 (some ((aG.mk s_ [] (aA.mk 0 s_ []) [] false false (aA.mk 0 s_ []) []),false))
 (sw (decide (po.gAt<0))
 (some ((aG.mk s_ [] (aA.mk 0 s_ []) [] false false (aA.mk 0 s_ []) []),false))
 (gd (0≤po.gPackage∧(po.gPackage).toNat<(pw.gPackages).length)
 (lt (bB pw.gPackages ((po.gPackage).toNat)) (fun y5=>
 sw (decide (po.gAt≥(y5.gInstances.length:Int)))
 (some ((aG.mk s_ [] (aA.mk 0 s_ []) [] false false (aA.mk 0 s_ []) []),false))
 (gd (0≤po.gAt∧(po.gAt).toNat<(y5.gInstances).length)
 (lt (bB y5.gInstances ((po.gAt).toNat)) (fun y9=>
 some (y9,true)))))))))
theorem w5(fu:Nat):aa6 (sP fu):=by
 intro pw po r H
 have H:=fF H
 refine qI Tryz.func81 (fun C hC=>?_)
 refine qS (qR (q1 (kQ ([bZ pw.gPackages])) (q1 (kQ ([pI po.gPackage,pI po.gAt])) (q1 (iG tX) (q1 aF (qN ?_))))))
 iterate 2 refine qS ?_
 rcases nN (decide (po.gPackage<0)) with g1|g1
 ·have H:=qZ H g1
  refine dW (dI [3] (bC vS) (dD [6] (bL kZ) (dI [7] iQ (dI [8] aF ?_))))
  iterate 6 refine H8 g1 ?_
  refine dI [9] (b0 g1) (dI [16] aF ?_)
  iterate 3 refine H8 rfl ?_
  refine dI [17] (b0 rfl) (dI [21] aF ?_)
  iterate 11 refine H8 rfl ?_
  refine dI [22] (b0 rfl) (dN (eM rfl (qS (qR (q1 (gD tX U8) (q1 (b3 s4) (q1 aF (qN (aO.ret ?_)))))))))
  cases aZ H
  exact lW (hr:=⟨⟨_,_,_,rfl,rfl,pD,rfl,rfl⟩,rfl,trivial⟩)
 have H:=qY H g1
 rcases nN (decide (po.gPackage≥(pw.gPackages.length:Int))) with g2|g2
 ·have H:=qZ H g2
  refine dW (dI [3] (bC vS) (dD [6] (bL kZ) (dI [7] iQ (dI [8] aF (dI (hg:=bE g1) [3] (bC vS) (dD (hg:=bE g1) [10] (bL kZ) (dI (hg:=bE g1) [2] (bC nQ) (dD (hg:=bE g1) [12] (bL EV) (dI (hg:=bE g1) [13] (eR zY (aJ.trs_len _)) (dI (hg:=bE g1) [11,14] UH (dI [9,15] (cC g1) (dI [16] aF ?_))))))))))))
  iterate 3 refine H8 g2 ?_
  refine dI [17] (b0 g2) (dI [21] aF ?_)
  iterate 11 refine H8 rfl ?_
  refine dI [22] (b0 rfl) (dN (eM rfl (qS (qR (q1 (gD tX U8) (q1 (b3 s4) (q1 aF (qN (aO.ret ?_)))))))))
  cases aZ H
  exact lW (hr:=⟨⟨_,_,_,rfl,rfl,pD,rfl,rfl⟩,rfl,trivial⟩)
 have H:=qY H g2
 rcases nN (decide (po.gAt<0)) with g3|g3
 ·have H:=qZ H g3
  refine dW (dI [3] (bC vS) (dD [6] (bL kZ) (dI [7] iQ (dI [8] aF (dI (hg:=bE g1) [3] (bC vS) (dD (hg:=bE g1) [10] (bL kZ) (dI (hg:=bE g1) [2] (bC nQ) (dD (hg:=bE g1) [12] (bL EV) (dI (hg:=bE g1) [13] (eR zY (aJ.trs_len _)) (dI (hg:=bE g1) [11,14] UH (dI [9,15] (cC g1) (dI [16] aF (dI (hg:=bE g2) [3] (bC I4) ?_)))))))))))))
  refine dD (hg:=bE g2) [18] (bL kZ) (dI (hg:=bE g2) [19] iQ (dI [17,20] (cC g2) (dI [21] aF ?_)))
  iterate 11 refine H8 g3 ?_
  refine dI [22] (b0 g3) (dN (eM rfl (qS (qR (q1 (gD tX U8) (q1 (b3 s4) (q1 aF (qN (aO.ret ?_)))))))))
  cases aZ H
  exact lW (hr:=⟨⟨_,_,_,rfl,rfl,pD,rfl,rfl⟩,rfl,trivial⟩)
 have H:=qY H g3
 refine c9 H fun z4 H=>(gU H fun y5 h6 H=>(dW (dI [3] (bC vS) (dD [6] (bL kZ) (dI [7] iQ (dI [8] aF (dI (hg:=bE g1) [3] (bC vS) (dD (hg:=bE g1) [10] (bL kZ) (dI (hg:=bE g1) [2] (bC nQ) (dD (hg:=bE g1) [12] (bL EV) (dI (hg:=bE g1) [13] (eR zY (aJ.trs_len _)) (dI (hg:=bE g1) [11,14] UH (dI [9,15] (cC g1) ?_)))))))))))))
 refine dI [16] aF (dI (hg:=bE g2) [3] (bC I4) (dD (hg:=bE g2) [18] (bL kZ) (dI (hg:=bE g2) [19] iQ (dI [17,20] (cC g2) (dI [21] aF (dI (hg:=bE g3) [3] (bC I4) (dD (hg:=bE g3) [23] (bL kZ) (dI (hg:=bE g3) [2] (bC nQ) (dD (hg:=bE g3) [25] (bL EV) (dI (hg:=bE g3) [3] (bC vS) (dD (hg:=bE g3) [27] (bL kZ) (dI (hg:=bE g3) [26,28] (rIm h6 z4 zY) (dI (hg:=bE g3) [29] (rC nP) ?_)))))))))))))
 refine dI (hg:=bE g3) [30] (p9 BM) (dI (hg:=bE g3) [31] (eR xT (aG.trs_len _)) (dI (hg:=bE g3) [24,32] UH (dI [22,33] (cC g3) (dN ?_))))
 refine bH H (fun h7 H=>?_) (fun h7 H=>?_)
 ·refine qS (qR (q1 (gD tX U8) (q1 (b3 s4) (q1 aF (qN (aO.ret ?_))))))
  cases aZ H
  exact lW (hr:=⟨⟨_,_,_,rfl,rfl,pD,rfl,rfl⟩,rfl,trivial⟩)
 refine aO.skip (qS (c9 H fun z8 H=>(gU H fun y9 h10 H=>(dW (dI [2] (bC nQ) (dD [36] (bL EV) (dI [3] (bC vS) (dD [38] (bL kZ) (dI [37,39] (rIm h6 z4 zY) (dI [40] (rC nP) (dI [41] (p9 BM) (dI [3] (bC I4) (dD [43] (bL kZ) ?_)))))))))))))
 refine dI [42,44] (rIm h10 z8 xT) (dI [45] (lB (aG.cs y9) pD) (m4 [4,46] (b3 s4) (dI [] aF (dN (aO.ret ?_)))))
 cases aZ H
 exact lW (hr:=⟨⟨_,_,_,rfl,rfl,pD,rfl,rfl⟩,rfl,trivial⟩)
def X5(m:(List aC)→(List aC)→Option Bool):Prop:= ∀(pa:List aC) (pb:List aC) (r:Bool),m pa pb=some r→cA Tryz.prog 19 [cK pa,cK pb] (pB r:PV)
def AF(fu:Nat)(pa pb:List aC):Nat→Unit→Option (LR Unit Bool):=
 fun i2 _=>gd (i2<(pb).length)
 (sw (!(decide (((bB pa i2).gPackage:Int)=(bB pb i2).gPackage)&&decide (((bB pa i2).gAt:Int)=(bB pb i2).gAt)))
 (some (.ret false))
 (some (.next ())))
def IC(fu:Nat)(pa pb:List aC):Option (Bool⊕Unit):=
 loopN (AF fu pa pb) (pa.length-0) 0 ()
def w7(fu:Nat)(pa pb:List aC):Option Bool:=
 sw (!decide ((pa.length:Int)=(pb.length:Int)))
 (some false)
 (so (IC fu pa pb) (fun _=>
 some true))
theorem U6(fu:Nat):X5 (w7 fu):=by
 intro pa pb r H
 have H:=fF H
 refine qI Tryz.func19 (fun C hC=>?_)
 refine qS (qR (q1 aF (qN ?_)))
 iterate 2 refine qS ?_
 refine qR (q1 aF (q1 (eR pP (aC.trs_len _)) (q1 aF (q1 (eR pP (aC.trs_len _)) (q1 MJ (qN ?_))))))
 refine bH H (fun h1 H=>?_) (fun h1 H=>?_)
 ·refine qS (qR (q1 aF (qN (aO.ret ?_))))
  cases aZ H
  exact bR
 refine aO.skip ?_
 iterate 2 refine qS ?_
 refine qR (q1 aF (qN ?_))
 refine kV 0 (aC.trs_len _) (fun hl3=>?_)
 refine cM (σ:=Unit) (fun i2 _=>⟨[(0,cK pa),(1,cK pb),(4,pB false),(5,pN i2)],⟨[],[]⟩⟩) (fun _=>⟨[(4,pB false)],⟨[],[]⟩⟩) (gW H) ?_ ?_
 ·rintro i2 ⟨⟩ H
  iterate 2 refine qS ?_
  refine qR ?_
  iterate 2 refine q1 aF ?_
  refine q1 (eR pP (aC.trs_len _)) (q1 iQ (qN ?_))
  refine eO H (fun h4 h4l H=>?_) (fun h4 H=>?_)
  ·have h4n:=bF h4
   refine aO.skip (qS (aO.block (qS (c9 H fun z5 H=>(dW (dI [0] aF (dI [5] aF (dI [17,18] (jH h4n pP) (dI [19] (lB (aC.cs (bB pa i2)) xC) (dI [1] aF (dI [5] aF (dI [21,22] (jH z5 pP) (dI [23] (lB (aC.cs (bB pb i2)) xC) ?_)))))))))))))
   refine dI [20,24] (aV.neqP rfl rfl rfl rfl akX akY) (dN ?_)
   refine bH H (fun h6 H=>?_) (fun h6 H=>?_)
   ·refine qS (qR (q1 aF (qN (aO.ret ?_))))
    obtain rfl:_=r:=(rK (aZ H):)
    exact bR
   refine aO.skip (qR (q1 aF (q1 (aV.addI rfl rfl rfl rfl (c:=((i2+1:Nat):Int)) (by omega) (by omega)) (q1 aF (qN ?_)))))
   exact j8 h4l ⟨_,(aZ H:),b9⟩
  refine aO.exit ?_;exact lP ⟨_,H,b9⟩
 rintro⟨⟩ H
 refine qS (qR (q1 aF (qN (aO.ret ?_))))
 cases aZ H
 exact bR
def aoB(m:(List UInt8)→Option Bool):Prop:= ∀(pcode:List UInt8) (r:Bool),m pcode=some r→cA Tryz.prog 10 [rU pcode] (pB r:PV)
def aeR(fu:Nat)(pcode:List UInt8):Option Bool:=
 some (decide ((pcode.length:Int)>1048576))
theorem amN(fu:Nat):aoB (aeR fu):=by
 intro pcode r H
 have H:=fF H
 refine qI Tryz.func10 (fun C hC=>?_)
 refine qS (qR (q1 aF (qN (qS (qR (q1 aF (q1 (eR aa0 (hQ _)) (q1 MI (q1 aF (qN (aO.ret ?_)))))))))))
 cases aZ H
 exact bR
end
end Go.Proofs.YtpioomclpaiomaaGreat.W

namespace Go.Proofs.YtpioomclpaiomaaGreat
set_option linter.unusedSimpArgs false
set_option linter.unusedVariables false
open Go.RowKit
theorem jC: ∀(a b:List Tr),Tr.bulkL (a++b)=Tr.bulkL a+Tr.bulkL b
 | [],b=>by simp [Tr.bulkL]
 |t::a,b=>by simp [Tr.bulkL,jC a b,Nat.add_assoc]
theorem am5:Tr.bulkAll (aX [])=0:=rfl
theorem al2(a:ByteArray)(l:List ByteArray):Tr.bulkAll (aX (a::l))=a.size+Tr.bulkAll (aX l):=by simp [aX,Tr.bulkAll,Tr.bulkL,Tr.bulk]
theorem aA.bk_mk(v0:Int)(v1:ByteArray)(v2:List aA):Tr.bulkL (aA.tr (.mk v0 v1 v2))=v1.size+(v2.length+Tr.bulkAll (aA.trs v2)):=by
 simp only [aA.tr,jC,Tr.bulkL,Tr.bulk,bI,gZ,fX,aA.trs_len]
 first|done|omega
theorem aA.bks_nil:Tr.bulkAll (aA.trs [])=0:=by simp [aA.trs_map,Tr.bulkAll]
theorem aA.bks_cons(a:aA)(l:List aA):Tr.bulkAll (aA.trs (a::l))=Tr.bulkL (aA.tr a)+Tr.bulkAll (aA.trs l):=by simp [aA.trs_map,Tr.bulkAll]
theorem aH.bk_mk(v0:Int)(v1:ByteArray)(v2:ByteArray)(v3:Int)(v4:aA)(v5:List aH)(v6:List bM):Tr.bulkL (aH.tr (.mk v0 v1 v2 v3 v4 v5 v6))=v1.size+v2.size+Tr.bulkL (aA.tr v4)+(v5.length+Tr.bulkAll (aH.trs v5))+(v6.length+Tr.bulkAll (bM.trs v6)):=by
 simp only [aH.tr,jC,Tr.bulkL,Tr.bulk,bI,gZ,fX,aH.trs_len,bM.trs_len]
 first|done|omega
theorem aH.bks_nil:Tr.bulkAll (aH.trs [])=0:=by simp [aH.trs_map,Tr.bulkAll]
theorem aH.bks_cons(a:aH)(l:List aH):Tr.bulkAll (aH.trs (a::l))=Tr.bulkL (aH.tr a)+Tr.bulkAll (aH.trs l):=by simp [aH.trs_map,Tr.bulkAll]
theorem bM.bk_mk(v0:ByteArray)(v1:List ByteArray)(v2:aH):Tr.bulkL (bM.tr (.mk v0 v1 v2))=v0.size+(v1.length+Tr.bulkAll (aX v1))+Tr.bulkL (aH.tr v2):=by
 simp only [bM.tr,jC,Tr.bulkL,Tr.bulk,bI,gZ,fX]
 first|done|omega
theorem bM.bks_nil:Tr.bulkAll (bM.trs [])=0:=by simp [bM.trs_map,Tr.bulkAll]
theorem bM.bks_cons(a:bM)(l:List bM):Tr.bulkAll (bM.trs (a::l))=Tr.bulkL (bM.tr a)+Tr.bulkAll (bM.trs l):=by simp [bM.trs_map,Tr.bulkAll]
theorem aI.bk_mk(v0:ByteArray)(v1:aA):Tr.bulkL (aI.tr (.mk v0 v1))=v0.size+Tr.bulkL (aA.tr v1):=by
 simp only [aI.tr,jC,Tr.bulkL,Tr.bulk,bI,gZ,fX]
 first|done|omega
theorem aI.bks_nil:Tr.bulkAll (aI.trs [])=0:=by simp [aI.trs_map,Tr.bulkAll]
theorem aI.bks_cons(a:aI)(l:List aI):Tr.bulkAll (aI.trs (a::l))=Tr.bulkL (aI.tr a)+Tr.bulkAll (aI.trs l):=by simp [aI.trs_map,Tr.bulkAll]
theorem aR.bk_mk(v0:ByteArray)(v1:aA):Tr.bulkL (aR.tr (.mk v0 v1))=v0.size+Tr.bulkL (aA.tr v1):=by
 simp only [aR.tr,jC,Tr.bulkL,Tr.bulk,bI,gZ,fX]
 first|done|omega
theorem aR.bks_nil:Tr.bulkAll (aR.trs [])=0:=by simp [aR.trs_map,Tr.bulkAll]
theorem aR.bks_cons(a:aR)(l:List aR):Tr.bulkAll (aR.trs (a::l))=Tr.bulkL (aR.tr a)+Tr.bulkAll (aR.trs l):=by simp [aR.trs_map,Tr.bulkAll]
theorem aN.bk_mk(v0:ByteArray)(v1:List ByteArray)(v2:aH):Tr.bulkL (aN.tr (.mk v0 v1 v2))=v0.size+(v1.length+Tr.bulkAll (aX v1))+Tr.bulkL (aH.tr v2):=by
 simp only [aN.tr,jC,Tr.bulkL,Tr.bulk,bI,gZ,fX]
 first|done|omega
theorem aN.bks_nil:Tr.bulkAll (aN.trs [])=0:=by simp [aN.trs_map,Tr.bulkAll]
theorem aN.bks_cons(a:aN)(l:List aN):Tr.bulkAll (aN.trs (a::l))=Tr.bulkL (aN.tr a)+Tr.bulkAll (aN.trs l):=by simp [aN.trs_map,Tr.bulkAll]
theorem aD.bk_mk(v0:ByteArray)(v1:List aA):Tr.bulkL (aD.tr (.mk v0 v1))=v0.size+(v1.length+Tr.bulkAll (aA.trs v1)):=by
 simp only [aD.tr,jC,Tr.bulkL,Tr.bulk,bI,gZ,fX,aA.trs_len]
 first|done|omega
theorem aD.bks_nil:Tr.bulkAll (aD.trs [])=0:=by simp [aD.trs_map,Tr.bulkAll]
theorem aD.bks_cons(a:aD)(l:List aD):Tr.bulkAll (aD.trs (a::l))=Tr.bulkL (aD.tr a)+Tr.bulkAll (aD.trs l):=by simp [aD.trs_map,Tr.bulkAll]
theorem aE.bk_mk(v0:ByteArray)(v1:List aA)(v2:aA)(v3:Bool)(v4:List ByteArray)(v5:aH):Tr.bulkL (aE.tr (.mk v0 v1 v2 v3 v4 v5))=v0.size+(v1.length+Tr.bulkAll (aA.trs v1))+Tr.bulkL (aA.tr v2)+(v4.length+Tr.bulkAll (aX v4))+Tr.bulkL (aH.tr v5):=by
 simp only [aE.tr,jC,Tr.bulkL,Tr.bulk,bI,gZ,fX,aA.trs_len]
 first|done|omega
theorem aE.bks_nil:Tr.bulkAll (aE.trs [])=0:=by simp [aE.trs_map,Tr.bulkAll]
theorem aE.bks_cons(a:aE)(l:List aE):Tr.bulkAll (aE.trs (a::l))=Tr.bulkL (aE.tr a)+Tr.bulkAll (aE.trs l):=by simp [aE.trs_map,Tr.bulkAll]
theorem aU.bk_mk(v0:ByteArray)(v1:List ByteArray)(v2:Bool)(v3:Bool)(v4:List aE):Tr.bulkL (aU.tr (.mk v0 v1 v2 v3 v4))=v0.size+(v1.length+Tr.bulkAll (aX v1))+(v4.length+Tr.bulkAll (aE.trs v4)):=by
 simp only [aU.tr,jC,Tr.bulkL,Tr.bulk,bI,gZ,fX,aE.trs_len]
 first|done|omega
theorem aU.bks_nil:Tr.bulkAll (aU.trs [])=0:=by simp [aU.trs_map,Tr.bulkAll]
theorem aU.bks_cons(a:aU)(l:List aU):Tr.bulkAll (aU.trs (a::l))=Tr.bulkL (aU.tr a)+Tr.bulkAll (aU.trs l):=by simp [aU.trs_map,Tr.bulkAll]
theorem aM.bk_mk(v0:ByteArray)(v1:List ByteArray)(v2:List aD):Tr.bulkL (aM.tr (.mk v0 v1 v2))=v0.size+(v1.length+Tr.bulkAll (aX v1))+(v2.length+Tr.bulkAll (aD.trs v2)):=by
 simp only [aM.tr,jC,Tr.bulkL,Tr.bulk,bI,gZ,fX,aD.trs_len]
 first|done|omega
theorem aM.bks_nil:Tr.bulkAll (aM.trs [])=0:=by simp [aM.trs_map,Tr.bulkAll]
theorem aM.bks_cons(a:aM)(l:List aM):Tr.bulkAll (aM.trs (a::l))=Tr.bulkL (aM.tr a)+Tr.bulkAll (aM.trs l):=by simp [aM.trs_map,Tr.bulkAll]
theorem aG.bk_mk(v0:ByteArray)(v1:List ByteArray)(v2:aA)(v3:List aI)(v4:Bool)(v5:Bool)(v6:aA)(v7:List aN):Tr.bulkL (aG.tr (.mk v0 v1 v2 v3 v4 v5 v6 v7))=v0.size+(v1.length+Tr.bulkAll (aX v1))+Tr.bulkL (aA.tr v2)+(v3.length+Tr.bulkAll (aI.trs v3))+Tr.bulkL (aA.tr v6)+(v7.length+Tr.bulkAll (aN.trs v7)):=by
 simp only [aG.tr,jC,Tr.bulkL,Tr.bulk,bI,gZ,fX,aI.trs_len,aN.trs_len]
 first|done|omega
theorem aG.bks_nil:Tr.bulkAll (aG.trs [])=0:=by simp [aG.trs_map,Tr.bulkAll]
theorem aG.bks_cons(a:aG)(l:List aG):Tr.bulkAll (aG.trs (a::l))=Tr.bulkL (aG.tr a)+Tr.bulkAll (aG.trs l):=by simp [aG.trs_map,Tr.bulkAll]
theorem aK.bk_mk(v0:ByteArray)(v1:List ByteArray)(v2:List aI)(v3:List aR)(v4:aA)(v5:aH):Tr.bulkL (aK.tr (.mk v0 v1 v2 v3 v4 v5))=v0.size+(v1.length+Tr.bulkAll (aX v1))+(v2.length+Tr.bulkAll (aI.trs v2))+(v3.length+Tr.bulkAll (aR.trs v3))+Tr.bulkL (aA.tr v4)+Tr.bulkL (aH.tr v5):=by
 simp only [aK.tr,jC,Tr.bulkL,Tr.bulk,bI,gZ,fX,aI.trs_len,aR.trs_len]
 first|done|omega
theorem aK.bks_nil:Tr.bulkAll (aK.trs [])=0:=by simp [aK.trs_map,Tr.bulkAll]
theorem aK.bks_cons(a:aK)(l:List aK):Tr.bulkAll (aK.trs (a::l))=Tr.bulkL (aK.tr a)+Tr.bulkAll (aK.trs l):=by simp [aK.trs_map,Tr.bulkAll]
theorem aJ.bk_mk(v0:ByteArray)(v1:List ByteArray)(v2:List aU)(v3:List aM)(v4:List aG)(v5:List aK):Tr.bulkL (aJ.tr (.mk v0 v1 v2 v3 v4 v5))=v0.size+(v1.length+Tr.bulkAll (aX v1))+(v2.length+Tr.bulkAll (aU.trs v2))+(v3.length+Tr.bulkAll (aM.trs v3))+(v4.length+Tr.bulkAll (aG.trs v4))+(v5.length+Tr.bulkAll (aK.trs v5)):=by
 simp only [aJ.tr,jC,Tr.bulkL,Tr.bulk,bI,gZ,fX,aU.trs_len,aM.trs_len,aG.trs_len,aK.trs_len]
 first|done|omega
theorem aJ.bks_nil:Tr.bulkAll (aJ.trs [])=0:=by simp [aJ.trs_map,Tr.bulkAll]
theorem aJ.bks_cons(a:aJ)(l:List aJ):Tr.bulkAll (aJ.trs (a::l))=Tr.bulkL (aJ.tr a)+Tr.bulkAll (aJ.trs l):=by simp [aJ.trs_map,Tr.bulkAll]
theorem aP.bk_mk(v0:List aJ):Tr.bulkL (aP.tr (.mk v0))=(v0.length+Tr.bulkAll (aJ.trs v0)):=by
 simp only [aP.tr,jC,Tr.bulkL,Tr.bulk,bI,gZ,fX,aJ.trs_len]
 first|done|omega
theorem aB.bk_mk(v0:ByteArray)(v1:List aB):Tr.bulkL (aB.tr (.mk v0 v1))=v0.size+(v1.length+Tr.bulkAll (aB.trs v1)):=by
 simp only [aB.tr,jC,Tr.bulkL,Tr.bulk,bI,gZ,fX,aB.trs_len]
 first|done|omega
theorem aB.bks_nil:Tr.bulkAll (aB.trs [])=0:=by simp [aB.trs_map,Tr.bulkAll]
theorem aB.bks_cons(a:aB)(l:List aB):Tr.bulkAll (aB.trs (a::l))=Tr.bulkL (aB.tr a)+Tr.bulkAll (aB.trs l):=by simp [aB.trs_map,Tr.bulkAll]
end Go.Proofs.YtpioomclpaiomaaGreat

namespace Go.Proofs.YtpioomclpaiomaaGreat
set_option linter.unusedSimpArgs false
set_option linter.unusedVariables false
def b5(P:Nat→Prop):Prop:= ∃N,∀n,N≤n→P n
theorem b5.all{P:Nat→Prop}(h: ∀n,P n):b5 P:=⟨0,fun n _=>h n⟩
theorem b5.and{P Q:Nat→Prop}(h:b5 P)(k:b5 Q):b5 fun n=>P n∧Q n:=by
 obtain⟨a,h⟩:=h
 obtain⟨b,k⟩:=k
 exact⟨max a b,fun n hn=>⟨h n (by omega),k n (by omega)⟩⟩
theorem b5.imp{P Q:Nat→Prop}(h:b5 P)(k: ∀n,P n→Q n):b5 Q:=by
 obtain⟨a,h⟩:=h
 exact⟨a,fun n hn=>k n (h n hn)⟩
theorem b5.succ{P:Nat→Prop}(h:b5 fun n=>P (n+1)):b5 P:=by
 obtain⟨a,h⟩:=h
 exact⟨a+1,fun n hn=>by
  obtain⟨m,rfl⟩: ∃m,n=m+1:=⟨n-1,by omega⟩
  exact h m (by omega)⟩
theorem b5.list{α:Type}{P:α→Nat→Prop}: ∀ {l:List α},(∀x∈l,b5 (P x))→b5 fun n=> ∀x∈l,P x n
 | [],_=> .all fun n x hx=>by simp at hx
 |a::l,h=>((h a (by simp)).and (b5.list (l:=l) fun x hx=>h x (List.mem_cons_of_mem _ hx))).imp fun n hn x hx=>by
  rcases List.mem_cons.1 hx with rfl|hx
  ·exact hn.1
  ·exact hn.2 x hx
theorem b5.below{P:Nat→Nat→Prop}: ∀ {k:Nat},(∀i,i<k→b5 (P i))→b5 fun n=> ∀i,i<k→P i n
 |0,_=> .all fun n i hi=>by omega
 |k+1,h=>((h k (by omega)).and (b5.below (k:=k) fun i hi=>h i (Nat.lt_succ_of_lt hi))).imp fun n hn i hi=>by
  rcases Nat.lt_or_ge i k with h1|h1
  ·exact hn.2 i h1
  ·obtain rfl:i=k:=by omega
   exact hn.1
theorem b5.get{P:Nat→Prop}(h:b5 P): ∃n,P n:=by
 obtain⟨a,h⟩:=h
 exact⟨a,h a (Nat.le_refl _)⟩
section
variable {α σ β:Type} [Inhabited α] {f:Nat→σ→Option (LR σ β)}
theorem iU{l:List α}{i:Nat}(h:i<l.length):bB l i∈l:=by rw [kU h];exact List.getElem_mem h
theorem rF{l:List α}{i:Nat}(h:i<l.length):l.drop i=bB l i::l.drop (i+1):=by rw [kU h];exact List.drop_eq_getElem_cons h
theorem al4{l:List α}{i:Nat}(h:i<l.length):l.take (i+1)=l.take i++ [bB l i]:=by rw [kU h];exact List.take_succ_eq_append_getElem h
theorem yD{n i:Nat}{s s':σ}(h:i<n)(e:f i s=some (.next s')):loopN f (n-i) i s=loopN f (n-(i+1)) (i+1) s':=yC h rfl e
theorem FW{n i:Nat}{s:σ}{x:β}(h:i<n)(e:f i s=some (.ret x)):loopN f (n-i) i s=some (.inl x):=ai8 h rfl e
theorem ai7{n i:Nat}{s s':σ}(h:i<n)(e:f i s=some (.brk s')):loopN f (n-i) i s=some (.inr s'):=ai5 h rfl e
theorem BG{n i:Nat}{s:σ}(h:n≤i):loopN f (n-i) i s=some (.inr s):=ai6 h rfl
theorem SI{l:List α}{g:σ→α→σ}(P:Nat→σ→Prop)(hs: ∀i s,i<l.length→P i s→f i s=some (.next (g s (bB l i)))∧P (i+1) (g s (bB l i))):
 ∀(k i:Nat) (s:σ),l.length-i=k→P i s→loopN f (l.length-i) i s=some (.inr ((l.drop i).foldl g s))
 |0,i,s,hk,_=>by
  rw [BG (by omega),List.drop_of_length_le (by omega),List.foldl_nil]
 |k+1,i,s,hk,hp=>by
  have hi:i<l.length:=by omega
  obtain⟨h1,h2⟩:=hs i s hi hp
  rw [yD hi h1,rF hi,List.foldl_cons]
  exact SI P hs k (i+1) _ (by omega) h2
theorem p6{l:List α}{g:σ→α→σ}(P:Nat→σ→Prop)(hs: ∀i s,i<l.length→P i s→f i s=some (.next (g s (bB l i)))∧P (i+1) (g s (bB l i))){s:σ}(h0:P 0 s):loopN f (l.length-0) 0 s=some (.inr (l.foldl g s)):=by
 have:=SI P hs l.length 0 s (by omega) h0
 rwa [List.drop_zero] at this
theorem SH{l:List α}{p:α→Bool}{r:α→β}{s:σ}(hs: ∀i,i<l.length→f i s=if p (bB l i) then some (.ret (r (bB l i))) else some (.next s)):
 ∀(k i:Nat),l.length-i=k→loopN f (l.length-i) i s=some (match(l.drop i).find? p with|some x=> .inl (r x)|none=> .inr s)
 |0,i,hk=>by
  rw [BG (by omega),List.drop_of_length_le (by omega),List.find?_nil]
 |k+1,i,hk=>by
  have hi:i<l.length:=by omega
  have h1:=hs i hi
  rw [rF hi,List.find?_cons]
  cases hp:p (bB l i)
  ·rw [hp] at h1
   rw [yD hi (by simpa using h1)]
   exact SH hs k (i+1) (by omega)
  ·rw [hp] at h1
   rw [FW hi (by simpa using h1)]
theorem pZ{l:List α}{p:α→Bool}{r:α→β}{s:σ}(hs: ∀i,i<l.length→f i s=if p (bB l i) then some (.ret (r (bB l i))) else some (.next s)):loopN f (l.length-0) 0 s=some (match l.find? p with|some x=> .inl (r x)|none=> .inr s):=by
 have:=SH hs l.length 0 (by omega)
 rwa [List.drop_zero] at this
theorem OW{l:List α}{p:α→Bool}{r:β}{s:σ}(hs: ∀i,i<l.length→f i s=if p (bB l i) then some (.next s) else some (.ret r)):loopN f (l.length-0) 0 s=some (if l.all p then .inr s else .inl r):=by
 rw [pZ (p:=fun x=> !p x) (r:=fun _=>r) (fun i hi=>by rw [hs i hi];cases p (bB l i)<;>rfl)]
 cases h:l.find? (fun x=> !p x) with
 |none=>
  rw [List.find?_eq_none] at h
  rw [if_pos (by rw [List.all_eq_true];intro x hx;have:=h x hx;simpa using this)]
 |some x=>
  have h1:=List.find?_some h
  have h2:=List.mem_of_find?_eq_some h
  rw [if_neg (by rw [List.all_eq_true];intro hc;have:=hc x h2;simp [this] at h1)]
theorem OX{f:Nat→Unit→Option (LR Unit Int)}{l:List α}{p:α→Bool}(hs: ∀i,i<l.length→f i ()=if p (bB l i) then some (.ret ((i:Nat):Int)) else some (.next ())):
 loopN f (l.length-0) 0 ()=some (match l.findIdx? p with|some i=> .inl ((i:Nat):Int)|none=> .inr ()):=by
 have key: ∀(k i:Nat),l.length-i=k→loopN f (l.length-i) i ()=some (match(l.drop i).findIdx? p with|some j=> .inl (((i+j:Nat)):Int)|none=> .inr ()):=by
  intro k
  induction k with
  |zero=>
   intro i hk
   rw [BG (by omega),List.drop_of_length_le (by omega)]
   rfl
  |succ k ih=>
   intro i hk
   have hi:i<l.length:=by omega
   have h1:=hs i hi
   rw [rF hi,List.findIdx?_cons]
   cases hp:p (bB l i)
   ·rw [hp] at h1
    rw [yD hi (by simpa using h1),ih (i+1) (by omega)]
    cases(l.drop (i+1)).findIdx? p with
    |none=>simp
    |some j=>simp;omega
   ·rw [hp] at h1
    rw [FW hi (by simpa using h1)]
    simp
 have:=key l.length 0 (by omega)
 simpa using this
omit [Inhabited α] in
theorem WG{l:List α}{p:α→Bool}:decide ((match l.findIdx? p with|some i=>((i:Nat):Int)|none=> -1)≥0)=l.any p:=by
 cases h:l.findIdx? p with
 |none=>
  rw [List.findIdx?_eq_none_iff] at h
  have:l.any p=false:=by rw [List.any_eq_false];intro x hx;simp [h x hx]
  rw [this];rfl
 |some i=>
  obtain⟨h1,h2,-⟩:=List.findIdx?_eq_some_iff_getElem.1 h
  have:l.any p=true:=List.any_eq_true.2 ⟨_,List.getElem_mem h1,h2⟩
  rw [this]
  simp
end
end Go.Proofs.YtpioomclpaiomaaGreat

namespace Go.Proofs.YtpioomclpaiomaaGreat
set_option linter.unusedSimpArgs false
set_option linter.unusedVariables false
open Go.RowKit Go.WalkArith Go.IntWalk
def Ok{α:Type}(o:Option α)(P:α→Prop):Prop:= ∃a,o=some a∧P a
theorem Ok.some{α:Type}{P:α→Prop}{a:α}(h:P a):Ok (Option.some a) P:=⟨a,rfl,h⟩
theorem Ok.mono{α:Type}{P Q:α→Prop}{o:Option α}(h:Ok o P)(k: ∀a,P a→Q a):Ok o Q:=by
 obtain⟨a,e,h⟩:=h
 exact⟨a,e,k a h⟩
theorem Ok.bd{α β:Type}{o:Option α}{f:α→Option β}{Q:α→Prop}{P:β→Prop}(h:Ok o Q)(k: ∀a,Q a→Ok (f a) P):Ok (bd o f) P:=by
 obtain⟨a,rfl,h⟩:=h
 exact k a h
theorem Ok.sw{α:Type}{c:Bool}{a b:Option α}{P:α→Prop}(ht:c=true→Ok a P)(hf:c=false→Ok b P):Ok (sw c a b) P:=by
 cases c
 ·exact hf rfl
 ·exact ht rfl
theorem Ok.gd{α:Type}{g:Prop}{a:Option α}{P:α→Prop}(h:g)(k:Ok a P):Ok (gd g a) P:=by
 rw [s5 h rfl]
 exact k
theorem Ok.so{σ β:Type}{o:Option (β⊕σ)}{f:σ→Option β}{Q:β⊕σ→Prop}{P:β→Prop}(h:Ok o Q)(k1: ∀x,Q (.inl x)→P x)(k2: ∀s,Q (.inr s)→Ok (f s) P):Ok (so o f) P:=by
 obtain⟨a,rfl,h⟩:=h
 cases a with
 |inl x=>exact⟨x,rfl,k1 x h⟩
 |inr s=>exact k2 s h
theorem Ok.lt{α β:Type}{x:α}{f:α→Option β}{P:β→Prop}(k: ∀y,y=x→Ok (f y) P):Ok (lt x f) P:=k x rfl
theorem DS.pick_mem(d:DS){l:List ByteArray}(h:0<l.length):d.pick l∈l:=by
 rw [DS.pick_eq (d.below_lt h)]
 exact List.getElem_mem _
theorem DS.pick_size(d:DS){l:List ByteArray}{k:Nat}(h:0<l.length)(hs: ∀v∈l,v.size≤k):(d.pick l).size≤k:=hs _ (d.pick_mem h)
def PS{σ β:Type}(Q:β→Prop)(E:σ→Prop):β⊕σ→Prop
 | .inl x=>Q x
 | .inr s=>E s
def PL{σ β:Type}(Q:β→Prop)(N E:σ→Prop):LR σ β→Prop
 | .next s=>N s
 | .brk s=>E s
 | .ret x=>Q x
theorem Ok.gdk{α:Type}{g:Prop}{a:Option α}{P:α→Prop}(h:g)(k:g→Ok a P):Ok (Go.Proofs.YtpioomclpaiomaaGreat.gd g a) P:=Ok.gd h (k h)
theorem Ok.sok{σ β:Type}{o:Option (β⊕σ)}{f:σ→Option β}{P:β→Prop}{E:σ→Prop}(h:Ok o (PS P E))(k: ∀s,E s→Ok (f s) P):Ok (Go.Proofs.YtpioomclpaiomaaGreat.so o f) P:=Ok.so h (fun _ hx=>hx) k
theorem Ok.loopN{σ β:Type}{f:Nat→σ→Option (LR σ β)}{n:Nat}{Q:β→Prop}{E:σ→Prop}(I:Nat→σ→Prop)(hE: ∀i s,n≤i→I i s→E s)(hs: ∀i s,i<n→I i s→Ok (f i s) (PL Q (I (i+1)) E)):
 ∀(k i:Nat) (s:σ),n-i=k→I i s→Ok (Go.Proofs.YtpioomclpaiomaaGreat.loopN f (n-i) i s) (PS Q E)
 |0,i,s,hk,hi=>by rw [BG (by omega)];exact Ok.some (hE i s (by omega) hi)
 |k+1,i,s,hk,hi=>by
  have hlt:i<n:=by omega
  obtain⟨r,hr,hp⟩:=hs i s hlt hi
  cases r with
  |next s'=>rw [yD hlt hr];exact Ok.loopN I hE hs k (i+1) s' (by omega) hp
  |brk s'=>rw [ai7 hlt hr];exact Ok.some hp
  |ret x=>rw [FW hlt hr];exact Ok.some hp
theorem Ok.loopN0{σ β:Type}{f:Nat→σ→Option (LR σ β)}{n i:Nat}{s:σ}{Q:β→Prop}{E:σ→Prop}(I:Nat→σ→Prop)(h0:I i s)(hE: ∀i s,n≤i→I i s→E s)(hs: ∀i s,i<n→I i s→Ok (f i s) (PL Q (I (i+1)) E)):Ok (Go.Proofs.YtpioomclpaiomaaGreat.loopN f (n-i) i s) (PS Q E):=
 Ok.loopN I hE hs (n-i) i s rfl h0
theorem Ok.loopW{σ β:Type}{f:σ→Option (LR σ β)}{Q:β→Prop}{E:σ→Prop}(I:σ→Prop)(μ:σ→Nat)(hs: ∀s,I s→Ok (f s) (PL Q (fun s'=>I s'∧μ s'<μ s) E)):
 ∀(k:Nat) (s:σ),μ s<k→I s→Ok (Go.Proofs.YtpioomclpaiomaaGreat.loopW f k s) (PS Q E)
 |0,s,hk,_=>absurd hk (Nat.not_lt_zero _)
 |k+1,s,hk,hi=>by
  obtain⟨r,hr,hp⟩:=hs s hi
  unfold Go.Proofs.YtpioomclpaiomaaGreat.loopW
  rw [hr]
  cases r with
  |next s'=>exact Ok.loopW I μ hs k s' (by have:=hp.2;omega) hp.1
  |brk s'=>exact Ok.some hp
  |ret x=>exact Ok.some hp
theorem b5.ge(k:Nat):b5 fun fu=>k≤fu:=⟨k,fun _ h=>h⟩
end Go.Proofs.YtpioomclpaiomaaGreat

namespace Go.Proofs.YtpioomclpaiomaaGreat
set_option linter.unusedSimpArgs false
set_option linter.unusedVariables false
open Go.RowKit Go.WalkArith Go.IntWalk
class Wt (α:Type) where
 wtOf:α→Nat
def wt{α:Type}[Wt α](x:α):Nat:=Wt.wtOf x
def wl{α:Type}[Wt α]:List α→Nat
 | []=>0
 |a::l=>wt a+1+wl l
instance:Wt ByteArray:=⟨ByteArray.size⟩
theorem bA(b:ByteArray):wt b=b.size:=rfl
theorem FG(l:List ByteArray):wl l=l.length+Tr.bulkAll (aX l):=by
 induction l with
 |nil=>rw [am5];rfl
 |cons a l ih=>rw [al2];simp only [wl,List.length_cons,bA];omega
section
variable {α:Type} [Wt α]
theorem aT:wl ([]:List α)=0∧([]:List α).length=0:=⟨rfl,rfl⟩
theorem am7(a:α)(l:List α):wl (a::l)=wt a+1+wl l:=rfl
theorem b7(a b:List α):wl (a++b)=wl a+wl b∧(a++b).length=a.length+b.length:=by
 refine⟨?_,List.length_append⟩
 induction a with
 |nil=>simp [wl]
 |cons x a ih=>simp only [List.cons_append,wl];omega
theorem cG(a:α):wl [a]=wt a+1∧ [a].length=1:=⟨rfl,rfl⟩
theorem kX(a b:α):wl [a,b]=wt a+wt b+2∧ [a,b].length=2:=⟨by simp only [wl];omega,rfl⟩
theorem DJ(a b c:α):wl [a,b,c]=wt a+wt b+wt c+3∧ [a,b,c].length=3:=⟨by simp only [wl];omega,rfl⟩
theorem ap7(a b c d:α):wl [a,b,c,d]=wt a+wt b+wt c+wt d+4∧ [a,b,c,d].length=4:=⟨by simp only [wl];omega,rfl⟩
theorem ao5(a b c d e:α):wl [a,b,c,d,e]=wt a+wt b+wt c+wt d+wt e+5∧ [a,b,c,d,e].length=5:=⟨by simp only [wl];omega,rfl⟩
theorem ai4(a b c d e f g:α):wl [a,b,c,d,e,f,g]=wt a+wt b+wt c+wt d+wt e+wt f+wt g+7∧ [a,b,c,d,e,f,g].length=7:=⟨by simp only [wl];omega,rfl⟩
theorem aY(l:List α):l.length≤wl l:=by
 induction l with
 |nil=>simp
 |cons a l ih=>simp only [wl,List.length_cons];omega
theorem FF(k:Nat)(l:List α):wl (l.take k)+wl (l.drop k)=wl l:=by
 have:=(b7 (l.take k) (l.drop k)).1
 rw [List.take_append_drop] at this
 omega
theorem jA(l:List α)(k:Nat):wl (l.take k)≤wl l:=by have:=FF k l;omega
theorem am8(k:Nat)(l:List α):wl (l.drop k)≤wl l:=by have:=FF k l;omega
theorem RD(a b:Nat)(l:List α):wl (List.drop a (List.take b l))≤wl l∧(List.drop a (List.take b l)).length=min b l.length-a:=by
 have h1:=am8 a (l.take b)
 have h2:=jA l b
 exact⟨by omega,by simp⟩
theorem al5{l:List α}{x:α}(h:x∈l):wt x+1≤wl l:=by
 induction l with
 |nil=>simp at h
 |cons a l ih=>
  simp only [wl]
  rcases List.mem_cons.1 h with rfl|h
  ·omega
  ·have:=ih h;omega
theorem aaD(l:List α)(a b:Nat):a≤b→wl (l.take a)≤wl (l.take b):=fun h=>by
 have:=jA (l.take b) a
 rwa [List.take_take,Nat.min_eq_left h] at this
theorem aoF(L:List α)(b:Nat):1≤b→wl (List.drop (1:Int).toNat (List.take b L))+wl (List.take 1 L)≤wl (List.take b L):=fun h=>by
 have:=FF 1 (L.take b)
 rw [List.take_take,Nat.min_eq_left h] at this
 show wl (List.drop 1 _)+_≤_
 omega
variable [Inhabited α]
theorem cR(l:List α)(i:Nat):i<l.length→wt (bB l i)+1≤wl l:=fun h=>al5 (iU h)
theorem jB(l:List α)(i:Nat)(h:i<l.length):wl (l.take (i+1))=wl (l.take i)+wt (bB l i)+1:=by
 rw [al4 h,(b7 _ _).1,(cG _).1]
 omega
theorem IL(l:List α)(i:Nat):i<l.length→wl (l.take (i+1))=wl (l.take i)+wt (bB l i)+1:=jB l i
end
theorem eZ(E:Int): -9223372036854775808≤E∧E≤9223372036854775807→aQ E=E:=fun h=>by
 unfold aQ IntKind.wrap
 simp [IntKind.bits,IntKind.signed]
 omega
theorem B5(b:ByteArray)(i j:Nat):(b.extract i j).size=min j b.size-i:=by simp [ByteArray.size_extract]
theorem fG(a b:ByteArray):(a++b).size=a.size+b.size:=ByteArray.size_append
theorem akU(l:List UInt8):(bytesStr l).size=l.length:=by simp [bytesStr,ByteArray.size]
theorem D3{b:ByteArray}(h: ¬b=⟨#[]⟩):0<b.size:=by
 rcases Nat.eq_zero_or_pos b.size with h0|h0
 ·refine absurd ?_ h
  obtain⟨a⟩:=b
  have h1:a.size=0:=h0
  rw [Array.eq_empty_of_size_eq_zero h1]
 ·exact h0
theorem bV{p:Prop}(h:p:=by first|omega|(dsimp only;omega)|trivial|(dsimp only;trivial)):p:=h
theorem Ok.next{σ β:Type}{N E:σ→Prop}{Q:β→Prop}{s:σ}(h:N s):Ok (Option.some (LR.next s)) (PL Q N E):=⟨_,rfl,h⟩
theorem Ok.brk{σ β:Type}{N E:σ→Prop}{Q:β→Prop}{s:σ}(h:E s):Ok (Option.some (LR.brk s)) (PL Q N E):=⟨_,rfl,h⟩
theorem Ok.ret{σ β:Type}{N E:σ→Prop}{Q:β→Prop}{x:β}(h:Q x):Ok (Option.some (LR.ret (σ:=σ) x)) (PL Q N E):=⟨_,rfl,h⟩
theorem Ok.inr{σ β:Type}{E:σ→Prop}{Q:β→Prop}{s:σ}(h:E s):Ok (Option.some (Sum.inr (α:=β) s)) (PS Q E):=⟨_,rfl,h⟩
theorem Ok.swd{α:Type}{p:Prop}[Decidable p]{a b:Option α}{P:α→Prop}(ht:p→Ok a P)(hf: ¬p→Ok b P):Ok (Go.Proofs.YtpioomclpaiomaaGreat.sw (decide p) a b) P:=Ok.sw (fun h=>ht (of_decide_eq_true h)) (fun h=>hf (of_decide_eq_false h))
theorem Ok.swn{α:Type}{p:Prop}[Decidable p]{a b:Option α}{P:α→Prop}(ht: ¬p→Ok a P)(hf:p→Ok b P):Ok (Go.Proofs.YtpioomclpaiomaaGreat.sw (!decide p) a b) P:=Ok.sw (fun h=>ht (by simpa using h)) (fun h=>hf (by simpa using h))
theorem Ok.swb{α:Type}{x:Bool}{a b:Option α}{P:α→Prop}(ht:x=false→Ok a P)(hf:x=true→Ok b P):Ok (Go.Proofs.YtpioomclpaiomaaGreat.sw (!x) a b) P:=Ok.sw (fun h=>ht (by simpa using h)) (fun h=>hf (by simpa using h))
theorem Ok.loop0{σ β:Type}{f:Nat→σ→Option (LR σ β)}{n i:Nat}{s:σ}{Q:β→Prop}{E:σ→Prop}(I:Nat→σ→Prop)(h0:I i s)(hE: ∀i s,n≤i→I i s→E s)(hs: ∀i s,i<n→I i s→Ok (f i s) (PL Q (I (i+1)) E)):Ok (Go.Proofs.YtpioomclpaiomaaGreat.loopN f (n-i) i s) (PS Q E):=Ok.loopN0 I h0 hE hs
theorem Ok.loop1{σ β:Type}{f:Nat→σ→Option (LR σ β)}{n i:Nat}{s:σ}{Q:β→Prop}(hs: ∀i s,i<n→Ok (f i s) (PL Q (fun _=>True) (fun _=>True))):Ok (Go.Proofs.YtpioomclpaiomaaGreat.loopN f (n-i) i s) (PS Q (fun _=>True)):=Ok.loopN0 (fun _ _=>True) trivial (fun _ _ _ _=>trivial) (fun i s hi _=>hs i s hi)
theorem oG{α:Type}{g:Prop}{a:Option α}{P:α→Prop}(k:g→Ok a P)(h:g:=by first|omega|trivial):Ok (Go.Proofs.YtpioomclpaiomaaGreat.gd g a) P:=Ok.gdk h k
theorem oD{α:Type}{p:Prop}[Decidable p]{a b:Option α}{P:α→Prop}(ht:p→Ok a P)(hf: ¬p→Ok b P):Ok (Go.Proofs.YtpioomclpaiomaaGreat.sw (decide p) a b) P:=Ok.swd ht hf
theorem oN{α:Type}{p:Prop}[Decidable p]{a b:Option α}{P:α→Prop}(ht: ¬p→Ok a P)(hf:p→Ok b P):Ok (Go.Proofs.YtpioomclpaiomaaGreat.sw (!decide p) a b) P:=Ok.swn ht hf
theorem oW{α:Type}{x:Bool}{a b:Option α}{P:α→Prop}(ht:x=false→Ok a P)(hf:x=true→Ok b P):Ok (Go.Proofs.YtpioomclpaiomaaGreat.sw (!x) a b) P:=Ok.swb ht hf
theorem oC{α:Type}{c:Bool}{a b:Option α}{P:α→Prop}(ht:c=true→Ok a P)(hf:c=false→Ok b P):Ok (Go.Proofs.YtpioomclpaiomaaGreat.sw c a b) P:=Ok.sw ht hf
theorem oB{α β:Type}{o:Option α}{f:α→Option β}{Q:α→Prop}{P:β→Prop}(h:Ok o Q)(k: ∀a,Q a→Ok (f a) P):Ok (Go.Proofs.YtpioomclpaiomaaGreat.bd o f) P:=Ok.bd h k
theorem O0{α β:Type}{o:Option α}{f:α→Option β}{Q1 Q2:α→Prop}{P:β→Prop}(h:Ok o (fun r=>Q1 r∧Q2 r))(k: ∀a,Q1 a→Q2 a→Ok (f a) P):Ok (Go.Proofs.YtpioomclpaiomaaGreat.bd o f) P:=Ok.bd h fun a q=>k a q.1 q.2
theorem tV{A B β:Type}{o:Option (A×B)}{f:A×B→Option β}{Q:A×B→Prop}{P:β→Prop}(h:Ok o Q)(k: ∀a b,Q (a,b)→Ok (f (a,b)) P):Ok (Go.Proofs.YtpioomclpaiomaaGreat.bd o f) P:=Ok.bd h fun _ q=>k _ _ q
theorem oB4{A B C D β:Type}{o:Option (A×B×C×D)}{f:A×B×C×D→Option β}{Q:A×B×C×D→Prop}{P:β→Prop}(h:Ok o Q)(k: ∀a b c d,Q (a,b,c,d)→Ok (f (a,b,c,d)) P):Ok (Go.Proofs.YtpioomclpaiomaaGreat.bd o f) P:=Ok.bd h fun _ q=>k _ _ _ _ q
theorem oB6{A B C D E F β:Type}{o:Option (A×B×C×D×E×F)}{f:A×B×C×D×E×F→Option β}{Q:A×B×C×D×E×F→Prop}{P:β→Prop}(h:Ok o Q)(k: ∀a b c d e g,Q (a,b,c,d,e,g)→Ok (f (a,b,c,d,e,g)) P):Ok (Go.Proofs.YtpioomclpaiomaaGreat.bd o f) P:=Ok.bd h fun _ q=>k _ _ _ _ _ _ q
theorem oS{α:Type}{P:α→Prop}{a:α}(h:P a:=by first|trivial|omega|(dsimp only;omega)):Ok (Option.some a) P:=⟨a,rfl,h⟩
theorem nX{σ β:Type}{N E:σ→Prop}{Q:β→Prop}{s:σ}(h:N s:=by first|trivial|omega|(dsimp only;omega)):Ok (Option.some (LR.next s)) (PL Q N E):=⟨_,rfl,h⟩
theorem oK{σ β:Type}{N E:σ→Prop}{Q:β→Prop}{s:σ}(h:E s:=by first|trivial|omega|(dsimp only;omega)):Ok (Option.some (LR.brk s)) (PL Q N E):=⟨_,rfl,h⟩
theorem oR{σ β:Type}{N E:σ→Prop}{Q:β→Prop}{x:β}(h:Q x:=by first|trivial|omega|(dsimp only;omega)):Ok (Option.some (LR.ret (σ:=σ) x)) (PL Q N E):=⟨_,rfl,h⟩
theorem oL{σ β:Type}{E:σ→Prop}{Q:β→Prop}{x:β}(h:Q x:=by first|trivial|omega|(dsimp only;omega)):Ok (Option.some (Sum.inl (β:=σ) x)) (PS Q E):=⟨_,rfl,h⟩
theorem oI{σ β:Type}{E:σ→Prop}{Q:β→Prop}{s:σ}(h:E s:=by first|trivial|omega|(dsimp only;omega)):Ok (Option.some (Sum.inr (α:=β) s)) (PS Q E):=⟨_,rfl,h⟩
theorem DL{σ β:Type}{o:Option (β⊕σ)}{f:σ→Option β}{P:β→Prop}(h:Ok o (PS P fun _=>True))(k: ∀s,True→Ok (f s) P):Ok (Go.Proofs.YtpioomclpaiomaaGreat.so o f) P:=Ok.sok h k
theorem oEN{σ β:Type}{n i0:Nat}{s0:σ}{F:Nat→σ→Option (LR σ β)}{f:σ→Option β}{P:β→Prop}(hs: ∀i s,i<n→Ok (F i s) (PL P (fun _=>True) (fun _=>True)))(k: ∀s,True→Ok (f s) P):Ok (Go.Proofs.YtpioomclpaiomaaGreat.so (Go.Proofs.YtpioomclpaiomaaGreat.loopN F (n-i0) i0 s0) f) P:=Ok.sok (Ok.loop1 hs) k
theorem NH{A B β:Type}[Wt A][Wt B][Inhabited A]{F:Nat→List B→Option (LR (List B) β)}{f:List B→Option β}{i0:Nat}{v0:List B}{Q:β→Prop}(L:List A)(c:Nat)
 (hs: ∀i v,i<L.length→wl v+c*wl (List.take i0 L)≤wl v0+c*wl (List.take i L)→wl (L.take (i+1))=wl (L.take i)+wt (bB L i)+1→wl (L.take (i+1))≤wl L→
  Ok (F i v) (PL Q (fun v=>wl v+c*wl (List.take i0 L)≤wl v0+c*wl (List.take (i+1) L)) (fun v=>wl v+c*wl (List.take i0 L)≤wl v0+c*wl L)))
 (k: ∀v,wl v+c*wl (List.take i0 L)≤wl v0+c*wl L→Ok (f v) Q):Ok (Go.Proofs.YtpioomclpaiomaaGreat.so (Go.Proofs.YtpioomclpaiomaaGreat.loopN F (L.length-i0) i0 v0) f) Q:=
 Ok.sok (Ok.loopN0 (fun i v=>wl v+c*wl (List.take i0 L)≤wl v0+c*wl (List.take i L)) (Nat.le_refl _) (fun i v _ h=>Nat.le_trans h (Nat.add_le_add_left (Nat.mul_le_mul_left _ (jA L i)) _)) (fun i v hi h=>hs i v hi h (jB L i hi) (jA L _))) k
theorem amQ{A B β:Type}[Wt A][Wt B][Inhabited A]{F:Nat→List B→Option (LR (List B) β)}{f:List B→Option β}{i0:Nat}{Q:β→Prop}{PA:B→Prop}(L:List A)(c:Nat)
 (hs: ∀i v,i<L.length→wl v+c*wl (List.take i0 L)≤wl ([]:List B)+c*wl (List.take i L)→(∀a∈v,PA a)→wl (L.take (i+1))=wl (L.take i)+wt (bB L i)+1→wl (L.take (i+1))≤wl L→
  Ok (F i v) (PL Q (fun v=>wl v+c*wl (List.take i0 L)≤wl ([]:List B)+c*wl (List.take (i+1) L)∧ ∀a∈v,PA a) (fun v=>wl v+c*wl (List.take i0 L)≤wl ([]:List B)+c*wl L∧ ∀a∈v,PA a)))
 (k: ∀v,(wl v+c*wl (List.take i0 L)≤wl ([]:List B)+c*wl L∧ ∀a∈v,PA a)→Ok (f v) Q):Ok (Go.Proofs.YtpioomclpaiomaaGreat.so (Go.Proofs.YtpioomclpaiomaaGreat.loopN F (L.length-i0) i0 []) f) Q:=
 Ok.sok (Ok.loopN0 (fun i v=>wl v+c*wl (List.take i0 L)≤wl ([]:List B)+c*wl (List.take i L)∧ ∀a∈v,PA a) ⟨Nat.le_refl _,by simp⟩ (fun i v _ h=>⟨Nat.le_trans h.1 (Nat.add_le_add_left (Nat.mul_le_mul_left _ (jA L i)) _),h.2⟩) (fun i v hi h=>hs i v hi h.1 h.2 (jB L i hi) (jA L _))) k
instance:Wt aC:=⟨fun x=>Tr.bulkL (aC.tr x)⟩
instance:Wt aA:=⟨fun x=>Tr.bulkL (aA.tr x)⟩
instance:Wt aH:=⟨fun x=>Tr.bulkL (aH.tr x)⟩
instance:Wt bM:=⟨fun x=>Tr.bulkL (bM.tr x)⟩
instance:Wt aI:=⟨fun x=>Tr.bulkL (aI.tr x)⟩
instance:Wt aR:=⟨fun x=>Tr.bulkL (aR.tr x)⟩
instance:Wt aN:=⟨fun x=>Tr.bulkL (aN.tr x)⟩
instance:Wt aD:=⟨fun x=>Tr.bulkL (aD.tr x)⟩
instance:Wt aE:=⟨fun x=>Tr.bulkL (aE.tr x)⟩
instance:Wt aU:=⟨fun x=>Tr.bulkL (aU.tr x)⟩
instance:Wt aM:=⟨fun x=>Tr.bulkL (aM.tr x)⟩
instance:Wt aG:=⟨fun x=>Tr.bulkL (aG.tr x)⟩
instance:Wt aK:=⟨fun x=>Tr.bulkL (aK.tr x)⟩
instance:Wt aJ:=⟨fun x=>Tr.bulkL (aJ.tr x)⟩
instance:Wt aP:=⟨fun x=>Tr.bulkL (aP.tr x)⟩
instance:Wt aB:=⟨fun x=>Tr.bulkL (aB.tr x)⟩
instance:Wt bG:=⟨fun x=>Tr.bulkL (bG.tr x)⟩
instance:Wt aL:=⟨fun x=>Tr.bulkL (aL.tr x)⟩
theorem aA.wl_bulk(l:List aA):wl l=l.length+Tr.bulkAll (aA.trs l):=by
 induction l with
 |nil=>rw [aA.bks_nil];rfl
 |cons a l ih=>
  rw [aA.bks_cons]
  simp only [wl,List.length_cons,ih]
  show Tr.bulkL (aA.tr a)+1+_=_
  omega
theorem aH.wl_bulk(l:List aH):wl l=l.length+Tr.bulkAll (aH.trs l):=by
 induction l with
 |nil=>rw [aH.bks_nil];rfl
 |cons a l ih=>
  rw [aH.bks_cons]
  simp only [wl,List.length_cons,ih]
  show Tr.bulkL (aH.tr a)+1+_=_
  omega
theorem bM.wl_bulk(l:List bM):wl l=l.length+Tr.bulkAll (bM.trs l):=by
 induction l with
 |nil=>rw [bM.bks_nil];rfl
 |cons a l ih=>
  rw [bM.bks_cons]
  simp only [wl,List.length_cons,ih]
  show Tr.bulkL (bM.tr a)+1+_=_
  omega
theorem aI.wl_bulk(l:List aI):wl l=l.length+Tr.bulkAll (aI.trs l):=by
 induction l with
 |nil=>rw [aI.bks_nil];rfl
 |cons a l ih=>
  rw [aI.bks_cons]
  simp only [wl,List.length_cons,ih]
  show Tr.bulkL (aI.tr a)+1+_=_
  omega
theorem aR.wl_bulk(l:List aR):wl l=l.length+Tr.bulkAll (aR.trs l):=by
 induction l with
 |nil=>rw [aR.bks_nil];rfl
 |cons a l ih=>
  rw [aR.bks_cons]
  simp only [wl,List.length_cons,ih]
  show Tr.bulkL (aR.tr a)+1+_=_
  omega
theorem aN.wl_bulk(l:List aN):wl l=l.length+Tr.bulkAll (aN.trs l):=by
 induction l with
 |nil=>rw [aN.bks_nil];rfl
 |cons a l ih=>
  rw [aN.bks_cons]
  simp only [wl,List.length_cons,ih]
  show Tr.bulkL (aN.tr a)+1+_=_
  omega
theorem aD.wl_bulk(l:List aD):wl l=l.length+Tr.bulkAll (aD.trs l):=by
 induction l with
 |nil=>rw [aD.bks_nil];rfl
 |cons a l ih=>
  rw [aD.bks_cons]
  simp only [wl,List.length_cons,ih]
  show Tr.bulkL (aD.tr a)+1+_=_
  omega
theorem aE.wl_bulk(l:List aE):wl l=l.length+Tr.bulkAll (aE.trs l):=by
 induction l with
 |nil=>rw [aE.bks_nil];rfl
 |cons a l ih=>
  rw [aE.bks_cons]
  simp only [wl,List.length_cons,ih]
  show Tr.bulkL (aE.tr a)+1+_=_
  omega
theorem aU.wl_bulk(l:List aU):wl l=l.length+Tr.bulkAll (aU.trs l):=by
 induction l with
 |nil=>rw [aU.bks_nil];rfl
 |cons a l ih=>
  rw [aU.bks_cons]
  simp only [wl,List.length_cons,ih]
  show Tr.bulkL (aU.tr a)+1+_=_
  omega
theorem aM.wl_bulk(l:List aM):wl l=l.length+Tr.bulkAll (aM.trs l):=by
 induction l with
 |nil=>rw [aM.bks_nil];rfl
 |cons a l ih=>
  rw [aM.bks_cons]
  simp only [wl,List.length_cons,ih]
  show Tr.bulkL (aM.tr a)+1+_=_
  omega
theorem aG.wl_bulk(l:List aG):wl l=l.length+Tr.bulkAll (aG.trs l):=by
 induction l with
 |nil=>rw [aG.bks_nil];rfl
 |cons a l ih=>
  rw [aG.bks_cons]
  simp only [wl,List.length_cons,ih]
  show Tr.bulkL (aG.tr a)+1+_=_
  omega
theorem aK.wl_bulk(l:List aK):wl l=l.length+Tr.bulkAll (aK.trs l):=by
 induction l with
 |nil=>rw [aK.bks_nil];rfl
 |cons a l ih=>
  rw [aK.bks_cons]
  simp only [wl,List.length_cons,ih]
  show Tr.bulkL (aK.tr a)+1+_=_
  omega
theorem aJ.wl_bulk(l:List aJ):wl l=l.length+Tr.bulkAll (aJ.trs l):=by
 induction l with
 |nil=>rw [aJ.bks_nil];rfl
 |cons a l ih=>
  rw [aJ.bks_cons]
  simp only [wl,List.length_cons,ih]
  show Tr.bulkL (aJ.tr a)+1+_=_
  omega
theorem aB.wl_bulk(l:List aB):wl l=l.length+Tr.bulkAll (aB.trs l):=by
 induction l with
 |nil=>rw [aB.bks_nil];rfl
 |cons a l ih=>
  rw [aB.bks_cons]
  simp only [wl,List.length_cons,ih]
  show Tr.bulkL (aB.tr a)+1+_=_
  omega
theorem aA.wt_mk(v0:Int)(v1:ByteArray)(v2:List aA):wt (aA.mk v0 v1 v2)=v1.size+wl v2:=by
 show Tr.bulkL (aA.tr (.mk v0 v1 v2))=_
 rw [aA.bk_mk]
 simp only [aA.wl_bulk]
 try rfl
theorem aA.wt_eq(x:aA):wt x=x.gName.size+wl x.gArgs:=by
 obtain⟨v0,v1,v2⟩:=x
 exact aA.wt_mk v0 v1 v2
theorem aH.wt_mk(v0:Int)(v1:ByteArray)(v2:ByteArray)(v3:Int)(v4:aA)(v5:List aH)(v6:List bM):wt (aH.mk v0 v1 v2 v3 v4 v5 v6)=v1.size+v2.size+wt v4+wl v5+wl v6:=by
 show Tr.bulkL (aH.tr (.mk v0 v1 v2 v3 v4 v5 v6))=_
 rw [aH.bk_mk]
 simp only [aH.wl_bulk,bM.wl_bulk]
 try rfl
theorem aH.wt_eq(x:aH):wt x=x.gTrait.size+x.gName.size+wt x.gType+wl x.gArgs+wl x.gArms:=by
 obtain⟨v0,v1,v2,v3,v4,v5,v6⟩:=x
 exact aH.wt_mk v0 v1 v2 v3 v4 v5 v6
theorem bM.wt_mk(v0:ByteArray)(v1:List ByteArray)(v2:aH):wt (bM.mk v0 v1 v2)=v0.size+wl v1+wt v2:=by
 show Tr.bulkL (bM.tr (.mk v0 v1 v2))=_
 rw [bM.bk_mk]
 simp only [FG]
 try rfl
theorem bM.wt_eq(x:bM):wt x=x.gConstructor.size+wl x.gVars+wt x.gBody:=by
 obtain⟨v0,v1,v2⟩:=x
 exact bM.wt_mk v0 v1 v2
theorem aI.wt_mk(v0:ByteArray)(v1:aA):wt (aI.mk v0 v1)=v0.size+wt v1:=by
 show Tr.bulkL (aI.tr (.mk v0 v1))=_
 rw [aI.bk_mk]
 try rfl
theorem aI.wt_eq(x:aI):wt x=x.gTrait.size+wt x.gType:=by
 obtain⟨v0,v1⟩:=x
 exact aI.wt_mk v0 v1
theorem aR.wt_mk(v0:ByteArray)(v1:aA):wt (aR.mk v0 v1)=v0.size+wt v1:=by
 show Tr.bulkL (aR.tr (.mk v0 v1))=_
 rw [aR.bk_mk]
 try rfl
theorem aR.wt_eq(x:aR):wt x=x.gName.size+wt x.gType:=by
 obtain⟨v0,v1⟩:=x
 exact aR.wt_mk v0 v1
theorem aN.wt_mk(v0:ByteArray)(v1:List ByteArray)(v2:aH):wt (aN.mk v0 v1 v2)=v0.size+wl v1+wt v2:=by
 show Tr.bulkL (aN.tr (.mk v0 v1 v2))=_
 rw [aN.bk_mk]
 simp only [FG]
 try rfl
theorem aN.wt_eq(x:aN):wt x=x.gName.size+wl x.gVars+wt x.gBody:=by
 obtain⟨v0,v1,v2⟩:=x
 exact aN.wt_mk v0 v1 v2
theorem aD.wt_mk(v0:ByteArray)(v1:List aA):wt (aD.mk v0 v1)=v0.size+wl v1:=by
 show Tr.bulkL (aD.tr (.mk v0 v1))=_
 rw [aD.bk_mk]
 simp only [aA.wl_bulk]
 try rfl
theorem aD.wt_eq(x:aD):wt x=x.gName.size+wl x.gFields:=by
 obtain⟨v0,v1⟩:=x
 exact aD.wt_mk v0 v1
theorem aE.wt_mk(v0:ByteArray)(v1:List aA)(v2:aA)(v3:Bool)(v4:List ByteArray)(v5:aH):wt (aE.mk v0 v1 v2 v3 v4 v5)=v0.size+wl v1+wt v2+wl v4+wt v5:=by
 show Tr.bulkL (aE.tr (.mk v0 v1 v2 v3 v4 v5))=_
 rw [aE.bk_mk]
 simp only [aA.wl_bulk,FG]
 try rfl
theorem aE.wt_eq(x:aE):wt x=x.gName.size+wl x.gParams+wt x.gResult+wl x.gVars+wt x.gBody:=by
 obtain⟨v0,v1,v2,v3,v4,v5⟩:=x
 exact aE.wt_mk v0 v1 v2 v3 v4 v5
theorem aU.wt_mk(v0:ByteArray)(v1:List ByteArray)(v2:Bool)(v3:Bool)(v4:List aE):wt (aU.mk v0 v1 v2 v3 v4)=v0.size+wl v1+wl v4:=by
 show Tr.bulkL (aU.tr (.mk v0 v1 v2 v3 v4))=_
 rw [aU.bk_mk]
 simp only [FG,aE.wl_bulk]
 try rfl
theorem aU.wt_eq(x:aU):wt x=x.gName.size+wl x.gSupertraits+wl x.gSignatures:=by
 obtain⟨v0,v1,v2,v3,v4⟩:=x
 exact aU.wt_mk v0 v1 v2 v3 v4
theorem aM.wt_mk(v0:ByteArray)(v1:List ByteArray)(v2:List aD):wt (aM.mk v0 v1 v2)=v0.size+wl v1+wl v2:=by
 show Tr.bulkL (aM.tr (.mk v0 v1 v2))=_
 rw [aM.bk_mk]
 simp only [FG,aD.wl_bulk]
 try rfl
theorem aM.wt_eq(x:aM):wt x=x.gName.size+wl x.gVars+wl x.gConstructors:=by
 obtain⟨v0,v1,v2⟩:=x
 exact aM.wt_mk v0 v1 v2
theorem aG.wt_mk(v0:ByteArray)(v1:List ByteArray)(v2:aA)(v3:List aI)(v4:Bool)(v5:Bool)(v6:aA)(v7:List aN):wt (aG.mk v0 v1 v2 v3 v4 v5 v6 v7)=v0.size+wl v1+wt v2+wl v3+wt v6+wl v7:=by
 show Tr.bulkL (aG.tr (.mk v0 v1 v2 v3 v4 v5 v6 v7))=_
 rw [aG.bk_mk]
 simp only [FG,aI.wl_bulk,aN.wl_bulk]
 try rfl
theorem aG.wt_eq(x:aG):wt x=x.gTrait.size+wl x.gVars+wt x.gHead+wl x.gWhere+wt x.gAssoc+wl x.gMethods:=by
 obtain⟨v0,v1,v2,v3,v4,v5,v6,v7⟩:=x
 exact aG.wt_mk v0 v1 v2 v3 v4 v5 v6 v7
theorem aK.wt_mk(v0:ByteArray)(v1:List ByteArray)(v2:List aI)(v3:List aR)(v4:aA)(v5:aH):wt (aK.mk v0 v1 v2 v3 v4 v5)=v0.size+wl v1+wl v2+wl v3+wt v4+wt v5:=by
 show Tr.bulkL (aK.tr (.mk v0 v1 v2 v3 v4 v5))=_
 rw [aK.bk_mk]
 simp only [FG,aI.wl_bulk,aR.wl_bulk]
 try rfl
theorem aK.wt_eq(x:aK):wt x=x.gName.size+wl x.gVars+wl x.gWhere+wl x.gParams+wt x.gResult+wt x.gBody:=by
 obtain⟨v0,v1,v2,v3,v4,v5⟩:=x
 exact aK.wt_mk v0 v1 v2 v3 v4 v5
theorem aJ.wt_mk(v0:ByteArray)(v1:List ByteArray)(v2:List aU)(v3:List aM)(v4:List aG)(v5:List aK):wt (aJ.mk v0 v1 v2 v3 v4 v5)=v0.size+wl v1+wl v2+wl v3+wl v4+wl v5:=by
 show Tr.bulkL (aJ.tr (.mk v0 v1 v2 v3 v4 v5))=_
 rw [aJ.bk_mk]
 simp only [FG,aU.wl_bulk,aM.wl_bulk,aG.wl_bulk,aK.wl_bulk]
 try rfl
theorem aJ.wt_eq(x:aJ):wt x=x.gName.size+wl x.gDeps+wl x.gTraits+wl x.gDataTypes+wl x.gInstances+wl x.gFunctions:=by
 obtain⟨v0,v1,v2,v3,v4,v5⟩:=x
 exact aJ.wt_mk v0 v1 v2 v3 v4 v5
theorem aP.wt_mk(v0:List aJ):wt (aP.mk v0)=wl v0:=by
 show Tr.bulkL (aP.tr (.mk v0))=_
 rw [aP.bk_mk]
 simp only [aJ.wl_bulk]
 try rfl
theorem aP.wt_eq(x:aP):wt x=wl x.gPackages:=by
 obtain⟨v0⟩:=x
 exact aP.wt_mk v0
theorem aB.wt_mk(v0:ByteArray)(v1:List aB):wt (aB.mk v0 v1)=v0.size+wl v1:=by
 show Tr.bulkL (aB.tr (.mk v0 v1))=_
 rw [aB.bk_mk]
 simp only [aB.wl_bulk]
 try rfl
theorem aB.wt_eq(x:aB):wt x=x.gAtom.size+wl x.gList:=by
 obtain⟨v0,v1⟩:=x
 exact aB.wt_mk v0 v1
end Go.Proofs.YtpioomclpaiomaaGreat

namespace Go.Proofs.YtpioomclpaiomaaGreat.W
set_option linter.unusedSimpArgs false
set_option linter.unusedVariables false
set_option maxRecDepth 20000
set_option maxHeartbeats 4000000
open Go.RowKit Go.WalkArith Go.IntWalk
def V6(fu:Nat):Prop:= ∀(px:UInt8),Ok (F7 fu px) (fun _=>True)
theorem FT:b5 V6:=(b5.ge 2147483648).imp fun fu hfu px=>by
 refine oD (fun g1=>?_) fun g1=>?_
 ·refine oD (fun _=>oS) fun g2=>?_;refine oD (fun g3=>?_) fun g3=>?_
  ·exact oD (fun _=>oS) fun g4=>oD (fun _=>oS) fun g5=>oD (fun _=>oS) fun g6=>oD (fun _=>oS) fun g7=>oD (fun _=>oS) fun g8=>oD (fun _=>oS) fun g9=>oD (fun _=>oS) fun g10=>oS
  exact oD (fun _=>oS) fun g11=>oD (fun _=>oS) fun g12=>oD (fun _=>oS) fun g13=>oD (fun _=>oS) fun g14=>oD (fun _=>oS) fun g15=>oD (fun _=>oS) fun g16=>oS
 refine oD (fun g17=>?_) fun g17=>?_
 ·exact oD (fun _=>oS) fun g18=>oD (fun _=>oS) fun g19=>oD (fun _=>oS) fun g20=>oD (fun _=>oS) fun g21=>oD (fun _=>oS) fun g22=>oD (fun _=>oS) fun g23=>oD (fun _=>oS) fun g24=>oS
 exact oD (fun _=>oS) fun g25=>oD (fun _=>oS) fun g26=>oD (fun _=>oS) fun g27=>oD (fun _=>oS) fun g28=>oD (fun _=>oS) fun g29=>oD (fun _=>oS) fun g30=>oS
def ag8(fu:Nat):Prop:= ∀(px plo phi:Int),Ok (CY fu px plo phi) (fun _=>True)
theorem qL:b5 ag8:=(b5.ge 2147483648).imp fun fu hfu px plo phi=>by
 exact oD (fun _=>oS) fun g1=>oS
def D0(fu:Nat):Prop:= ∀(ps:ByteArray),ps.size≤1073741824→Ok (yK fu ps) (fun _=>True)
theorem pX:b5 D0:=(((b5.ge 2147483648).and FT).and qL).imp fun fu ⟨⟨hfu,FT⟩,qL⟩ ps hpre=>by
 refine DL ?_ ?_
 ·refine Ok.loop1 ?_;rintro i1 ⟨⟩ hl2
  exact oG fun z4=>oB (FT (B4 ps i1)) fun x6 _=>oW (fun _=>oR) fun g6=>nX
 rintro⟨⟩-
 exact oB (qL (ps.size:Int) 1 12) fun x9 _=>oS
def aiH(fu:Nat):Prop:= ∀(px:aB) (pleft:Int),wt px≤1073741824→Ok (o4 fu px pleft) (fun _=>True)
def MM(n:Nat)(m:uS):Prop:= ∀(px:aB) (pleft:Int),wt px<n→wt px≤1073741824→Ok (m px pleft) (fun _=>True)
theorem agD{n fu:Nat}(hfu:2147483648≤fu){r_sl2Left:uS}(h_sl2Left:MM n r_sl2Left):MM (n+1) (OJ fu r_sl2Left):=by
 intro px pleft hm hpre
 refine oEN (fun i1 v2 hl2=>?_) ?_
 ·have:=aB.wt_eq px
  have:=aY px.gList
  refine oD (fun g4=>?_) fun g4=>?_
  ·have:=cR px.gList i1 hl2
   exact oB (h_sl2Left (bB px.gList i1) v2 bV bV) fun x7 _=>nX
  exact oK
 intro v2 _
 exact oS
theorem ajY(n:Nat):b5 fun fu=>MM n (o4 fu):=by
 induction n with
 |zero=>exact .all fun fu=>fun _ _ h=>absurd h (Nat.not_lt_zero _)
 |succ n ih=>exact b5.succ ((ih.and (b5.ge 2147483648)).imp fun fu ⟨h,hfu⟩=>fun px pleft=>by rw [o4];exact agD hfu h px pleft)
theorem NB:b5 aiH:=(ajY 8589934592).imp fun fu h px pleft hpre=>h px pleft bV hpre
def aiG(fu:Nat):Prop:= ∀(px:aB),wt px≤1073741824→Ok (o3 fu px) (fun _=>True)
def ML(n:Nat)(m:uR):Prop:= ∀(px:aB),wt px<n→wt px≤1073741824→Ok (m px) (fun _=>True)
theorem af9{n fu:Nat}(hfu:2147483648≤fu)(pX:D0 fu){r_sl2Form:uR}(h_sl2Form:ML n r_sl2Form):ML (n+1) (OI fu r_sl2Form):=by
 intro px hm hpre
 have:=aB.wt_eq px
 have:s_.size=0:=rfl
 refine oN (fun g1=>?_) fun g1=>?_
 ·have:=D3 g1
  exact oB (pX px.gAtom bV) fun x3 _=>oC (fun _=>oS) fun g3=>oS
 refine DL ?_ ?_
 ·refine Ok.loop1 ?_;rintro i5 ⟨⟩ hl5
  have:=aY px.gList
  have:=cR px.gList i5 hl5
  exact oB (h_sl2Form (bB px.gList i5) bV bV) fun x9 _=>oW (fun _=>oR) fun g8=>nX
 rintro⟨⟩-
 exact oS
theorem ajX(n:Nat):b5 fun fu=>ML n (o3 fu):=by
 induction n with
 |zero=>exact .all fun fu=>fun _ h=>absurd h (Nat.not_lt_zero _)
 |succ n ih=>exact b5.succ ((ih.and ((b5.ge 2147483648).and pX)).imp fun fu ⟨h,⟨hfu,pX⟩⟩=>fun px=>by rw [o3];exact af9 hfu pX h px)
theorem NA:b5 aiG:=(ajX 8589934592).imp fun fu h px hpre=>h px bV hpre
def RK(fu:Nat):Prop:= ∀(pa pb:Int),Ok (MA fu pa pb) (fun _=>True)
theorem rI:b5 RK:=(b5.ge 2147483648).imp fun fu hfu pa pb=>by
 exact oD (fun _=>oS) fun g1=>oS
def UN(fu:Nat):Prop:= ∀(px:aB),wt px≤1073741824→Ok (iT fu px) (fun _=>True)
def zW(n:Nat)(m:mP):Prop:= ∀(px:aB),wt px<n→wt px≤1073741824→Ok (m px) (fun _=>True)
theorem TB{n fu:Nat}(hfu:2147483648≤fu)(rI:RK fu){r_sSExprDepth:mP}(h_sSExprDepth:zW n r_sSExprDepth):zW (n+1) (AJ fu r_sSExprDepth):=by
 intro px hm hpre
 have:=aB.wt_eq px
 have:s_.size=0:=rfl
 refine oN (fun _=>oS) fun g1=>?_;refine oEN (fun i2 v3 hl3=>?_) ?_
 ·have:=aY px.gList
  have:=cR px.gList i2 hl3
  exact oB (h_sSExprDepth (bB px.gList i2) bV bV) fun x7 _=>oB (rI v3 x7) fun x9 _=>nX
 intro v3 _
 exact oS
theorem VM(n:Nat):b5 fun fu=>zW n (iT fu):=by
 induction n with
 |zero=>exact .all fun fu=>fun _ h=>absurd h (Nat.not_lt_zero _)
 |succ n ih=>exact b5.succ ((ih.and ((b5.ge 2147483648).and rI)).imp fun fu ⟨h,⟨hfu,rI⟩⟩=>fun px=>by rw [iT];exact TB hfu rI h px)
theorem AE:b5 UN:=(VM 8589934592).imp fun fu h px hpre=>h px bV hpre
def PD(fu:Nat):Prop:= ∀(px:aB),wt px≤1073741824→Ok (iE fu px) (fun _=>True)
theorem cS:b5 PD:=((((b5.ge 2147483648).and NB).and NA).and AE).imp fun fu ⟨⟨⟨hfu,NB⟩,NA⟩,AE⟩ px hpre=>by
 refine oB (NB px 900 bV) fun x2 _=>?_;refine oD (fun g2=>?_) fun g2=>?_
 ·refine oB (NA px bV) fun x5 _=>?_;refine oC (fun g4=>?_) fun g4=>?_
  ·exact oB (AE px bV) fun x8 _=>oS
  exact oS
 exact oS
def B3(fu:Nat):Prop:= ∀(plist:List aB),wl plist≤1073741824→Ok (yU fu plist) (fun r=>wl r.1≤wl plist)
theorem iF:b5 B3:=(b5.ge 2147483648).imp fun fu hfu plist hpre=>by
 have:=(aT:wl ([]:List ByteArray)=0∧_)
 refine NH plist 1 (fun i1 v3 hl2 hI3 _ _=>?_) ?_
 ·have:=aY plist
  have:=cR plist i1 hl2
  have:=aB.wt_eq (bB plist i1)
  have:s_.size=0:=rfl
  refine oD (fun _=>oR) fun g4=>?_
  have:=D3 g4
  have:=aY (v3)
  have:=cG ((bB plist i1).gAtom)
  have:=bA ((bB plist i1).gAtom)
  refine oG fun z5=>?_
  have:=b7 v3 ([((bB plist i1).gAtom)]:List ByteArray)
  exact nX
 intro v3 h1
 exact oS
def FJ(fu:Nat):Prop:= ∀(ps:ByteArray),Ok (cI fu ps) (fun r=>wt r=ps.size)
theorem bS:b5 FJ:=(b5.ge 2147483648).imp fun fu hfu ps=>by
 have:=(aT:wl ([]:List aB)=0∧_)
 have:=aB.wt_mk ps []
 exact oS
def I1(fu:Nat):Prop:= ∀(plist:List ByteArray),wl plist≤1073741824→Ok (C0 fu plist) (fun r=>wl r≤wl plist)
theorem mN:b5 I1:=((b5.ge 2147483648).and bS).imp fun fu ⟨hfu,bS⟩ plist hpre=>by
 have:=(aT:wl ([]:List aB)=0∧_)
 refine NH plist 1 (fun i1 v3 hl2 hI3 _ _=>?_) ?_
 ·have:=aY plist
  have:=cR plist i1 hl2
  have:=bA (bB plist i1)
  refine oB (bS (bB plist i1)) fun x7 h4=>?_
  have:=aY (v3)
  have:=cG x7
  refine oG fun z5=>?_
  have:=b7 v3 ([x7]:List aB)
  exact nX
 intro v3 h1
 exact oS
def V7(fu:Nat):Prop:= ∀(plist:List aB),wl plist≤1073741824→Ok (l5 fu plist) (fun r=>wt r=wl plist)
theorem eW:b5 V7:=(b5.ge 2147483648).imp fun fu hfu plist hpre=>by
 have:=(aT:wl ([]:List aB)=0∧_)
 have:=aY (plist)
 refine oG fun z1=>?_
 have:s_.size=0:=rfl
 have:=b7 ([]:List aB) plist
 have:=aB.wt_mk s_ (([])++plist)
 exact oS
def UK(fu:Nat):Prop:= ∀(pa pb:aB),wt pa≤1073741824→Ok (fW fu pa pb) (fun _=>True)
def zV(n:Nat)(m:mO):Prop:= ∀(pa pb:aB),wt pa<n→wt pa≤1073741824→Ok (m pa pb) (fun _=>True)
theorem SX{n fu:Nat}(hfu:2147483648≤fu){r_sEqualSExpr:mO}(h_sEqualSExpr:zV n r_sEqualSExpr):zV (n+1) (AG fu r_sEqualSExpr):=by
 intro pa pb hm hpre
 have:=aB.wt_eq pa
 have:=aB.wt_eq pb
 refine oN (fun _=>oS) fun g1=>?_
 have:=aY pa.gList
 have:=aY pb.gList
 refine oN (fun _=>oS) fun g2=>?_;refine DL ?_ ?_
 ·refine Ok.loop1 ?_;rintro i3 ⟨⟩ hl4
  have:=aY (pb.gList)
  refine oG fun z6=>?_
  have:=cR pa.gList i3 hl4
  have:=cR pb.gList i3 z6
  exact oB (h_sEqualSExpr (bB pa.gList i3) (bB pb.gList i3) bV bV) fun x8 _=>oW (fun _=>oR) fun g8=>nX
 rintro⟨⟩-
 exact oS
theorem VG(n:Nat):b5 fun fu=>zV n (fW fu):=by
 induction n with
 |zero=>exact .all fun fu=>fun _ _ h=>absurd h (Nat.not_lt_zero _)
 |succ n ih=>exact b5.succ ((ih.and (b5.ge 2147483648)).imp fun fu ⟨h,hfu⟩=>fun pa pb=>by rw [fW];exact SX hfu h pa pb)
theorem gM:b5 UK:=(VG 8589934592).imp fun fu h pa pb hpre=>h pa pb bV hpre
end Go.Proofs.YtpioomclpaiomaaGreat.W
