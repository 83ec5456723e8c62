/- Words, rules and walks of several kinds, laid together: MaP6, MaP7, MaP8, MaP9, MaFnd, Bk, PlOk, OkW, OkA1, OkA2. No conditions but those that each theorem states. -/
import Derived.Test.YtpioomclpaiomaaGreatQha19938eb
import Derived.Test.YtpioomclpaiomaaGreatQhae6a8691
import Derived.Test.YtpioomclpaiomaaGreatQh34fcd349
import Derived.Test.YtpioomclpaiomaaGreatQhbde349b7
set_option linter.unusedSimpArgs false
set_option linter.unusedVariables false
namespace Go.Proofs.YtpioomclpaiomaaGreat.W
set_option maxRecDepth 100000
set_option maxHeartbeats 40000000
noncomputable section
open Go.RowKit Go.Proofs
set_option linter.unusedSimpArgs false
set_option linter.unusedVariables false
attribute [local irreducible] lt
def XN(m:ByteArray→Option Bool):Prop:= ∀(ps:ByteArray) (r:Bool),m ps=some r→cE Tryz.prog 192 [pS ps] (pB r:PV)
def TN(fu:Nat)(ps:ByteArray):Nat→Unit→Option (LR Unit Bool):=
 fun i1 _=>gd (i1<(ps).size)
 (sw (!decide ((((zC ps i1).toNat:Int):Int)=32))
 (some (.ret false))
 (some (.next ())))
def TO(fu:Nat)(ps:ByteArray):Option (Bool⊕Unit):=
 loopN (TN fu ps) (ps.size-0) 0 ()
def B7(fu:Nat)(ps:ByteArray):Option Bool:=
 so (TO fu ps) (fun _=>
 some true)
theorem TP(fu:Nat):XN (B7 fu):=by
 intro ps r H
 have H:=fI H
 refine qI Tryz.func192 (fun C hC=>?_)
 refine qS (qR (q1 aF (qN ?_)))
 iterate 2 refine qS ?_
 refine qR (q1 aF (qN ?_))
 refine szF 0 (fun hl2=>?_)
 refine cM (σ:=Unit) (fun i1 _=>⟨[(0,pS ps),(2,pB false),(3,pN i1)],⟨[],[]⟩⟩) (fun _=>⟨[(2,pB false)],⟨[],[]⟩⟩) (gU H) ?_ ?_
 ·rintro i1 ⟨⟩ H
  iterate 2 refine qS ?_
  refine qR ?_
  iterate 2 refine q1 aF ?_
  refine q1 (aV.lenS rfl rfl rfl Tryz.underlying9) (q1 hZ (qN ?_))
  refine eW H (fun h3 h3l H=>?_) (fun h3 H=>?_)
  ·have h3n:i1<ps.size:=by have:=of_decide_eq_true h3;omega
   refine aP.skip (qS (aP.block (qS (qR ?_))))
   iterate 2 refine q1 aF ?_
   refine dF H fun z4 H=>(q1 (aV.indexS (k:=i1) rfl rfl rfl rfl z4 Tryz.underlying9) (q1 MM (qN ?_)))
   refine bA H (fun h5 H=>?_) (fun h5 H=>?_)
   ·refine qS (qR (q1 aF (qN (aP.ret ?_))))
    obtain rfl:_=r:=(rG (aY H):)
    exact bM
   refine aP.skip (qR (q1 aF (q1 (aV.addI rfl rfl rfl rfl (c:=((i1+1:Nat):Int)) (by omega) (by omega)) (q1 aF (qN ?_)))))
   exact iY h3l ⟨_,(aY H:),b0⟩
  refine aP.exit ?_;exact lS ⟨_,H,b0⟩
 rintro⟨⟩ H
 refine qS (qR (q1 aF (qN (aP.ret ?_))))
 obtain rfl:_=r:=(aY H:)
 exact bM
def aaD(m:(ByteArray×(List ByteArray)×(List aT)×(List aL)×(List aH)×(List aI))→aB→Option (Bool×(ByteArray×(List ByteArray)×(List aT)×(List aL)×(List aH)×(List aI)))):Prop:= ∀(pq0:ByteArray×(List ByteArray)×(List aT)×(List aL)×(List aH)×(List aI)) (pa1:aB) (r:Bool×(ByteArray×(List ByteArray)×(List aT)×(List aL)×(List aH)×(List aI))),m pq0 pa1=some r→cY Tryz.prog 220 [.ptr 0 0,(aB.pv pa1)] ⟨[some ⟨131,[pS pq0.1,rS pq0.2.1,vF pq0.2.2.1 0,lU pq0.2.2.2.1 1,lW pq0.2.2.2.2.1 2,lV pq0.2.2.2.2.2 3]⟩],[⟨60,5,aT.trs (pq0.2.2.1),false⟩,⟨116,3,aL.trs (pq0.2.2.2.1),false⟩,⟨55,12,aH.trs (pq0.2.2.2.2.1),false⟩,⟨148,16,aI.trs (pq0.2.2.2.2.2),false⟩]⟩ (fun q t=>q=(pB r.1:PV)∧t=⟨[some ⟨131,[pS r.2.1,rS r.2.2.1,vF r.2.2.2.1 0,lU r.2.2.2.2.1 1,lW r.2.2.2.2.2.1 2,lV r.2.2.2.2.2.2 3]⟩],[⟨60,5,aT.trs (r.2.2.2.1),false⟩,⟨116,3,aL.trs (r.2.2.2.2.1),false⟩,⟨55,12,aH.trs (r.2.2.2.2.2.1),false⟩,⟨148,16,aI.trs (r.2.2.2.2.2.2),false⟩]⟩)
def GK(fu:Nat)(pq0:ByteArray×(List ByteArray)×(List aT)×(List aL)×(List aH)×(List aI))(pa1:aB):Option (Bool×(ByteArray×(List ByteArray)×(List aT)×(List aL)×(List aH)×(List aI))):=
 bd (c7 fu pa1 0) (fun x2=>
 sw (decide (x2.gAtom=CZ))
 (bd (t8 fu pa1) (fun(x5,x6)=>
 gd ((pq0.2.2.1).length+(([x5]:List aT)).length≤68719476736)
 (some (x6,(pq0.1,pq0.2.1,pq0.2.2.1++([x5]:List aT),pq0.2.2.2.1,pq0.2.2.2.2.1,pq0.2.2.2.2.2)))))
 (sw (decide (x2.gAtom=JY))
 (bd (p9 fu pa1) (fun(x10,x11)=>
 gd ((pq0.2.2.2.1).length+(([x10]:List aL)).length≤68719476736)
 (some (x11,(pq0.1,pq0.2.1,pq0.2.2.1,pq0.2.2.2.1++([x10]:List aL),pq0.2.2.2.2.1,pq0.2.2.2.2.2)))))
 (sw (decide (x2.gAtom=JZ))
 (bd (qB fu pa1) (fun(x15,x16)=>
 gd ((pq0.2.2.2.2.1).length+(([x15]:List aH)).length≤68719476736)
 (some (x16,(pq0.1,pq0.2.1,pq0.2.2.1,pq0.2.2.2.1,pq0.2.2.2.2.1++([x15]:List aH),pq0.2.2.2.2.2)))))
 (sw (decide (x2.gAtom=adE))
 (bd (qA fu pa1) (fun(x20,x21)=>
 gd ((pq0.2.2.2.2.2).length+(([x20]:List aI)).length≤68719476736)
 (some (x21,(pq0.1,pq0.2.1,pq0.2.2.1,pq0.2.2.2.1,pq0.2.2.2.2.1,pq0.2.2.2.2.2++([x20]:List aI))))))
 (some (false,pq0))))))
theorem XP(fu:Nat):aaD (GK fu):=by
 intro pq0 pa1 r H
 have H:=fI H
 refine qI Tryz.func220 (fun C hC=>?_)
 refine qS (qR (q1 (jU ([pS pa1.gAtom,a9 pa1.gList])) (q1 aF (qN ?_))))
 iterate 2 refine qS ?_
 refine qR (q1 (cV [pS pa1.gAtom,a9 pa1.gList] bN) (bO H fun x2 z1 H=>(q1 (bI Tryz.func219 (cR fu pa1 0 _ z1)) (q1 (rF1 q7) (qN (aP.block (qS (qR (q1 GS (q1 aF (qN ?_)))))))))))
 refine bA H (fun h3 H=>?_) (fun h3 H=>?_)
 ·refine qS (qR (q1 (cV [pS pa1.gAtom,a9 pa1.gList] bN) (fK H fun x5 x6 z4 H=>(q1 (bI Tryz.func230 (JQ fu pa1 _ z4)) (q1 aF ?_)))))
  iterate 2 refine q1 y1 ?_
  refine q1 (iV EI) (q1 (bU AX) (q1 aF (qN (qS (dF H fun z7 H=>(dW ?_))))))
  iterate 2 refine dI [0] aF ?_
  refine dI [24] oO (dI [25] (a5 uP) (dD [26] (bG OI) (dD [5] (cV [pS x5.gName,rS x5.gSupertraits,pB x5.gAuto,pB x5.gAssoc,kC x5.gSignatures] sP) (dI [28] (iA ([x5]:List aT) G0 EI) (dE [27,29] (mJ z7 G0 ahP) (dI [23] oO (dI [31] (a5 uP) (nI [32,30] (bU ahI) (dN (qS (qR ?_)))))))))))
  iterate 2 refine q1 aF ?_
  refine qN (aP.ret ?_)
  obtain rfl:_=r:=(aY H:)
  exact bM
 refine qS (qR (q1 GS (q1 aF (qN ?_))))
 refine bA H (fun h8 H=>?_) (fun h8 H=>?_)
 ·refine qS (qR (q1 (cV [pS pa1.gAtom,a9 pa1.gList] bN) (fK H fun x10 x11 z9 H=>(q1 (bI Tryz.func231 (D8 fu pa1 _ z9)) (q1 aF ?_)))))
  iterate 2 refine q1 y1 ?_
  refine q1 (iV AM) (q1 (bU AK) (q1 aF (qN (qS (dF H fun z12 H=>(dW ?_))))))
  iterate 2 refine dI [0] aF ?_
  refine dI [42] oO (dI [43] (a5 qZ) (dD [44] (bG HY) (dD [7] (cV [pS x10.gName,rS x10.gVars,eX x10.gConstructors] rM) (dI [46] (iA ([x10]:List aL) A9 AM) (dE [45,47] (mJ z12 A9 ahQ) (dI [41] oO (dI [49] (a5 qZ) (nI [50,48] (bU ahJ) (dN (qS (qR ?_)))))))))))
  iterate 2 refine q1 aF ?_
  refine qN (aP.ret ?_)
  obtain rfl:_=r:=(aY H:)
  exact bM
 refine qS (qR (q1 GS (q1 aF (qN ?_))))
 refine bA H (fun h13 H=>?_) (fun h13 H=>?_)
 ·refine qS (qR (q1 (cV [pS pa1.gAtom,a9 pa1.gList] bN) (fK H fun x15 x16 z14 H=>(q1 (bI Tryz.func232 (EF fu pa1 _ z14)) (q1 aF ?_)))))
  iterate 2 refine q1 y1 ?_
  refine q1 (iV tU) (q1 (bU rR) (q1 aF (qN (qS (dF H fun z17 H=>(dW ?_))))))
  iterate 2 refine dI [0] aF ?_
  refine dI [60] oO (dI [61] (a5 oA) (dD [62] (bG BW) (dD [9] (cV [pS x15.gTrait,rS x15.gVars,pI x15.gHead.gKind,pS x15.gHead.gName,a4 x15.gHead.gArgs,fO x15.gWhere,pB x15.gDefault,pB x15.gHasAssoc,pI x15.gAssoc.gKind,pS x15.gAssoc.gName,a4 x15.gAssoc.gArgs,kS x15.gMethods] pA) (dI [64] (iA ([x15]:List aH) xV tU) (dE [63,65] (mJ z17 xV ahR) (dI [59] oO (dI [67] (a5 oA) (nI [68,66] (bU ahK) (dN (qS (qR ?_)))))))))))
  iterate 2 refine q1 aF ?_
  refine qN (aP.ret ?_)
  obtain rfl:_=r:=(aY H:)
  exact bM
 refine qS (qR (q1 GS (q1 aF (qN ?_))))
 refine bA H (fun h18 H=>?_) (fun h18 H=>?_)
 ·refine qS (qR (q1 (cV [pS pa1.gAtom,a9 pa1.gList] bN) (fK H fun x20 x21 z19 H=>(q1 (bI Tryz.func233 (EB fu pa1 _ z19)) (q1 aF ?_)))))
  iterate 2 refine q1 y1 ?_
  refine q1 (iV AN) (q1 (bU yZ) (q1 aF (qN (qS (dF H fun z22 H=>(dW ?_))))))
  iterate 2 refine dI [0] aF ?_
  refine dI [78] oO (dI [79] (a5 uQ) (dD [80] (bG OJ) (dD [11] (cV [pS x20.gName,rS x20.gVars,fO x20.gWhere,NT x20.gParams,pI x20.gResult.gKind,pS x20.gResult.gName,a4 x20.gResult.gArgs,pI x20.gBody.gKind,pS x20.gBody.gTrait,pS x20.gBody.gName,pI x20.gBody.gN,pI x20.gBody.gType.gKind,pS x20.gBody.gType.gName,a4 x20.gBody.gType.gArgs,gQ x20.gBody.gArgs,oM x20.gBody.gArms] pJ) (dI [82] (iA ([x20]:List aI) G1 AN) (dE [81,83] (mJ z22 G1 ahS) (dI [77] oO (dI [85] (a5 uQ) (nI [86,84] (bU ahL) (dN (qS (qR ?_)))))))))))
  iterate 2 refine q1 aF ?_
  refine qN (aP.ret ?_)
  obtain rfl:_=r:=(aY H:)
  exact bM
 refine aP.skip (qS (qR (q1 aF (qN (aP.ret ?_)))))
 obtain rfl:_=r:=(aY H:)
 exact bM
def XQ(m:aK→Option ((List ByteArray)×(List ByteArray)×(List ByteArray)×(List ByteArray))):Prop:= ∀(pa0:aK) (r:(List ByteArray)×(List ByteArray)×(List ByteArray)×(List ByteArray)),m pa0=some r→cE Tryz.prog 234 [(aK.pv pa0)] (.tup [rS r.1,rS r.2.1,rS r.2.2.1,rS r.2.2.2]:PV)
def TQ(fu:Nat)(pa0:aK):Nat→((List ByteArray))→Option (LR ((List ByteArray)) ((List ByteArray)×(List ByteArray)×(List ByteArray)×(List ByteArray))):=
 fun i1 v3=>gd ((v3).length+(([((a3 pa0.gTraits i1).gName)]:List ByteArray)).length≤68719476736)
 (some (.next (v3++([((a3 pa0.gTraits i1).gName)]:List ByteArray))))
def TU(fu:Nat)(pa0:aK):Option (((List ByteArray)×(List ByteArray)×(List ByteArray)×(List ByteArray))⊕((List ByteArray))):=
 loopN (TQ fu pa0) (pa0.gTraits.length-0) 0 ([])
def TS(fu:Nat)(pa0:aK)(v3:List ByteArray)(i7:Nat)(v10 v11:List ByteArray):Nat→((List ByteArray))→Option (LR ((List ByteArray)) (LR ((List ByteArray)×(List ByteArray)) ((List ByteArray)×(List ByteArray)×(List ByteArray)×(List ByteArray)))):=
 fun i15 v17=>gd ((v17).length+(([((a3 ((a3 pa0.gDataTypes i7).gConstructors) i15).gName)]:List ByteArray)).length≤68719476736)
 (some (.next (v17++([((a3 ((a3 pa0.gDataTypes i7).gConstructors) i15).gName)]:List ByteArray))))
def TW(fu:Nat)(pa0:aK)(v3:List ByteArray)(i7:Nat)(v10 v11:List ByteArray):Option ((LR ((List ByteArray)×(List ByteArray)) ((List ByteArray)×(List ByteArray)×(List ByteArray)×(List ByteArray)))⊕((List ByteArray))):=
 loopN (TS fu pa0 v3 i7 v10 v11) (((a3 pa0.gDataTypes i7).gConstructors).length-0) 0 v11
def TR(fu:Nat)(pa0:aK)(v3:List ByteArray):Nat→((List ByteArray)×(List ByteArray))→Option (LR ((List ByteArray)×(List ByteArray)) ((List ByteArray)×(List ByteArray)×(List ByteArray)×(List ByteArray))):=
 fun i7 (v10,v11)=>gd ((v10).length+(([((a3 pa0.gDataTypes i7).gName)]:List ByteArray)).length≤68719476736)
 (so (TW fu pa0 v3 i7 v10 v11) (fun v17=>
 some (.next ((v10++([((a3 pa0.gDataTypes i7).gName)]:List ByteArray)),v17))))
def TV(fu:Nat)(pa0:aK)(v3:List ByteArray):Option (((List ByteArray)×(List ByteArray)×(List ByteArray)×(List ByteArray))⊕((List ByteArray)×(List ByteArray))):=
 loopN (TR fu pa0 v3) (pa0.gDataTypes.length-0) 0 (([]),([]))
def TT(fu:Nat)(pa0:aK)(v3 v10 v11:List ByteArray):Nat→((List ByteArray))→Option (LR ((List ByteArray)) ((List ByteArray)×(List ByteArray)×(List ByteArray)×(List ByteArray))):=
 fun i21 v23=>lt (a3 pa0.gFunctions i21) (fun y26=>
 gd ((v23).length+(([y26.gName]:List ByteArray)).length≤68719476736)
 (some (.next (v23++([y26.gName]:List ByteArray)))))
def TX(fu:Nat)(pa0:aK)(v3 v10 v11:List ByteArray):Option (((List ByteArray)×(List ByteArray)×(List ByteArray)×(List ByteArray))⊕((List ByteArray))):=
 loopN (TT fu pa0 v3 v10 v11) (pa0.gFunctions.length-0) 0 ([])
def B8(fu:Nat)(pa0:aK):Option ((List ByteArray)×(List ByteArray)×(List ByteArray)×(List ByteArray)):=
 so (TU fu pa0) (fun v3=>
 so (TV fu pa0 v3) (fun(v10,v11)=>
 so (TX fu pa0 v3 v10 v11) (fun v23=>
 some (v3,v10,v11,v23))))
theorem TY(fu:Nat):XQ (B8 fu):=by
 intro pa0 r H
 have H:=fI H
 refine qI Tryz.func234 (fun C hC=>?_)
 refine qS (qR (q1 (jU (gH pa0)) ?_))
 iterate 4 refine q1 aF ?_
 refine qN (qS (qR (q1 (t2 ([]:List ByteArray) b3 lA) (q1 aF (qN (qS (qR (q1 (t2 ([]:List ByteArray) b3 lA) (q1 aF (qN (qS (qR (q1 (t2 ([]:List ByteArray) b3 lA) ?_)))))))))))))
 refine q1 aF (qN (qS (qR (q1 (t2 ([]:List ByteArray) b3 lA) (q1 aF (qN ?_))))))
 iterate 2 refine qS ?_
 refine qR (q1 aF (qN ?_))
 refine aP.fact (cO 0 2 rfl rfl rfl (aT.trs_len _)) (fun hl4=>?_)
 refine cM (σ:=(List ByteArray)) (fun i1 v3=>⟨[(1,.ptr 0 0),(2,.nil),(3,.nil),(4,.nil),(5,.nil),(6,aS v3 0),(7,aS [] 1),(8,aS [] 2),(9,aS [] 3),(10,pN i1)],⟨[some ⟨131,gH pa0⟩],[⟨9,1,aW (v3),false⟩,⟨9,1,aW ([]),false⟩,⟨9,1,aW ([]),false⟩,⟨9,1,aW ([]),false⟩]⟩⟩) (fun v3=>⟨[(1,.ptr 0 0),(2,.nil),(3,.nil),(4,.nil),(5,.nil),(6,aS v3 0),(7,aS [] 1),(8,aS [] 2),(9,aS [] 3)],⟨[some ⟨131,gH pa0⟩],[⟨9,1,aW (v3),false⟩,⟨9,1,aW ([]),false⟩,⟨9,1,aW ([]),false⟩,⟨9,1,aW ([]),false⟩]⟩⟩) (gU H) ?_ ?_
 ·rintro i1 v3 H
  iterate 2 refine qS ?_
  refine qR (q1 aF (q1 (a5 uP) (q1 (bG OI) (q1 (eT G0 (aT.trs_len _)) (q1 hZ (qN ?_))))))
  refine eW H (fun h5 h5l H=>?_) (fun h5 H=>?_)
  ·have h5n:=a8 h5
   refine aP.skip (qS (aP.block (qR (q1 aF (q1 (a5 uP) (q1 (bG OI) (q1 aF (q1 (iH h5n G0) (q1 (qX FH) (q1 (pZ fB) (q1 (iA ([((a3 pa0.gTraits i1).gName)]:List ByteArray) b3 lA) (dF H fun z6 H=>(q1 (mJ z6 b3 rT) ?_)))))))))))))
   refine q1 aF (qN (qR (q1 aF (q1 (aV.addI rfl rfl rfl rfl (c:=((i1+1:Nat):Int)) (by omega) (by omega)) (q1 aF (qN ?_))))))
   exact iY h5l ⟨_,(aY H:),b0⟩
  refine aP.exit ?_;exact lS ⟨_,H,b0⟩
 rintro v3 H
 iterate 2 refine qS ?_
 refine qR (q1 aF (qN ?_))
 refine aP.fact (cO 0 3 rfl rfl rfl (aL.trs_len _)) (fun hl12=>?_)
 refine cM (σ:=(List ByteArray)×(List ByteArray)) (fun i7 (v10,v11)=>⟨[(1,.ptr 0 0),(2,.nil),(3,.nil),(4,.nil),(5,.nil),(6,aS v3 0),(7,aS v10 1),(8,aS v11 2),(9,aS [] 3),(11,pN i7)],⟨[some ⟨131,gH pa0⟩],[⟨9,1,aW (v3),false⟩,⟨9,1,aW (v10),false⟩,⟨9,1,aW (v11),false⟩,⟨9,1,aW ([]),false⟩]⟩⟩) (fun(v10,v11)=>⟨[(1,.ptr 0 0),(2,.nil),(3,.nil),(4,.nil),(5,.nil),(6,aS v3 0),(7,aS v10 1),(8,aS v11 2),(9,aS [] 3)],⟨[some ⟨131,gH pa0⟩],[⟨9,1,aW (v3),false⟩,⟨9,1,aW (v10),false⟩,⟨9,1,aW (v11),false⟩,⟨9,1,aW ([]),false⟩]⟩⟩) (gU H) ?_ ?_
 ·rintro i7 ⟨v10,v11⟩ H
  iterate 2 refine qS ?_
  refine qR (q1 aF (q1 (a5 qZ) (q1 (bG HY) (q1 (eT A9 (aL.trs_len _)) (q1 hZ (qN ?_))))))
  refine eW H (fun h13 h13l H=>?_) (fun h13 H=>?_)
  ·have h13n:=a8 h13
   refine aP.skip (qS (aP.block (qS (qR (q1 aF (q1 (a5 qZ) (q1 (bG HY) (q1 aF (q1 (iH h13n A9) (q1 (qX R9) (q1 (pZ fB) (q1 (iA ([((a3 pa0.gDataTypes i7).gName)]:List ByteArray) b3 lA) (dF H fun z14 H=>?_)))))))))))))
   refine q1 (mJ z14 b3 rT) (q1 aF (qN (qS (qR (q1 aF (qN ?_))))))
   refine cM (σ:=(List ByteArray)) (fun i15 v17=>⟨[(1,.ptr 0 0),(2,.nil),(3,.nil),(4,.nil),(5,.nil),(6,aS v3 0),(7,aS (v10++([((a3 pa0.gDataTypes i7).gName)]:List ByteArray)) 1),(8,aS v17 2),(9,aS [] 3),(11,pN i7),(12,pN i15),(34,pN i7),(35,.ptr 0 3),(36,qO pa0.gDataTypes),(37,pN pa0.gDataTypes.length),(38,pB (decide ((((i7:Nat):Int):Int)<((pa0.gDataTypes.length:Nat):Int)))),(41,aS v10 1),(42,.ptr 0 3),(43,qO pa0.gDataTypes),(44,pN i7),(45,.eptr (aL.cs (a3 pa0.gDataTypes i7))),(46,.eptr (aL.cs (a3 pa0.gDataTypes i7))),(47,pS ((a3 pa0.gDataTypes i7).gName)),(48,rS ([((a3 pa0.gDataTypes i7).gName)]:List ByteArray)),(49,aS (v10++([((a3 pa0.gDataTypes i7).gName)]:List ByteArray)) 1)],⟨[some ⟨131,gH pa0⟩],[⟨9,1,aW (v3),false⟩,⟨9,1,aW (v10++([((a3 pa0.gDataTypes i7).gName)]:List ByteArray)),false⟩,⟨9,1,aW (v17),false⟩,⟨9,1,aW ([]),false⟩]⟩⟩) (fun v17=>⟨[(1,.ptr 0 0),(2,.nil),(3,.nil),(4,.nil),(5,.nil),(6,aS v3 0),(7,aS (v10++([((a3 pa0.gDataTypes i7).gName)]:List ByteArray)) 1),(8,aS v17 2),(9,aS [] 3),(11,pN i7),(34,pN i7),(35,.ptr 0 3),(36,qO pa0.gDataTypes),(37,pN pa0.gDataTypes.length),(38,pB (decide ((((i7:Nat):Int):Int)<((pa0.gDataTypes.length:Nat):Int)))),(41,aS v10 1),(42,.ptr 0 3),(43,qO pa0.gDataTypes),(44,pN i7),(45,.eptr (aL.cs (a3 pa0.gDataTypes i7))),(46,.eptr (aL.cs (a3 pa0.gDataTypes i7))),(47,pS ((a3 pa0.gDataTypes i7).gName)),(48,rS ([((a3 pa0.gDataTypes i7).gName)]:List ByteArray)),(49,aS (v10++([((a3 pa0.gDataTypes i7).gName)]:List ByteArray)) 1)],⟨[some ⟨131,gH pa0⟩],[⟨9,1,aW (v3),false⟩,⟨9,1,aW (v10++([((a3 pa0.gDataTypes i7).gName)]:List ByteArray)),false⟩,⟨9,1,aW (v17),false⟩,⟨9,1,aW ([]),false⟩]⟩⟩) (gU H) ?_ ?_
   ·rintro i15 v17 H
    iterate 2 refine qS ?_
    refine qR (q1 aF (q1 (a5 qZ) (q1 (bG HY) (q1 aF (q1 (iH h13n A9) (q1 (qX lT) (q1 (pZ wR) ?_)))))))
    refine ah6 56 (aD.trs_len _) (fun hl18=>?_)
    refine q1 (eT uF (aD.trs_len _)) (q1 hZ (qN ?_))
    refine eW H (fun h19 h19l H=>?_) (fun h19 H=>?_)
    ·have h19n:=a8 h19
     refine aP.skip (qS (aP.block (qR (q1 aF (q1 (a5 qZ) (q1 (bG HY) (q1 aF (q1 (iH h13n A9) (q1 (qX lT) (q1 (pZ wR) (q1 aF (q1 (iH h19n uF) (q1 (qX MG) ?_)))))))))))))
     refine q1 (pZ fB) (q1 (iA ([((a3 ((a3 pa0.gDataTypes i7).gConstructors) i15).gName)]:List ByteArray) b3 lA) (dF H fun z20 H=>(q1 (mJ z20 b3 rT) (q1 aF (qN (qR (q1 aF (q1 (aV.addI rfl rfl rfl rfl (c:=((i15+1:Nat):Int)) (by omega) (by omega)) (q1 aF (qN ?_))))))))))
     exact iY h19l ⟨_,(aY H:),b0⟩
    refine aP.exit ?_;exact lS ⟨_,H,b0⟩
   rintro v17 H
   refine qR (q1 aF (q1 (aV.addI rfl rfl rfl rfl (c:=((i7+1:Nat):Int)) (by omega) (by omega)) (q1 aF (qN ?_))))
   exact iY h13l ⟨_,(aY H:),b0⟩
  refine aP.exit ?_;exact lS ⟨_,H,b0⟩
 rintro⟨v10,v11⟩ H
 iterate 2 refine qS ?_
 refine qR (q1 aF (qN ?_))
 refine aP.fact (cO 0 5 rfl rfl rfl (aI.trs_len _)) (fun hl24=>?_)
 refine cM (σ:=(List ByteArray)) (fun i21 v23=>⟨[(1,.ptr 0 0),(2,.nil),(3,.nil),(4,.nil),(5,.nil),(6,aS v3 0),(7,aS v10 1),(8,aS v11 2),(9,aS v23 3),(13,pN i21)],⟨[some ⟨131,gH pa0⟩],[⟨9,1,aW (v3),false⟩,⟨9,1,aW (v10),false⟩,⟨9,1,aW (v11),false⟩,⟨9,1,aW (v23),false⟩]⟩⟩) (fun v23=>⟨[(2,.nil),(3,.nil),(4,.nil),(5,.nil),(6,aS v3 0),(7,aS v10 1),(8,aS v11 2),(9,aS v23 3)],⟨[some ⟨131,gH pa0⟩],[⟨9,1,aW (v3),false⟩,⟨9,1,aW (v10),false⟩,⟨9,1,aW (v11),false⟩,⟨9,1,aW (v23),false⟩]⟩⟩) (gU H) ?_ ?_
 ·rintro i21 v23 H
  iterate 2 refine qS ?_
  refine qR (q1 aF (q1 (a5 uQ) (q1 (bG OJ) (q1 (eT G1 (aI.trs_len _)) (q1 hZ (qN ?_))))))
  refine eW H (fun h25 h25l H=>?_) (fun h25 H=>?_)
  ·have h25n:=a8 h25
   refine aP.skip (qS (aP.block (qR (q1 aF (q1 (a5 uQ) (q1 (bG OJ) (q1 aF (g0 H fun y26 h27 H=>(q1 (yO h27 h25n G1) (q1 (qX MA) (q1 (pZ fB) (q1 (iA ([y26.gName]:List ByteArray) b3 lA) (dF H fun z28 H=>?_)))))))))))))
   refine q1 (mJ z28 b3 rT) (q1 aF (qN (qR (q1 aF (q1 (aV.addI rfl rfl rfl rfl (c:=((i21+1:Nat):Int)) (by omega) (by omega)) (q1 aF (qN ?_)))))))
   exact iY h25l ⟨_,(aY H:),b0⟩
  refine aP.exit ?_;exact lS ⟨_,H,b0⟩
 rintro v23 H
 refine qS (qR ?_)
 iterate 8 refine q1 aF ?_
 refine qN (aP.ret ?_)
 obtain rfl:_=r:=(aY H:)
 exact qe (ps:= [_,_,_,_]) ⟨rfl,rfl⟩ ⟨rfl,rfl,rfl,rfl,trivial⟩
def XR(m:aK→Option Bool):Prop:= ∀(pp:aK) (r:Bool),m pp=some r→cE Tryz.prog 238 [(aK.pv pp)] (pB r:PV)
def TZ(fu:Nat)(pp:aK):Nat→Unit→Option (LR Unit Bool):=
 fun i1 _=>bd (pM fu (a3 pp.gTraits i1)) (fun x5=>
 sw (!(x5))
 (some (.ret false))
 (some (.next ())))
def T6(fu:Nat)(pp:aK):Option (Bool⊕Unit):=
 loopN (TZ fu pp) (pp.gTraits.length-0) 0 ()
def T3(fu:Nat)(pp:aK):Nat→Unit→Option (LR Unit Bool):=
 fun i7 _=>bd (mL fu (a3 pp.gDataTypes i7)) (fun x11=>
 sw (!(x11))
 (some (.ret false))
 (some (.next ())))
def T7(fu:Nat)(pp:aK):Option (Bool⊕Unit):=
 loopN (T3 fu pp) (pp.gDataTypes.length-0) 0 ()
def T4(fu:Nat)(pp:aK):Nat→Unit→Option (LR Unit Bool):=
 fun i13 _=>lt (a3 pp.gInstances i13) (fun y16=>
 bd (mN fu y16) (fun x19=>
 sw (!(x19))
 (some (.ret false))
 (some (.next ()))))
def T8(fu:Nat)(pp:aK):Option (Bool⊕Unit):=
 loopN (T4 fu pp) (pp.gInstances.length-0) 0 ()
def T5(fu:Nat)(pp:aK):Nat→Unit→Option (LR Unit Bool):=
 fun i21 _=>lt (a3 pp.gFunctions i21) (fun y24=>
 bd (mM fu y24) (fun x27=>
 sw (!(x27))
 (some (.ret false))
 (some (.next ()))))
def T9(fu:Nat)(pp:aK):Option (Bool⊕Unit):=
 loopN (T5 fu pp) (pp.gFunctions.length-0) 0 ()
def B9(fu:Nat)(pp:aK):Option Bool:=
 so (T6 fu pp) (fun _=>
 so (T7 fu pp) (fun _=>
 so (T8 fu pp) (fun _=>
 so (T9 fu pp) (fun _=>
 some true))))
theorem UA(fu:Nat):XR (B9 fu):=by
 intro pp r H
 have H:=fI H
 refine qI Tryz.func238 (fun C hC=>?_)
 refine qS (qR (q1 (jU (gH pp)) (q1 aF (qN ?_))))
 iterate 2 refine qS ?_
 refine qR (q1 aF (qN ?_))
 refine aP.fact (cO 0 2 rfl rfl rfl (aT.trs_len _)) (fun hl2=>?_)
 refine cM (σ:=Unit) (fun i1 _=>⟨[(1,.ptr 0 0),(2,pB false),(3,pN i1)],⟨[some ⟨131,gH pp⟩],[]⟩⟩) (fun _=>⟨[(1,.ptr 0 0),(2,pB false)],⟨[some ⟨131,gH pp⟩],[]⟩⟩) (gU H) ?_ ?_
 ·rintro i1 ⟨⟩ H
  iterate 2 refine qS ?_
  refine qR (q1 aF (q1 (a5 uP) (q1 (bG OI) (q1 (eT G0 (aT.trs_len _)) (q1 hZ (qN ?_))))))
  refine eW H (fun h3 h3l H=>?_) (fun h3 H=>?_)
  ·have h3n:=a8 h3
   refine aP.skip (qS (aP.block (qS (qR (q1 (a5 uP) (q1 (bG OI) (q1 aF (q1 (iH h3n G0) (q1 (j0 (aT.cs (a3 pp.gTraits i1)) sP) (bO H fun x5 z4 H=>(q1 (bI Tryz.func256 (yS fu (a3 pp.gTraits i1) _ z4)) (q1 gT (qN ?_)))))))))))))
   refine bA H (fun h6 H=>?_) (fun h6 H=>?_)
   ·refine qS (qR (q1 aF (qN (aP.ret ?_))))
    obtain rfl:_=r:=(rG (aY H):)
    exact bM
   refine aP.skip (qR (q1 aF (q1 (aV.addI rfl rfl rfl rfl (c:=((i1+1:Nat):Int)) (by omega) (by omega)) (q1 aF (qN ?_)))))
   exact iY h3l ⟨_,(aY H:),b0⟩
  refine aP.exit ?_;exact lS ⟨_,H,b0⟩
 rintro⟨⟩ H
 iterate 2 refine qS ?_
 refine qR (q1 aF (qN ?_))
 refine aP.fact (cO 0 3 rfl rfl rfl (aL.trs_len _)) (fun hl8=>?_)
 refine cM (σ:=Unit) (fun i7 _=>⟨[(1,.ptr 0 0),(2,pB false),(4,pN i7)],⟨[some ⟨131,gH pp⟩],[]⟩⟩) (fun _=>⟨[(1,.ptr 0 0),(2,pB false)],⟨[some ⟨131,gH pp⟩],[]⟩⟩) (gU H) ?_ ?_
 ·rintro i7 ⟨⟩ H
  iterate 2 refine qS ?_
  refine qR (q1 aF (q1 (a5 qZ) (q1 (bG HY) (q1 (eT A9 (aL.trs_len _)) (q1 hZ (qN ?_))))))
  refine eW H (fun h9 h9l H=>?_) (fun h9 H=>?_)
  ·have h9n:=a8 h9
   refine aP.skip (qS (aP.block (qS (qR (q1 (a5 qZ) (q1 (bG HY) (q1 aF (q1 (iH h9n A9) (q1 (j0 (aL.cs (a3 pp.gDataTypes i7)) rM) (bO H fun x11 z10 H=>(q1 (bI Tryz.func257 (uH fu (a3 pp.gDataTypes i7) _ z10)) (q1 gT (qN ?_)))))))))))))
   refine bA H (fun h12 H=>?_) (fun h12 H=>?_)
   ·refine qS (qR (q1 aF (qN (aP.ret ?_))))
    obtain rfl:_=r:=(rG (aY H):)
    exact bM
   refine aP.skip (qR (q1 aF (q1 (aV.addI rfl rfl rfl rfl (c:=((i7+1:Nat):Int)) (by omega) (by omega)) (q1 aF (qN ?_)))))
   exact iY h9l ⟨_,(aY H:),b0⟩
  refine aP.exit ?_;exact lS ⟨_,H,b0⟩
 rintro⟨⟩ H
 iterate 2 refine qS ?_
 refine qR (q1 aF (qN ?_))
 refine aP.fact (cO 0 4 rfl rfl rfl (aH.trs_len _)) (fun hl14=>?_)
 refine cM (σ:=Unit) (fun i13 _=>⟨[(1,.ptr 0 0),(2,pB false),(5,pN i13)],⟨[some ⟨131,gH pp⟩],[]⟩⟩) (fun _=>⟨[(1,.ptr 0 0),(2,pB false)],⟨[some ⟨131,gH pp⟩],[]⟩⟩) (gU H) ?_ ?_
 ·rintro i13 ⟨⟩ H
  iterate 2 refine qS ?_
  refine qR (q1 aF (q1 (a5 oA) (q1 (bG BW) (q1 (eT xV (aH.trs_len _)) (q1 hZ (qN ?_))))))
  refine eW H (fun h15 h15l H=>?_) (fun h15 H=>?_)
  ·have h15n:=a8 h15
   refine aP.skip (qS (aP.block (qS (qR (q1 (a5 oA) (q1 (bG BW) (q1 aF (g0 H fun y16 h17 H=>(q1 (yO h17 h15n xV) (q1 (j0 (aH.cs y16) pA) (bO H fun x19 z18 H=>(q1 (bI Tryz.func258 (uJ fu y16 _ z18)) (q1 gT ?_)))))))))))))
   refine qN ?_;refine bA H (fun h20 H=>?_) (fun h20 H=>?_)
   ·refine qS (qR (q1 aF (qN (aP.ret ?_))))
    obtain rfl:_=r:=(rG (aY H):)
    exact bM
   refine aP.skip (qR (q1 aF (q1 (aV.addI rfl rfl rfl rfl (c:=((i13+1:Nat):Int)) (by omega) (by omega)) (q1 aF (qN ?_)))))
   exact iY h15l ⟨_,(aY H:),b0⟩
  refine aP.exit ?_;exact lS ⟨_,H,b0⟩
 rintro⟨⟩ H
 iterate 2 refine qS ?_
 refine qR (q1 aF (qN ?_))
 refine aP.fact (cO 0 5 rfl rfl rfl (aI.trs_len _)) (fun hl22=>?_)
 refine cM (σ:=Unit) (fun i21 _=>⟨[(1,.ptr 0 0),(2,pB false),(6,pN i21)],⟨[some ⟨131,gH pp⟩],[]⟩⟩) (fun _=>⟨[(2,pB false)],⟨[some ⟨131,gH pp⟩],[]⟩⟩) (gU H) ?_ ?_
 ·rintro i21 ⟨⟩ H
  iterate 2 refine qS ?_
  refine qR (q1 aF (q1 (a5 uQ) (q1 (bG OJ) (q1 (eT G1 (aI.trs_len _)) (q1 hZ (qN ?_))))))
  refine eW H (fun h23 h23l H=>?_) (fun h23 H=>?_)
  ·have h23n:=a8 h23
   refine aP.skip (qS (aP.block (qS (qR (q1 (a5 uQ) (q1 (bG OJ) (q1 aF (g0 H fun y24 h25 H=>(q1 (yO h25 h23n G1) (q1 (j0 (aI.cs y24) pJ) (bO H fun x27 z26 H=>(q1 (bI Tryz.func259 (uI fu y24 _ z26)) (q1 gT ?_)))))))))))))
   refine qN ?_;refine bA H (fun h28 H=>?_) (fun h28 H=>?_)
   ·refine qS (qR (q1 aF (qN (aP.ret ?_))))
    obtain rfl:_=r:=(rG (aY H):)
    exact bM
   refine aP.skip (qR (q1 aF (q1 (aV.addI rfl rfl rfl rfl (c:=((i21+1:Nat):Int)) (by omega) (by omega)) (q1 aF (qN ?_)))))
   exact iY h23l ⟨_,(aY H:),b0⟩
  refine aP.exit ?_;exact lS ⟨_,H,b0⟩
 rintro⟨⟩ H
 refine qS (qR (q1 aF (qN (aP.ret ?_))))
 obtain rfl:_=r:=(aY H:)
 exact bM
def HV(m:aK→Option Bool):Prop:= ∀(pa0:aK) (r:Bool),m pa0=some r→cE Tryz.prog 221 [(aK.pv pa0)] (pB r:PV)
def rK(fu:Nat)(pa0:aK):Option Bool:=
 bd (B8 fu pa0) (fun(x2,x3,x4,x5)=>
 bd (dH fu pa0.gName) (fun x7=>
 sw (!(x7))
 (some false)
 (bd (fS fu pa0.gDeps 5) (fun x10=>
 sw (!(x10))
 (some false)
 (bd (l7 fu pa0.gDeps pa0.gName) (fun x13=>
 sw (x13)
 (some false)
 (sw (decide ((aQ ((aQ ((aQ (((pa0.gTraits.length:Nat):Int)+((pa0.gDataTypes.length:Nat):Int)))+((pa0.gInstances.length:Nat):Int)))+((pa0.gFunctions.length:Nat):Int)):Int)>24))
 (some false)
 (bd (iZ fu x2) (fun x17=>
 sw (x17)
 (bd (iZ fu x3) (fun x20=>
 sw (x20)
 (bd (iZ fu x4) (fun x23=>
 sw (x23)
 (bd (iZ fu x5) (fun x26=>
 sw (x26)
 (bd (B9 fu pa0) (fun x29=>
 some x29))
 (some false)))
 (some false)))
 (some false)))
 (some false))))))))))
theorem F2(fu:Nat):HV (rK fu):=by
 intro pa0 r H
 have H:=fI H
 refine qI Tryz.func221 (fun C hC=>?_)
 refine qS (qR (q1 (jU (gH pa0)) (q1 aF (qN (qS (qR (q1 (cV [pS pa0.gName,rS pa0.gDeps,SO pa0.gTraits,qO pa0.gDataTypes,vA pa0.gInstances,CW pa0.gFunctions] o5) (ajT H fun x2 x3 x4 x5 z1 H=>(q1 (bI Tryz.func234 (TY fu pa0 _ z1)) (q1 aF ?_))))))))))
 iterate 4 refine q1 y1 ?_
 iterate 4 refine q1 aF ?_
 refine qN ?_
 iterate 2 refine qS ?_
 refine qR (q1 (a5 SA) (q1 (bG fB) (bO H fun x7 z6 H=>(q1 (bI Tryz.func235 (dU fu pa0.gName _ z6)) (q1 gT (q1 aF ?_))))))
 refine d9 18 H (fun g8 H=>?_) fun g8 H=>?_
 ·refine qk g8 ?_
  iterate 3 refine qk g8 ?_
  refine q1 (bR g8) (q1 aF ?_)
  iterate 5 refine qk rfl ?_
  refine q1 (bR rfl) (q1 aF ?_)
  iterate 16 refine qk rfl ?_
  refine q1 (bR rfl) (qN (dV rfl (qS (qR (q1 aF (qN (aP.ret ?_)))))))
  obtain rfl:_=r:=(aY H:)
  exact bM
 refine qg g8 (a5 L9) (qg g8 (bG lK) (bO H fun x10 z9 H=>(qg g8 (bI Tryz.func236 (fY fu pa0.gDeps 5 _ z9)) (qg g8 gT (q1 (b5 g8) (q1 aF ?_))))))
 refine d9 24 H (fun g11 H=>?_) fun g11 H=>?_
 ·refine qk g11 ?_
  iterate 4 refine qk g11 ?_
  refine q1 (bR g11) (q1 aF ?_)
  iterate 16 refine qk rfl ?_
  refine q1 (bR rfl) (qN (dV rfl (qS (qR (q1 aF (qN (aP.ret ?_)))))))
  obtain rfl:_=r:=(aY H:)
  exact bM
 refine qg g11 (a5 L9) (qg g11 (bG lK) (qg g11 (a5 SA) (qg g11 (bG fB) (bO H fun x13 z12 H=>(qg g11 (bI Tryz.func125 (l8 fu pa0.gDeps pa0.gName _ z12)) (q1 (b5 g11) (q1 aF ?_)))))))
 refine d9 31 H (fun g14 H=>?_) fun g14 H=>?_
 ·refine qk g14 ?_
  iterate 15 refine qk g14 ?_
  refine q1 (bR g14) (qN (dV rfl (qS (qR (q1 aF (qN (aP.ret ?_)))))))
  obtain rfl:_=r:=(aY H:)
  exact bM
 refine qg g14 (a5 uP) (qg g14 (bG OI) (qg g14 (eT G0 (aT.trs_len _)) (qg g14 (a5 qZ) (qg g14 (bG HY) (qg g14 (eT A9 (aL.trs_len _)) (qg g14 ML (qg g14 (a5 oA) (qg g14 (bG BW) (qg g14 (eT xV (aH.trs_len _)) (qg g14 ML (qg g14 (a5 uQ) (qg g14 (bG OJ) (qg g14 (eT G1 (aI.trs_len _)) ?_)))))))))))))
 refine qg g14 ML (qg g14 IB (q1 (b5 g14) (qN ?_)))
 refine bA H (fun h15 H=>?_) (fun h15 H=>?_)
 ·refine qS (qR (q1 aF (qN (aP.ret ?_))))
  obtain rfl:_=r:=(aY H:)
  exact bM
 refine aP.skip (qS (qR (q1 aF (bO H fun x17 z16 H=>(q1 (bI Tryz.func237 (kI fu x2 _ z16)) (q1 aF ?_))))))
 refine d9 51 H (fun g18 H=>?_) fun g18 H=>?_
 ·refine qg g18 aF (bO H fun x20 z19 H=>(qg g18 (bI Tryz.func237 (kI fu x3 _ z19)) (q1 (bR g18) (q1 aF ?_))))
  refine d9 55 H (fun g21 H=>?_) fun g21 H=>?_
  ·refine qg g21 aF (bO H fun x23 z22 H=>(qg g21 (bI Tryz.func237 (kI fu x4 _ z22)) (q1 (bR g21) (q1 aF ?_))))
   refine d9 59 H (fun g24 H=>?_) fun g24 H=>?_
   ·refine qg g24 aF (bO H fun x26 z25 H=>(qg g24 (bI Tryz.func237 (kI fu x5 _ z25)) (q1 (bR g24) (q1 aF ?_))))
    refine d9 63 H (fun g27 H=>?_) fun g27 H=>?_
    ·refine qg g27 (cV [pS pa0.gName,rS pa0.gDeps,SO pa0.gTraits,qO pa0.gDataTypes,vA pa0.gInstances,CW pa0.gFunctions] o5) (bO H fun x29 z28 H=>(qg g27 (bI Tryz.func238 (UA fu pa0 _ z28)) (q1 (bR g27) (q1 aF (qN (aP.ret ?_))))))
     obtain rfl:_=r:=(aY H:)
     exact bM
    iterate 2 refine qk g27 ?_
    refine q1 (b5 g27) (q1 aF (qN (aP.ret ?_)))
    obtain rfl:_=r:=(aY H:)
    exact bM
   iterate 2 refine qk g24 ?_
   refine q1 (b5 g24) (q1 aF ?_)
   iterate 2 refine qk rfl ?_
   refine q1 (b5 rfl) (q1 aF (qN (aP.ret ?_)))
   obtain rfl:_=r:=(aY H:)
   exact bM
  iterate 2 refine qk g21 ?_
  refine q1 (b5 g21) (q1 aF ?_)
  iterate 2 refine qk rfl ?_
  refine q1 (b5 rfl) (q1 aF ?_)
  iterate 2 refine qk rfl ?_
  refine q1 (b5 rfl) (q1 aF (qN (aP.ret ?_)))
  obtain rfl:_=r:=(aY H:)
  exact bM
 iterate 2 refine qk g18 ?_
 refine q1 (b5 g18) (q1 aF ?_)
 iterate 2 refine qk rfl ?_
 refine q1 (b5 rfl) (q1 aF ?_)
 iterate 2 refine qk rfl ?_
 refine q1 (b5 rfl) (q1 aF ?_)
 iterate 2 refine qk rfl ?_
 refine q1 (b5 rfl) (q1 aF (qN (aP.ret ?_)))
 obtain rfl:_=r:=(aY H:)
 exact bM
def HW(m:aB→Option (aK×Bool)):Prop:= ∀(pa0:aB) (r:aK×Bool),m pa0=some r→cE Tryz.prog 208 [(aB.pv pa0)] (.tup [(aK.pv r.1),pB r.2]:PV)
def F6(fu:Nat)(pa0 x2:aB)(x4:List ByteArray)(x5:Bool)(x7:aB)(x9:Bool):Nat→(ByteArray×(List ByteArray)×(List aT)×(List aL)×(List aH)×(List aI))→Option (LR (ByteArray×(List ByteArray)×(List aT)×(List aL)×(List aH)×(List aI)) (aK×Bool)):=
 fun i17 (v18,v19,v24,v25,v26,v27)=>bd (GK fu (v18,v19,v24,v25,v26,v27) (a3 pa0.gList i17)) (fun(x31,x32)=>
 sw (!(x31))
 (some (.ret ((aK.mk s_ [] [] [] [] []),false)))
 (some (.next (x32.1,x32.2.1,x32.2.2.1,x32.2.2.2.1,x32.2.2.2.2.1,x32.2.2.2.2.2))))
def F7(fu:Nat)(pa0 x2:aB)(x4:List ByteArray)(x5:Bool)(x7:aB)(x9:Bool):Option ((aK×Bool)⊕(ByteArray×(List ByteArray)×(List aT)×(List aL)×(List aH)×(List aI))):=
 loopN (F6 fu pa0 x2 x4 x5 x7 x9) (pa0.gList.length-3) 3 (x7.gAtom,x4,([]),([]),([]),([]))
def rL(fu:Nat)(pa0:aB):Option (aK×Bool):=
 bd (c7 fu pa0 2) (fun x2=>
 bd (vY fu x2.gList) (fun(x4,x5)=>
 bd (c7 fu pa0 1) (fun x7=>
 bd (gK fu pa0) (fun x9=>
 sw (!(x9))
 (some ((aK.mk s_ [] [] [] [] []),false))
 (sw (decide ((((pa0.gList.length:Nat):Int):Int)<3))
 (some ((aK.mk s_ [] [] [] [] []),false))
 (gd (0<(pa0.gList).length)
 (sw (!decide ((a3 pa0.gList 0).gAtom=RH))
 (some ((aK.mk s_ [] [] [] [] []),false))
 (gd (2<(pa0.gList).length)
 (sw (!decide ((a3 pa0.gList 2).gAtom=s_))
 (some ((aK.mk s_ [] [] [] [] []),false))
 (sw (!(x5))
 (some ((aK.mk s_ [] [] [] [] []),false))
 (so (F7 fu pa0 x2 x4 x5 x7 x9) (fun(v18,v19,v24,v25,v26,v27)=>
 bd (rK fu (aK.mk v18 v19 v24 v25 v26 v27)) (fun x35=>
 sw (!(x35))
 (some ((aK.mk s_ [] [] [] [] []),false))
 (some ((aK.mk v18 v19 v24 v25 v26 v27),true)))))))))))))))
theorem F8(fu:Nat):HW (rL fu):=by
 intro pa0 r H
 have H:=fI H
 refine qI Tryz.func208 (fun C hC=>?_)
 refine qS (qR (q1 (jU ([pS pa0.gAtom,a9 pa0.gList])) (q1 (iV rP) (q1 aF (qN (qS (qR (q1 (cV [pS pa0.gAtom,a9 pa0.gList] bN) (bO H fun x2 z1 H=>(q1 (bI Tryz.func219 (cR fu pa0 2 _ z1)) (q1 (rF1 SH) (fK H fun x4 x5 z3 H=>(q1 (bI Tryz.func218 (CB fu x2.gList _ z3)) ?_)))))))))))))
 refine q1 aF ?_
 iterate 2 refine q1 y1 ?_
 iterate 2 refine q1 aF ?_
 refine qN (qS (qR (q1 (cV [pS pa0.gAtom,a9 pa0.gList] bN) (bO H fun x7 z6 H=>(q1 (bI Tryz.func219 (cR fu pa0 1 _ z6)) (q1 (rF1 q7) (q1 aF (q1 (f6 rP EO) (q1 (iV rP) (q1 (bU tT) (qN ?_)))))))))))
 iterate 2 refine qS ?_
 refine qR (q1 (cV [pS pa0.gAtom,a9 pa0.gList] bN) (bO H fun x9 z8 H=>(q1 (bI Tryz.func217 (cZ fu pa0 _ z8)) (q1 gT (q1 aF ?_)))))
 refine d9 23 H (fun g10 H=>?_) fun g10 H=>?_
 ·refine qk g10 ?_
  iterate 3 refine qk g10 ?_
  refine q1 (bR g10) (q1 aF ?_)
  iterate 6 refine qk rfl ?_
  refine q1 (bR rfl) (q1 aF ?_)
  iterate 6 refine qk rfl ?_
  refine q1 (bR rfl) (q1 aF ?_)
  iterate 2 refine qk rfl ?_
  refine q1 (bR rfl) (qN (dV rfl (qS (qR (q1 (f6 rP EO) (q1 (bU tT) (q1 aF (qN (aP.ret ?_)))))))))
  obtain rfl:_=r:=(aY H:)
  exact lB (hr:=⟨⟨_,_,_,rfl,rfl,o5,rfl,rfl⟩,rfl,trivial⟩)
 refine qg g10 (a5 bD) (qg g10 (bG cQ) (qg g10 (eT bE (aB.trs_len _)) (qg g10 hZ (q1 (b5 g10) (q1 aF ?_)))))
 refine d9 29 H (fun g11 H=>?_) fun g11 H=>?_
 ·have g11n:pa0.gList.length<3:=by have:=of_decide_eq_true g11;omega
  iterate 6 refine qk g11 ?_
  refine q1 (bR g11) (q1 aF ?_)
  iterate 6 refine qk rfl ?_
  refine q1 (bR rfl) (q1 aF ?_)
  iterate 2 refine qk rfl ?_
  refine q1 (bR rfl) (qN (dV rfl (qS (qR (q1 (f6 rP EO) (q1 (bU tT) (q1 aF (qN (aP.ret ?_)))))))))
  obtain rfl:_=r:=(aY H:)
  exact lB (hr:=⟨⟨_,_,_,rfl,rfl,o5,rfl,rfl⟩,rfl,trivial⟩)
 refine qg g11 (a5 bD) (qg g11 (bG cQ) (dF H fun z12 H=>(qg g11 (iH z12 bE) (qg g11 (qX e6) (qg g11 (pZ fB) (qg g11 MN (q1 (b5 g11) (q1 aF ?_))))))))
 refine d9 37 H (fun g13 H=>?_) fun g13 H=>?_
 ·refine qk g13 ?_
  iterate 5 refine qk g13 ?_
  refine q1 (bR g13) (q1 aF ?_)
  iterate 2 refine qk rfl ?_
  refine q1 (bR rfl) (qN (dV rfl (qS (qR (q1 (f6 rP EO) (q1 (bU tT) (q1 aF (qN (aP.ret ?_)))))))))
  obtain rfl:_=r:=(aY H:)
  exact lB (hr:=⟨⟨_,_,_,rfl,rfl,o5,rfl,rfl⟩,rfl,trivial⟩)
 refine qg g13 (a5 bD) (qg g13 (bG cQ) (dF H fun z14 H=>(qg g13 (iH z14 bE) (qg g13 (qX e6) (qg g13 (pZ fB) (qg g13 MN (q1 (b5 g13) (q1 aF ?_))))))))
 refine d9 45 H (fun g15 H=>?_) fun g15 H=>?_
 ·refine qk g15 (qk g15 (q1 (bR g15) (qN (dV rfl (qS (qR (q1 (f6 rP EO) (q1 (bU tT) (q1 aF (qN (aP.ret ?_)))))))))))
  obtain rfl:_=r:=(aY H:)
  exact lB (hr:=⟨⟨_,_,_,rfl,rfl,o5,rfl,rfl⟩,rfl,trivial⟩)
 refine qg g15 aF (qg g15 gT (q1 (b5 g15) (qN ?_)))
 refine bA H (fun h16 H=>?_) (fun h16 H=>?_)
 ·refine qS (qR (q1 (f6 rP EO) (q1 (bU tT) (q1 aF (qN (aP.ret ?_))))))
  obtain rfl:_=r:=(aY H:)
  exact lB (hr:=⟨⟨_,_,_,rfl,rfl,o5,rfl,rfl⟩,rfl,trivial⟩)
 refine aP.skip ?_
 iterate 2 refine qS ?_
 refine qR (q1 aF (qN (aP.wk (Wk.regBox (k:=2) (j:=2) 60 5 (by decide) rfl rfl) (aP.wk (Wk.regBox (k:=2) (j:=3) 116 3 (by decide) rfl rfl) (aP.wk (Wk.regBox (k:=2) (j:=4) 55 12 (by decide) rfl rfl) (aP.wk (Wk.regBox (k:=2) (j:=5) 148 16 (by decide) rfl rfl) ?_))))))
 refine lR 25 (aB.trs_len _) (fun hl28=>?_)
 refine cM (σ:=ByteArray×(List ByteArray)×(List aT)×(List aL)×(List aH)×(List aI)) (fun i17 (v18,v19,v24,v25,v26,v27)=>⟨[(1,.ptr 0 0),(2,.ptr 1 0),(3,pB false),(6,.ptr 2 0),(7,pN i17)],⟨[some ⟨237,[pS pa0.gAtom,a9 pa0.gList]⟩,some ⟨131,[pS s_,.nil,.nil,.nil,.nil,.nil]⟩,some ⟨131,[pS v18,rS v19,vF v24 0,lU v25 1,lW v26 2,lV v27 3]⟩],[⟨60,5,aT.trs (v24),false⟩,⟨116,3,aL.trs (v25),false⟩,⟨55,12,aH.trs (v26),false⟩,⟨148,16,aI.trs (v27),false⟩]⟩⟩) (fun(v18,v19,v24,v25,v26,v27)=>⟨[(2,.ptr 1 0),(3,pB false),(6,.ptr 2 0)],⟨[some ⟨237,[pS pa0.gAtom,a9 pa0.gList]⟩,some ⟨131,[pS s_,.nil,.nil,.nil,.nil,.nil]⟩,some ⟨131,[pS v18,rS v19,vF v24 0,lU v25 1,lW v26 2,lV v27 3]⟩],[⟨60,5,aT.trs (v24),false⟩,⟨116,3,aL.trs (v25),false⟩,⟨55,12,aH.trs (v26),false⟩,⟨148,16,aI.trs (v27),false⟩]⟩⟩) (gU H) ?_ ?_
 ·rintro i17 ⟨v18,v19,v24,v25,v26,v27⟩ H
  iterate 2 refine qS ?_
  refine qR (q1 aF (q1 (a5 bD) (q1 (bG cQ) (q1 (eT bE (aB.trs_len _)) (q1 hZ (qN ?_))))))
  refine eW H (fun h29 h29l H=>?_) (fun h29 H=>?_)
  ·have h29n:=a8 h29
   refine aP.skip (qS (aP.block (qS (qR (q1 (a5 bD) (q1 (bG cQ) (q1 aF (q1 (iH h29n bE) (q1 (j0 (aB.cs (a3 pa0.gList i17)) bN) (fK H fun x31 x32 z30 H=>(q1 (f7 [2] [0,1,2,3] Tryz.func220 (XP fu (v18,v19,v24,v25,v26,v27) (a3 pa0.gList i17) _ z30)) (q1 gT (qN ?_)))))))))))))
   refine bA H (fun h33 H=>?_) (fun h33 H=>?_)
   ·refine qS (qR (q1 (f6 rP EO) (q1 (bU tT) (q1 aF (qN (aP.ret ?_))))))
    obtain rfl:_=r:=(rG (aY H):)
    exact lB (hr:=⟨⟨_,_,_,rfl,rfl,o5,rfl,rfl⟩,rfl,trivial⟩)
   refine aP.skip (qR (q1 aF (q1 (aV.addI rfl rfl rfl rfl (c:=((i17+1:Nat):Int)) (by omega) (by omega)) (q1 aF (qN ?_)))))
   exact iY h29l ⟨_,(aY H:),b0⟩
  refine aP.exit ?_;exact lS ⟨_,H,b0⟩
 rintro⟨v18,v19,v24,v25,v26,v27⟩ H
 iterate 2 refine qS ?_
 refine qR (q1 (cV [pS v18,rS v19,vF v24 0,lU v25 1,lW v26 2,lV v27 3] o5) (bO H fun x35 z34 H=>(q1 (bI Tryz.func221 (F2 fu (aK.mk v18 v19 v24 v25 v26 v27) _ z34)) (q1 gT (qN ?_)))))
 refine bA H (fun h36 H=>?_) (fun h36 H=>?_)
 ·refine qS (qR (q1 (f6 rP EO) (q1 (bU tT) (q1 aF (qN (aP.ret ?_))))))
  obtain rfl:_=r:=(aY H:)
  exact lB (hr:=⟨⟨_,_,_,rfl,rfl,o5,rfl,rfl⟩,rfl,trivial⟩)
 refine aP.skip (qS (qR (q1 (cV [pS v18,rS v19,vF v24 0,lU v25 1,lW v26 2,lV v27 3] o5) (q1 (bU tT) (q1 aF (qN (aP.ret ?_)))))))
 obtain rfl:_=r:=(aY H:)
 exact lB (hr:=⟨⟨_,_,_,rfl,rfl,o5,rfl,rfl⟩,rfl,trivial⟩)
def LV(m:ByteArray→Option (aK×Bool)):Prop:= ∀(ps:ByteArray) (r:aK×Bool),m ps=some r→cE Tryz.prog 193 [pS ps] (.tup [(aK.pv r.1),pB r.2]:PV)
def t6(fu:Nat)(ps:ByteArray):Option (aK×Bool):=
 bd (s7 fu ps) (fun(x2,x3)=>
 sw (!(x3))
 (some ((aK.mk s_ [] [] [] [] []),false))
 (bd (rL fu x2) (fun(x6,x7)=>
 some (x6,x7))))
theorem JJ(fu:Nat):LV (t6 fu):=by
 intro ps r H
 have H:=fI H
 refine qI Tryz.func193 (fun C hC=>?_)
 refine qS (qR (q1 (iV rP) (q1 aF (qN (qS (qR (q1 aF (fK H fun x2 x3 z1 H=>(q1 (bI Tryz.func207 (OA fu ps _ z1)) (q1 aF ?_))))))))))
 iterate 2 refine q1 y1 ?_
 refine q1 (iV b6) (q1 (bU eA) (q1 aF (qN ?_)))
 iterate 2 refine qS ?_
 refine qR (q1 aF (q1 gT (qN ?_)))
 refine bA H (fun h4 H=>?_) (fun h4 H=>?_)
 ·refine qS (qR (q1 (f6 rP EO) (q1 (bU tT) (q1 aF (qN (aP.ret ?_))))))
  obtain rfl:_=r:=(aY H:)
  exact lB (hr:=⟨⟨_,_,_,rfl,rfl,o5,rfl,rfl⟩,rfl,trivial⟩)
 refine aP.skip (qS (qR (q1 (cV [pS x2.gAtom,a9 x2.gList] bN) (fK H fun x6 x7 z5 H=>(q1 (bI Tryz.func208 (F8 fu x2 _ z5)) ?_)))))
 iterate 2 refine q1 y1 ?_
 refine q1 (bU tT) (q1 aF (qN (aP.ret ?_)))
 obtain rfl:_=r:=(aY H:)
 exact lB (hr:=⟨⟨_,_,_,rfl,rfl,o5,rfl,rfl⟩,rfl,trivial⟩)
def LX(m:ByteArray→Option (aO×Int)):Prop:= ∀(ps:ByteArray) (r:aO×Int),m ps=some r→RQ Tryz.prog 165 [pS ps] ⟨[],[]⟩ [] 131 6 (aK.trs (r.1.gPackages)) (fun k=> .tup [.agg [pD r.1.gPackages k],pI r.2])
def JK(fu:Nat)(ps:ByteArray)(x2:List ByteArray):Nat→((List aK))→Option (LR ((List aK)) (aO×Int)):=
 fun i3 v5=>bd (B7 fu (a3 x2 i3)) (fun x9=>
 sw (x9)
 (some (.next v5))
 (bd (t6 fu (a3 x2 i3)) (fun(x12,x13)=>
 sw (!(x13))
 (some (.ret ((aO.mk []),((v5.length:Nat):Int))))
 (sw (decide ((((v5.length:Nat):Int):Int)=5))
 (some (.ret ((aO.mk []),((v5.length:Nat):Int))))
 (gd ((v5).length+(([x12]:List aK)).length≤68719476736)
 (some (.next (v5++([x12]:List aK)))))))))
def JL(fu:Nat)(ps:ByteArray)(x2:List ByteArray):Option ((aO×Int)⊕((List aK))):=
 loopN (JK fu ps x2) (x2.length-0) 0 ([])
def t7(fu:Nat)(ps:ByteArray):Option (aO×Int):=
 bd (zS fu ps (10:UInt8)) (fun x2=>
 so (JL fu ps x2) (fun v5=>
 some ((aO.mk v5),(-1))))
theorem JM(fu:Nat):LX (t7 fu):=by
 intro ps r H
 unfold RQ
 have H:=fI H
 refine qI Tryz.func165 (fun C hC=>?_)
 refine qS (qR (q1 (iV L5) (q1 aF (qN (qS (qR (q1 (f6 L5 aiB) (q1 (iV L5) (q1 (bU L3) (qN (qS (qR (q1 aF ?_)))))))))))))
 refine bO H fun x2 z1 H=>(q1 (bI Tryz.func191 (QI fu ps (10:UInt8) _ z1)) (q1 aF (qN ?_)))
 iterate 2 refine qS ?_
 refine qR (q1 aF (qN (aP.wk (Wk.regBox (k:=1) (j:=0) 131 6 (by decide) rfl rfl) ?_)))
 refine lR 5 (bC _) (fun hl6=>?_)
 refine cM (σ:=(List aK)) (fun i3 v5=>⟨[(2,.ptr 0 0),(3,pI 0),(4,.ptr 1 0),(5,rS x2),(6,pN i3)],⟨[some ⟨26,[.nil]⟩,some ⟨26,[pD v5 0]⟩],[⟨131,6,aK.trs (v5),false⟩]⟩⟩) (fun v5=>⟨[(2,.ptr 0 0),(3,pI 0),(4,.ptr 1 0)],⟨[some ⟨26,[.nil]⟩,some ⟨26,[pD v5 0]⟩],[⟨131,6,aK.trs (v5),false⟩]⟩⟩) (gU H) ?_ ?_
 ·rintro i3 v5 H
  iterate 2 refine qS ?_
  refine qR ?_
  iterate 2 refine q1 aF ?_
  refine q1 (eT b3 (bC _)) (q1 hZ (qN ?_))
  refine eW H (fun h7 h7l H=>?_) (fun h7 H=>?_)
  ·have h7n:=a8 h7
   refine aP.skip (qS (aP.block ?_))
   iterate 2 refine qS ?_
   refine qR ?_
   iterate 2 refine q1 aF ?_
   refine q1 (iH h7n b3) (q1 (pZ fB) (bO H fun x9 z8 H=>(q1 (bI Tryz.func192 (TP fu (a3 x2 i3) _ z8)) (qN ?_))))
   refine bA H (fun h10 H=>?_) (fun h10 H=>?_)
   ·refine aP.exit (qR (q1 aF (q1 (aV.addI rfl rfl rfl rfl (c:=((i3+1:Nat):Int)) (by omega) (by omega)) (q1 aF (qN ?_)))))
    exact iY h7l ⟨_,(aY H:),b0⟩
   refine aP.skip (qS (qR ?_))
   iterate 2 refine q1 aF ?_
   refine q1 (iH h7n b3) (q1 (pZ fB) (fK H fun x12 x13 z11 H=>(q1 (bI Tryz.func193 (JJ fu (a3 x2 i3) _ z11)) (q1 aF ?_))))
   iterate 2 refine q1 y1 ?_
   refine q1 (iV rP) (q1 (bU tT) (q1 aF (qN ?_)))
   iterate 2 refine qS ?_
   refine qR (q1 aF (q1 gT (q1 aF ?_)))
   refine d9 33 H (fun g14 H=>?_) fun g14 H=>?_
   ·refine qk g14 ?_
    iterate 3 refine qk g14 ?_
    refine q1 (bR g14) (qN (dV rfl (qS (dW (dI [] (f6 L5 aiB) (dI [4] (a5 mB) (dB [40] 0 1 (vC BX) (dI [41] (eT xW (aK.trs_len _)) (nI [2,39] (bU L3) (dI [42] aF (dN (aP.wk (Wk.regBox (k:=0) (j:=0) 131 6 (by decide) rfl rfl) (aP.ret ?_)))))))))))))
    obtain rfl:_=r:=(rG (aY H):)
    exact lB (st':=⟨[],[⟨131,6,aK.trs (v5),false⟩,⟨131,6,aK.trs ([]),false⟩]⟩) ⟨1,rfl,rfl,rfl⟩ (hr:=⟨⟨_,_,_,rfl,rfl,qC,rfl,rfl⟩,rfl,trivial⟩)
   refine qg g14 (a5 mB) (qg g14 (bG BX) (qg g14 (eT xW (aK.trs_len _)) (qg g14 eM (q1 (b5 g14) (qN ?_)))))
   refine bA H (fun h15 H=>?_) (fun h15 H=>?_)
   ·refine qS (dW (dI [] (f6 L5 aiB) (dI [4] (a5 mB) (dB [40] 0 1 (vC BX) (dI [41] (eT xW (aK.trs_len _)) (nI [2,39] (bU L3) (dI [42] aF (dN (aP.wk (Wk.regBox (k:=0) (j:=0) 131 6 (by decide) rfl rfl) (aP.ret ?_))))))))))
    obtain rfl:_=r:=(rG (aY H):)
    exact lB (st':=⟨[],[⟨131,6,aK.trs (v5),false⟩,⟨131,6,aK.trs ([]),false⟩]⟩) ⟨1,rfl,rfl,rfl⟩ (hr:=⟨⟨_,_,_,rfl,rfl,qC,rfl,rfl⟩,rfl,trivial⟩)
   refine aP.skip (qR (q1 (a5 mB) (q1 (bG BX) (q1 (cV [pS x12.gName,rS x12.gDeps,SO x12.gTraits,qO x12.gDataTypes,vA x12.gInstances,CW x12.gFunctions] o5) (q1 (t2 ([x12]:List aK) xW rP) (dF H fun z16 H=>(q1 (mJ z16 xW ajM) (q1 (a5 mB) (q1 (bU ajG) (qN (qR (q1 aF (q1 (aV.addI rfl rfl rfl rfl (c:=((i3+1:Nat):Int)) (by omega) (by omega)) ?_)))))))))))))
   refine q1 aF (qN ?_)
   exact iY h7l ⟨_,(aY H:),b0⟩
  refine aP.exit ?_;exact lS ⟨_,H,b0⟩
 rintro v5 H
 refine qS (qR (q1 (cV [pD v5 0] qC) (q1 (bU L3) (q1 aF (qN (aP.ret ?_))))))
 obtain rfl:_=r:=(aY H:)
 exact lB (st':=⟨[],[⟨131,6,aK.trs (v5),false⟩]⟩) ⟨0,rfl,rfl,rfl⟩ (hr:=⟨⟨_,_,_,rfl,rfl,qC,rfl,rfl⟩,rfl,trivial⟩)
def aaC(m:DS→Option (ByteArray×DS)):Prop:= ∀(pc:DS) (r:ByteArray×DS),m pc=some r→cY Tryz.prog 194 [.ptr 0 0] ⟨[some ⟨151,dC pc⟩],[]⟩ (fun q t=>q=(pS r.1:PV)∧t=⟨[some ⟨151,dC r.2⟩],[]⟩)
def GJ(fu:Nat)(pc:DS):Option (ByteArray×DS):=
 gd ((cJ).size+(cK).size≤1099511627776)
 (gd ((cJ++cK).size+(cP).size≤1099511627776)
 (gd (((cJ++cK)++cP).size+(cS).size≤1099511627776)
 (lt (pc.after 2) (fun d4=>
 sw (decide (pc.below 2=0))
 (gd ((((cJ++cK)++cP)++cS).size+(hU).size≤1099511627776)
 (gd (((((cJ++cK)++cP)++cS)++hU).size+(dL).size≤1099511627776)
 (gd ((((((cJ++cK)++cP)++cS)++hU)++dL).size+(eL).size≤1099511627776)
 (gd (((((((cJ++cK)++cP)++cS)++hU)++dL)++eL).size+(fH).size≤1099511627776)
 (gd ((((((((cJ++cK)++cP)++cS)++hU)++dL)++eL)++fH).size+(gP).size≤1099511627776)
 (gd (((((((((cJ++cK)++cP)++cS)++hU)++dL)++eL)++fH)++gP).size+(jN).size≤1099511627776)
 (gd ((((((((((cJ++cK)++cP)++cS)++hU)++dL)++eL)++fH)++gP)++jN).size+(mY).size≤1099511627776)
 (gd (((((((((((cJ++cK)++cP)++cS)++hU)++dL)++eL)++fH)++gP)++jN)++mY).size+(wF).size≤1099511627776)
 (some ((((((((((((cJ++cK)++cP)++cS)++hU)++dL)++eL)++fH)++gP)++jN)++mY)++wF),d4))))))))))
 (gd ((((cJ++cK)++cP)++cS).size+(hY).size≤1099511627776)
 (gd (((((cJ++cK)++cP)++cS)++hY).size+(dL).size≤1099511627776)
 (gd ((((((cJ++cK)++cP)++cS)++hY)++dL).size+(eL).size≤1099511627776)
 (gd (((((((cJ++cK)++cP)++cS)++hY)++dL)++eL).size+(fH).size≤1099511627776)
 (gd ((((((((cJ++cK)++cP)++cS)++hY)++dL)++eL)++fH).size+(gP).size≤1099511627776)
 (gd (((((((((cJ++cK)++cP)++cS)++hY)++dL)++eL)++fH)++gP).size+(jN).size≤1099511627776)
 (gd ((((((((((cJ++cK)++cP)++cS)++hY)++dL)++eL)++fH)++gP)++jN).size+(mY).size≤1099511627776)
 (gd (((((((((((cJ++cK)++cP)++cS)++hY)++dL)++eL)++fH)++gP)++jN)++mY).size+(wF).size≤1099511627776)
 (some ((((((((((((cJ++cK)++cP)++cS)++hY)++dL)++eL)++fH)++gP)++jN)++mY)++wF),d4))))))))))))))
theorem XO(fu:Nat):aaC (GJ fu):=by
 intro pc r H
 have H:=fI H
 refine qI Tryz.func194 (fun C hC=>?_)
 refine qS (qR (q1 aF (qN (qS (qR (q1 aF (qN (qS (qR (q1 aF (dF H fun z1 H=>(q1 (aV.addS rfl rfl rfl rfl (Nat.le_trans z1 (by decide))) (q1 aF ?_)))))))))))))
 refine qN (qS (qR (q1 aF (dF H fun z2 H=>(q1 (aV.addS rfl rfl rfl rfl (Nat.le_trans z2 (by decide))) (q1 aF (qN (qS (qR (q1 aF (dF H fun z3 H=>(q1 (aV.addS rfl rfl rfl rfl (Nat.le_trans z3 (by decide))) (q1 aF ?_)))))))))))))
 refine qN ?_
 iterate 2 refine qS ?_
 refine qR (q1 aF (g0 H fun d4 h5 H=>(q1 (f7 [0] [] Tryz.func112 (AO h5 (mI pc 2))) (qN ?_))))
 refine bA H (fun h6 H=>?_) (fun h6 H=>?_)
 ·refine qR (q1 aF (dF H fun z7 H=>(q1 (aV.addS rfl rfl rfl rfl (Nat.le_trans z7 (by decide))) (q1 aF (qN (qS (qR (q1 aF (dF H fun z8 H=>(q1 (aV.addS rfl rfl rfl rfl (Nat.le_trans z8 (by decide))) (q1 aF (qN (qS ?_)))))))))))))
  refine qR (q1 aF (dF H fun z9 H=>(q1 (aV.addS rfl rfl rfl rfl (Nat.le_trans z9 (by decide))) (q1 aF (qN (qS (qR (q1 aF (dF H fun z10 H=>(q1 (aV.addS rfl rfl rfl rfl (Nat.le_trans z10 (by decide))) (q1 aF (qN (qS ?_)))))))))))))
  refine qR (q1 aF (dF H fun z11 H=>(q1 (aV.addS rfl rfl rfl rfl (Nat.le_trans z11 (by decide))) (q1 aF (qN (qS (qR (q1 aF (dF H fun z12 H=>(q1 (aV.addS rfl rfl rfl rfl (Nat.le_trans z12 (by decide))) (q1 aF (qN (qS ?_)))))))))))))
  refine qR (q1 aF (dF H fun z13 H=>(q1 (aV.addS rfl rfl rfl rfl (Nat.le_trans z13 (by decide))) (q1 aF (qN (qS (qR (q1 aF (dF H fun z14 H=>(q1 (aV.addS rfl rfl rfl rfl (Nat.le_trans z14 (by decide))) (q1 aF (qN (aP.ret ?_)))))))))))))
  obtain rfl:_=r:=(aY H:)
  exact bM
 refine qR (q1 aF (dF H fun z15 H=>(q1 (aV.addS rfl rfl rfl rfl (Nat.le_trans z15 (by decide))) (q1 aF (qN (qS (qR (q1 aF (dF H fun z16 H=>(q1 (aV.addS rfl rfl rfl rfl (Nat.le_trans z16 (by decide))) (q1 aF (qN (qS ?_)))))))))))))
 refine qR (q1 aF (dF H fun z17 H=>(q1 (aV.addS rfl rfl rfl rfl (Nat.le_trans z17 (by decide))) (q1 aF (qN (qS (qR (q1 aF (dF H fun z18 H=>(q1 (aV.addS rfl rfl rfl rfl (Nat.le_trans z18 (by decide))) (q1 aF (qN (qS ?_)))))))))))))
 refine qR (q1 aF (dF H fun z19 H=>(q1 (aV.addS rfl rfl rfl rfl (Nat.le_trans z19 (by decide))) (q1 aF (qN (qS (qR (q1 aF (dF H fun z20 H=>(q1 (aV.addS rfl rfl rfl rfl (Nat.le_trans z20 (by decide))) (q1 aF (qN (qS ?_)))))))))))))
 refine qR (q1 aF (dF H fun z21 H=>(q1 (aV.addS rfl rfl rfl rfl (Nat.le_trans z21 (by decide))) (q1 aF (qN (qS (qR (q1 aF (dF H fun z22 H=>(q1 (aV.addS rfl rfl rfl rfl (Nat.le_trans z22 (by decide))) (q1 aF (qN (aP.ret ?_)))))))))))))
 obtain rfl:_=r:=(aY H:)
 exact bM
def adR(m:DS→Option (ByteArray×DS)):Prop:= ∀(pc:DS) (r:ByteArray×DS),m pc=some r→cY Tryz.prog 195 [.ptr 0 0] ⟨[some ⟨151,dC pc⟩],[]⟩ (fun q t=>q=(pS r.1:PV)∧t=⟨[some ⟨151,dC r.2⟩],[]⟩)
def Z8(fu:Nat)(pc:DS):Option ((ByteArray×DS)⊕(ByteArray×DS)):=
 lt (pc.after 8) (fun d3=>
 sw (decide ((((pc.below 8:Nat):Int):Int)=0))
 (gd ((eK).size+(HI).size≤1099511627776)
 (some (.inr ((eK++HI),d3))))
 (sw (decide ((((pc.below 8:Nat):Int):Int)=1))
 (gd ((eK).size+(HG).size≤1099511627776)
 (some (.inr ((eK++HG),d3))))
 (sw (decide ((((pc.below 8:Nat):Int):Int)=2))
 (gd ((eK).size+(HA).size≤1099511627776)
 (some (.inr ((eK++HA),d3))))
 (sw (decide ((((pc.below 8:Nat):Int):Int)=3))
 (gd ((eK).size+(HC).size≤1099511627776)
 (some (.inr ((eK++HC),d3))))
 (sw (decide ((((pc.below 8:Nat):Int):Int)=4))
 (gd ((eK).size+(HB).size≤1099511627776)
 (some (.inr ((eK++HB),d3))))
 (sw (decide ((((pc.below 8:Nat):Int):Int)=5))
 (gd ((eK).size+(HF).size≤1099511627776)
 (some (.inr ((eK++HF),d3))))
 (gd ((eK).size+(HD).size≤1099511627776)
 (some (.inr ((eK++HD),d3))))))))))
def Z9(fu:Nat)(pc:DS)(v1:ByteArray)(v2 d19:DS)(y21:ByteArray):Option ((ByteArray×DS)⊕(ByteArray×DS)):=
 lt (d19.after 2) (fun d27=>
 sw (decide (d19.below 2=0))
 (gd ((((v1++mX)++y21)++wF).size+(HE).size≤1099511627776)
 (some (.inr (((((v1++mX)++y21)++wF)++HE),d27))))
 (some (.inr ((((v1++mX)++y21)++wF),d27))))
def aaA(fu:Nat)(pc:DS)(v1:ByteArray)(v2 d19:DS)(y21 v25:ByteArray)(v26:DS):Option ((ByteArray×DS)⊕(ByteArray×DS)):=
 lt (v26.after 3) (fun d33=>
 sw (decide (v26.below 3=0))
 (gd ((v25).size+(HH).size≤1099511627776)
 (some (.inr ((v25++HH),d33))))
 (some (.inr (v25,d33))))
def J4(fu:Nat)(pc:DS):Option (ByteArray×DS):=
 so (Z8 fu pc) (fun(v1,v2)=>
 gd ((v1).size+(mX).size≤1099511627776)
 (lt (v2.after ([yC,yB,xZ,yD,xY,yG,yH,yE,yF,xX]:List ByteArray).length) (fun d19=>
 lt (v2.pick ([yC,yB,xZ,yD,xY,yG,yH,yE,yF,xX]:List ByteArray)) (fun y21=>
 gd ((v1++mX).size+(y21).size≤1099511627776)
 (gd (((v1++mX)++y21).size+(wF).size≤1099511627776)
 (so (Z9 fu pc v1 v2 d19 y21) (fun(v25,v26)=>
 so (aaA fu pc v1 v2 d19 y21 v25 v26) (fun(v31,v32)=>
 lt (v32.after 4) (fun d37=>
 sw (decide (v32.below 4=0))
 (gd ((v31).size+(yA).size≤1099511627776)
 (gd ((v31++yA).size+(wF).size≤1099511627776)
 (some (((v31++yA)++wF),d37))))
 (gd ((v31).size+(wF).size≤1099511627776)
 (some ((v31++wF),d37))))))))))))
theorem aaB(fu:Nat):adR (J4 fu):=by
 intro pc r H
 have H:=fI H
 refine qI Tryz.func195 (fun C hC=>?_)
 refine qS (qR (q1 aF (qN (qS (qR (q1 aF (qN (qS ?_))))))))
 refine o7 (σ:=ByteArray×DS) (fun(v1,v2)=>⟨[(0,.ptr 0 0),(2,pS s_),(3,pS v1)],⟨[some ⟨151,dC v2⟩],[]⟩⟩) (gU H) (fun H=>?_) ?_
 ·refine qS (qR (q1 aF (g0 H fun d3 h4 H=>(q1 (f7 [0] [] Tryz.func103 (AO h4 (fG pc 8))) (qN (aP.block (qS (qR (q1 eM (q1 aF (qN ?_)))))))))))
  refine bA H (fun h5 H=>?_) (fun h5 H=>?_)
  ·refine qR (q1 aF (dF H fun z6 H=>(q1 (aV.addS rfl rfl rfl rfl (Nat.le_trans z6 (by decide))) (q1 aF (qN ?_)))))
   exact dP ⟨_,(aY H:),b0⟩
  refine qS (qR (q1 eM (q1 aF (qN ?_))))
  refine bA H (fun h7 H=>?_) (fun h7 H=>?_)
  ·refine qR (q1 aF (dF H fun z8 H=>(q1 (aV.addS rfl rfl rfl rfl (Nat.le_trans z8 (by decide))) (q1 aF (qN ?_)))))
   exact dP ⟨_,(aY H:),b0⟩
  refine qS (qR (q1 eM (q1 aF (qN ?_))))
  refine bA H (fun h9 H=>?_) (fun h9 H=>?_)
  ·refine qR (q1 aF (dF H fun z10 H=>(q1 (aV.addS rfl rfl rfl rfl (Nat.le_trans z10 (by decide))) (q1 aF (qN ?_)))))
   exact dP ⟨_,(aY H:),b0⟩
  refine qS (qR (q1 eM (q1 aF (qN ?_))))
  refine bA H (fun h11 H=>?_) (fun h11 H=>?_)
  ·refine qR (q1 aF (dF H fun z12 H=>(q1 (aV.addS rfl rfl rfl rfl (Nat.le_trans z12 (by decide))) (q1 aF (qN ?_)))))
   exact dP ⟨_,(aY H:),b0⟩
  refine qS (qR (q1 eM (q1 aF (qN ?_))))
  refine bA H (fun h13 H=>?_) (fun h13 H=>?_)
  ·refine qR (q1 aF (dF H fun z14 H=>(q1 (aV.addS rfl rfl rfl rfl (Nat.le_trans z14 (by decide))) (q1 aF (qN ?_)))))
   exact dP ⟨_,(aY H:),b0⟩
  refine qS (qR (q1 eM (q1 aF (qN ?_))))
  refine bA H (fun h15 H=>?_) (fun h15 H=>?_)
  ·refine qR (q1 aF (dF H fun z16 H=>(q1 (aV.addS rfl rfl rfl rfl (Nat.le_trans z16 (by decide))) (q1 aF (qN ?_)))))
   exact dP ⟨_,(aY H:),b0⟩
  refine qR (q1 aF (dF H fun z17 H=>(q1 (aV.addS rfl rfl rfl rfl (Nat.le_trans z17 (by decide))) (q1 aF (qN ?_)))))
  exact dP ⟨_,(aY H:),b0⟩
 rintro⟨v1,v2⟩ H
 refine qS (qR (q1 aF (dF H fun z18 H=>(q1 (aV.addS rfl rfl rfl rfl (Nat.le_trans z18 (by decide))) (q1 aF (q1 (iA ([yC,yB,xZ,yD,xY,yG,yH,yE,yF,xX]:List ByteArray) b3 lA) (g0 H fun d19 h20 H=>(g0 H fun y21 h22 H=>(q1 (f7 [0] [] Tryz.func86 (LC h20 h22 (gI v2 ([yC,yB,xZ,yD,xY,yG,yH,yE,yF,xX]:List ByteArray) (by decide)))) (dF H fun z23 H=>(q1 (aV.addS rfl rfl rfl rfl (Nat.le_trans z23 (by decide))) (dF H fun z24 H=>(q1 (aV.addS rfl rfl rfl rfl (Nat.le_trans z24 (by decide))) ?_)))))))))))))
 refine q1 aF (qN (qS ?_))
 refine o7 (σ:=ByteArray×DS) (fun(v25,v26)=>⟨[(0,.ptr 0 0),(2,pS s_),(3,pS v25)],⟨[some ⟨151,dC v26⟩],[]⟩⟩) (gU H) (fun H=>?_) ?_
 ·refine qS (qR (q1 aF (g0 H fun d27 h28 H=>(q1 (f7 [0] [] Tryz.func112 (AO h28 (mI d19 2))) (qN ?_)))))
  refine bA H (fun h29 H=>?_) (fun h29 H=>?_)
  ·refine qR (q1 aF (dF H fun z30 H=>(q1 (aV.addS rfl rfl rfl rfl (Nat.le_trans z30 (by decide))) (q1 aF (qN ?_)))))
   exact dP ⟨_,(aY H:),b0⟩
  refine aP.skip ?_;exact dP ⟨_,(aY H:),b0⟩
 rintro⟨v25,v26⟩ H
 refine qS ?_;refine o7 (σ:=ByteArray×DS) (fun(v31,v32)=>⟨[(0,.ptr 0 0),(2,pS s_),(3,pS v31)],⟨[some ⟨151,dC v32⟩],[]⟩⟩) (gU H) (fun H=>?_) ?_
 ·refine qS (qR (q1 aF (g0 H fun d33 h34 H=>(q1 (f7 [0] [] Tryz.func112 (AO h34 (mI v26 3))) (qN ?_)))))
  refine bA H (fun h35 H=>?_) (fun h35 H=>?_)
  ·refine qR (q1 aF (dF H fun z36 H=>(q1 (aV.addS rfl rfl rfl rfl (Nat.le_trans z36 (by decide))) (q1 aF (qN ?_)))))
   exact dP ⟨_,(aY H:),b0⟩
  refine aP.skip ?_;exact dP ⟨_,(aY H:),b0⟩
 rintro⟨v31,v32⟩ H
 iterate 2 refine qS ?_
 refine qR (q1 aF (g0 H fun d37 h38 H=>(q1 (f7 [0] [] Tryz.func112 (AO h38 (mI v32 4))) (qN ?_))))
 refine bA H (fun h39 H=>?_) (fun h39 H=>?_)
 ·refine qR (q1 aF (dF H fun z40 H=>(q1 (aV.addS rfl rfl rfl rfl (Nat.le_trans z40 (by decide))) (q1 aF (qN (qS (qR (q1 aF (dF H fun z41 H=>(q1 (aV.addS rfl rfl rfl rfl (Nat.le_trans z41 (by decide))) (q1 aF (qN (aP.ret ?_)))))))))))))
  obtain rfl:_=r:=(aY H:)
  exact bM
 refine aP.skip (qS (qR (q1 aF (dF H fun z42 H=>(q1 (aV.addS rfl rfl rfl rfl (Nat.le_trans z42 (by decide))) (q1 aF (qN (aP.ret ?_))))))))
 obtain rfl:_=r:=(aY H:)
 exact bM
def L2(m:DS→Option (ByteArray×DS)):Prop:= ∀(pc:DS) (r:ByteArray×DS),m pc=some r→cY Tryz.prog 166 [.ptr 0 0] ⟨[some ⟨151,dC pc⟩],[]⟩ (fun q t=>q=(pS r.1:PV)∧t=⟨[some ⟨151,dC r.2⟩],[]⟩)
def uE(fu:Nat)(pc:DS):Option (ByteArray×DS):=
 bd (GJ fu pc) (fun(x2,x3)=>
 lt (x3.after 5) (fun d4=>
 sw (decide (x3.below 5=0))
 (some (x2,d4))
 (gd ((x2).size+(aeF).size≤1099511627776)
 (bd (J4 fu d4) (fun(x9,x10)=>
 gd ((x2++aeF).size+(x9).size≤1099511627776)
 (some (((x2++aeF)++x9),x10)))))))
theorem J6(fu:Nat):L2 (uE fu):=by
 intro pc r H
 have H:=fI H
 refine qI Tryz.func166 (fun C hC=>?_)
 refine qS (qR (q1 aF (qN (qS (qR (q1 aF (fK H fun x2 x3 z1 H=>(q1 (f7 [0] [] Tryz.func194 (XO fu pc _ z1)) (q1 aF (qN ?_))))))))))
 iterate 2 refine qS ?_
 refine qR (q1 aF (g0 H fun d4 h5 H=>(q1 (f7 [0] [] Tryz.func112 (AO h5 (mI x3 5))) (qN ?_))))
 refine bA H (fun h6 H=>?_) (fun h6 H=>?_)
 ·refine qS (qR ?_)
  iterate 2 refine q1 aF ?_
  refine qN (aP.ret ?_)
  obtain rfl:_=r:=(aY H:)
  exact bM
 refine aP.skip (qS (qR (q1 aF (dF H fun z7 H=>(q1 (aV.addS rfl rfl rfl rfl (Nat.le_trans z7 (by decide))) (q1 aF (fK H fun x9 x10 z8 H=>(q1 (f7 [0] [] Tryz.func195 (aaB fu d4 _ z8)) (dF H fun z11 H=>(q1 (aV.addS rfl rfl rfl rfl (Nat.le_trans z11 (by decide))) (q1 aF (qN (aP.ret ?_)))))))))))))
 obtain rfl:_=r:=(aY H:)
 exact bM
def aaH(m:DS→Option (aO×DS)):Prop:= ∀(pc:DS) (r:aO×DS),m pc=some r→RQ Tryz.prog 116 [.ptr 0 0] ⟨[some ⟨151,dC pc⟩],[]⟩ [some ⟨151,dC r.2⟩] 131 6 (aK.trs (r.1.gPackages)) (fun k=> .agg [pD r.1.gPackages k])
def GL(fu:Nat)(pc:DS):Option (aO×DS):=
 bd (uE fu pc) (fun(x2,x3)=>
 bd (t7 fu x2) (fun(x5,x6)=>
 some ((aO.mk x5.gPackages),x3)))
theorem XS(fu:Nat):aaH (GL fu):=by
 intro pc r H
 unfold RQ
 have H:=fI H
 refine qI Tryz.func116 (fun C hC=>?_)
 refine qS (qR (q1 (iV L5) (qN (qS (qR (q1 aF (fK H fun x2 x3 z1 H=>(q1 (f7 [0] [] Tryz.func166 (J6 fu pc _ z1)) (fK H fun x5 x6 z4 H=>(q1 (aV.callOwn (pre:=⟨[],[]⟩) (B:= []) (R:=fun k=> .tup [.agg [pD x5.gPackages k],pI x6]) (ps:= [_]) (qs:= [pS x2]) [] rfl rfl Tryz.func165 (by kernel_rfl) rfl rfl rfl (mW.of trivial trivial (by decide) (by decide)) rfl lH rfl rfl rfl (fun k k'=>(.tup (.cons (.agg (.cons Mv.acc R2.nil)) (.cons (.free _ rfl) R2.nil)))) (JM fu x2 _ z4)) (q1 aF ?_)))))))))))
 iterate 2 refine q1 y1 ?_
 refine q1 (iV L5) (q1 (bU L3) (q1 aF (qN (qS (qR (q1 (cV [pD x5.gPackages 0] qC) (q1 (bU L3) (qN (aP.ret ?_)))))))))
 obtain rfl:_=r:=(aY H:)
 exact bM (st':=⟨[some ⟨151,dC x3⟩],[⟨131,6,aK.trs (x5.gPackages),false⟩]⟩) ⟨0,rfl,rfl,rfl⟩ (hr:=⟨⟨_,_,_,rfl,rfl,qC,rfl,rfl⟩,trivial⟩)
end
end Go.Proofs.YtpioomclpaiomaaGreat.W

namespace Go.Proofs.YtpioomclpaiomaaGreat.W
set_option maxRecDepth 100000
set_option maxHeartbeats 40000000
noncomputable section
open Go.RowKit Go.Proofs
set_option linter.unusedSimpArgs false
set_option linter.unusedVariables false
attribute [local irreducible] lt
abbrev H7:=DS→(List ByteArray)→Int→Option (aA×DS)
def MP(m:H7):Prop:= ∀(pc:DS) (pvars:List ByteArray) (pdeep:Int) (r:aA×DS),m pc pvars pdeep=some r→cY Tryz.prog 130 [.ptr 0 0,rS pvars,pI pdeep] ⟨[some ⟨151,dC pc⟩],[]⟩ (fun q t=>q=((aA.pv r.1):PV)∧t=⟨[some ⟨151,dC r.2⟩],[]⟩)
def UM(fu:Nat)(r_sl4Ty:H7)(pc:DS)(pvars:List ByteArray)(pdeep:Int):Option (aA×DS):=
 lt (pc.after 8) (fun d1=>
 sw (decide ((((pc.below 8:Nat):Int):Int)<3))
 (sw (decide ((((pvars.length:Nat):Int):Int)>0))
 (lt (d1.after pvars.length) (fun d5=>
 gd (d1.below pvars.length<(pvars).length)
 (bd (l9 fu (a3 pvars (d1.below pvars.length))) (fun x9=>
 some (x9,d5)))))
 (sw (decide ((((pc.below 8:Nat):Int):Int)<5))
 (lt (d1.after ([fU,fP,hO]:List ByteArray).length) (fun d11=>
 lt (d1.pick ([fU,fP,hO]:List ByteArray)) (fun y13=>
 bd (jR fu y13 ([])) (fun x16=>
 some (x16,d11)))))
 (sw (decide ((pdeep:Int)≤0))
 (lt (d1.after ([fU,fP,hO]:List ByteArray).length) (fun d18=>
 lt (d1.pick ([fU,fP,hO]:List ByteArray)) (fun y20=>
 bd (jR fu y20 ([])) (fun x23=>
 some (x23,d18)))))
 (sw (decide ((((pc.below 8:Nat):Int):Int)=5))
 (bd (r_sl4Ty d1 pvars (aQ (pdeep-1))) (fun(x26,x27)=>
 bd (r_sl4Ty x27 pvars (aQ (pdeep-1))) (fun(x29,x30)=>
 bd (jR fu uC ([x26,x29]:List aA)) (fun x32=>
 some (x32,x30)))))
 (lt (d1.after ([cU,cU,wQ]:List ByteArray).length) (fun d33=>
 lt (d1.pick ([cU,cU,wQ]:List ByteArray)) (fun y35=>
 bd (r_sl4Ty d33 pvars (aQ (pdeep-1))) (fun(x38,x39)=>
 bd (jR fu y35 ([x38]:List aA)) (fun x41=>
 some (x41,x39))))))))))
 (sw (decide ((((pc.below 8:Nat):Int):Int)<5))
 (lt (d1.after ([fU,fP,hO]:List ByteArray).length) (fun d43=>
 lt (d1.pick ([fU,fP,hO]:List ByteArray)) (fun y45=>
 bd (jR fu y45 ([])) (fun x48=>
 some (x48,d43)))))
 (sw (decide ((pdeep:Int)≤0))
 (lt (d1.after ([fU,fP,hO]:List ByteArray).length) (fun d50=>
 lt (d1.pick ([fU,fP,hO]:List ByteArray)) (fun y52=>
 bd (jR fu y52 ([])) (fun x55=>
 some (x55,d50)))))
 (sw (decide ((((pc.below 8:Nat):Int):Int)=5))
 (bd (r_sl4Ty d1 pvars (aQ (pdeep-1))) (fun(x58,x59)=>
 bd (r_sl4Ty x59 pvars (aQ (pdeep-1))) (fun(x61,x62)=>
 bd (jR fu uC ([x58,x61]:List aA)) (fun x64=>
 some (x64,x62)))))
 (lt (d1.after ([cU,cU,wQ]:List ByteArray).length) (fun d65=>
 lt (d1.pick ([cU,cU,wQ]:List ByteArray)) (fun y67=>
 bd (r_sl4Ty d65 pvars (aQ (pdeep-1))) (fun(x70,x71)=>
 bd (jR fu y67 ([x70]:List aA)) (fun x73=>
 some (x73,x71))))))))))
theorem abB(fu:Nat)(r_sl4Ty:H7)(h_sl4Ty:MP r_sl4Ty):MP (UM fu r_sl4Ty):=by
 intro pc pvars pdeep r H
 have H:=fI H
 refine qI Tryz.func130 (fun C hC=>?_)
 refine qS (qR (q1 (iV gV) (qN (qS (qR (q1 aF (g0 H fun d1 h2 H=>(q1 (f7 [0] [] Tryz.func103 (AO h2 (fG pc 8))) (q1 aF (qN (qS (aP.block (qS ?_)))))))))))))
 refine qR (q1 aF (q1 hZ (q1 aF ?_)))
 refine d9 13 H (fun g3 H=>?_) fun g3 H=>?_
 ·have g3n:pc.below 8<3:=by have:=of_decide_eq_true g3;omega
  refine qg g3 aF (qg g3 (eT b3 (bC _)) (qg g3 IB (q1 (bR g3) (q1 aF (qN ?_)))))
  refine bA H (fun h4 H=>?_) (fun h4 H=>?_)
  ·refine qS (qR ?_)
   iterate 3 refine q1 aF ?_
   refine q1 (eT b3 (bC _)) (g0 H fun d5 h6 H=>(q1 (f7 [0] [] Tryz.func103 (AO h6 (fG d1 pvars.length))) (dF H fun z7 H=>(q1 (iH z7 b3) (q1 (pZ fB) (bO H fun x9 z8 H=>(q1 (bI Tryz.func118 (jI fu (a3 pvars (d1.below pvars.length)) _ z8)) (q1 (bU hQ) (qN (aP.ret ?_))))))))))
   obtain rfl:_=r:=(aY H:)
   exact bM (hr:=⟨⟨_,_,_,rfl,rfl,cH,rfl,rfl⟩,trivial⟩)
  refine qS (qR (q1 aF (q1 hZ (q1 aF ?_))))
  refine d9 29 H (fun g10 H=>?_) fun g10 H=>?_
  ·have g10n:pc.below 8<5:=by have:=of_decide_eq_true g10;omega
   iterate 2 refine qk g10 ?_
   refine q1 (bR g10) (q1 aF (qN (dV rfl (qS (qR (q1 aF (q1 (iA ([fU,fP,hO]:List ByteArray) b3 lA) (g0 H fun d11 h12 H=>(g0 H fun y13 h14 H=>(q1 (f7 [0] [] Tryz.func86 (LC h12 h14 (gI d1 ([fU,fP,hO]:List ByteArray) (by decide)))) (bO H fun x16 z15 H=>(q1 (bI Tryz.func85 (jG fu y13 ([]) _ z15)) (q1 (bU hQ) ?_)))))))))))))
   refine qN (aP.ret ?_)
   obtain rfl:_=r:=(aY H:)
   exact bM (hr:=⟨⟨_,_,_,rfl,rfl,cH,rfl,rfl⟩,trivial⟩)
  refine qg g10 aF (qg g10 rLe (q1 (b5 g10) (q1 aF (qN ?_))))
  refine bA H (fun h17 H=>?_) (fun h17 H=>?_)
  ·refine qS (qR (q1 aF (q1 (iA ([fU,fP,hO]:List ByteArray) b3 lA) (g0 H fun d18 h19 H=>(g0 H fun y20 h21 H=>(q1 (f7 [0] [] Tryz.func86 (LC h19 h21 (gI d1 ([fU,fP,hO]:List ByteArray) (by decide)))) (bO H fun x23 z22 H=>(q1 (bI Tryz.func85 (jG fu y20 ([]) _ z22)) (q1 (bU hQ) (qN (aP.ret ?_)))))))))))
   obtain rfl:_=r:=(aY H:)
   exact bM (hr:=⟨⟨_,_,_,rfl,rfl,cH,rfl,rfl⟩,trivial⟩)
  refine qS (qR (q1 aF (q1 eM (q1 aF (qN ?_)))))
  refine bA H (fun h24 H=>?_) (fun h24 H=>?_)
  ·refine qS (qR ?_)
   iterate 3 refine q1 aF ?_
   refine q1 AF (fK H fun x26 x27 z25 H=>(q1 (f7 [0] [] Tryz.func130 (h_sl4Ty d1 pvars (aQ (pdeep-1)) _ z25)) ?_))
   iterate 3 refine q1 aF ?_
   refine q1 AF (fK H fun x29 x30 z28 H=>(q1 (f7 [0] [] Tryz.func130 (h_sl4Ty x27 pvars (aQ (pdeep-1)) _ z28)) (q1 (iA ([x26,x29]:List aA) dX gV) (bO H fun x32 z31 H=>(q1 (bI Tryz.func85 (jG fu uC ([x26,x29]:List aA) _ z31)) (q1 (bU hQ) (qN (aP.ret ?_))))))))
   obtain rfl:_=r:=(aY H:)
   exact bM (hr:=⟨⟨_,_,_,rfl,rfl,cH,rfl,rfl⟩,trivial⟩)
  refine aP.skip (qS (qR (q1 aF (q1 (iA ([cU,cU,wQ]:List ByteArray) b3 lA) (g0 H fun d33 h34 H=>(g0 H fun y35 h36 H=>(q1 (f7 [0] [] Tryz.func86 (LC h34 h36 (gI d1 ([cU,cU,wQ]:List ByteArray) (by decide)))) ?_)))))))
  iterate 3 refine q1 aF ?_
  refine q1 AF (fK H fun x38 x39 z37 H=>(q1 (f7 [0] [] Tryz.func130 (h_sl4Ty d33 pvars (aQ (pdeep-1)) _ z37)) (q1 (iA ([x38]:List aA) dX gV) (bO H fun x41 z40 H=>(q1 (bI Tryz.func85 (jG fu y35 ([x38]:List aA) _ z40)) (q1 (bU hQ) (qN (aP.ret ?_))))))))
  obtain rfl:_=r:=(aY H:)
  exact bM (hr:=⟨⟨_,_,_,rfl,rfl,cH,rfl,rfl⟩,trivial⟩)
 iterate 3 refine qk g3 ?_
 refine q1 (b5 g3) (q1 aF (qN (iX rfl (qS (qR (q1 aF (q1 hZ (q1 aF ?_))))))))
 refine d9 29 H (fun g42 H=>?_) fun g42 H=>?_
 ·have g42n:pc.below 8<5:=by have:=of_decide_eq_true g42;omega
  iterate 2 refine qk g42 ?_
  refine q1 (bR g42) (q1 aF (qN (dV rfl (qS (qR (q1 aF (q1 (iA ([fU,fP,hO]:List ByteArray) b3 lA) (g0 H fun d43 h44 H=>(g0 H fun y45 h46 H=>(q1 (f7 [0] [] Tryz.func86 (LC h44 h46 (gI d1 ([fU,fP,hO]:List ByteArray) (by decide)))) (bO H fun x48 z47 H=>(q1 (bI Tryz.func85 (jG fu y45 ([]) _ z47)) (q1 (bU hQ) ?_)))))))))))))
  refine qN (aP.ret ?_)
  obtain rfl:_=r:=(aY H:)
  exact bM (hr:=⟨⟨_,_,_,rfl,rfl,cH,rfl,rfl⟩,trivial⟩)
 refine qg g42 aF (qg g42 rLe (q1 (b5 g42) (q1 aF (qN ?_))))
 refine bA H (fun h49 H=>?_) (fun h49 H=>?_)
 ·refine qS (qR (q1 aF (q1 (iA ([fU,fP,hO]:List ByteArray) b3 lA) (g0 H fun d50 h51 H=>(g0 H fun y52 h53 H=>(q1 (f7 [0] [] Tryz.func86 (LC h51 h53 (gI d1 ([fU,fP,hO]:List ByteArray) (by decide)))) (bO H fun x55 z54 H=>(q1 (bI Tryz.func85 (jG fu y52 ([]) _ z54)) (q1 (bU hQ) (qN (aP.ret ?_)))))))))))
  obtain rfl:_=r:=(aY H:)
  exact bM (hr:=⟨⟨_,_,_,rfl,rfl,cH,rfl,rfl⟩,trivial⟩)
 refine qS (qR (q1 aF (q1 eM (q1 aF (qN ?_)))))
 refine bA H (fun h56 H=>?_) (fun h56 H=>?_)
 ·refine qS (qR ?_)
  iterate 3 refine q1 aF ?_
  refine q1 AF (fK H fun x58 x59 z57 H=>(q1 (f7 [0] [] Tryz.func130 (h_sl4Ty d1 pvars (aQ (pdeep-1)) _ z57)) ?_))
  iterate 3 refine q1 aF ?_
  refine q1 AF (fK H fun x61 x62 z60 H=>(q1 (f7 [0] [] Tryz.func130 (h_sl4Ty x59 pvars (aQ (pdeep-1)) _ z60)) (q1 (iA ([x58,x61]:List aA) dX gV) (bO H fun x64 z63 H=>(q1 (bI Tryz.func85 (jG fu uC ([x58,x61]:List aA) _ z63)) (q1 (bU hQ) (qN (aP.ret ?_))))))))
  obtain rfl:_=r:=(aY H:)
  exact bM (hr:=⟨⟨_,_,_,rfl,rfl,cH,rfl,rfl⟩,trivial⟩)
 refine aP.skip (qS (qR (q1 aF (q1 (iA ([cU,cU,wQ]:List ByteArray) b3 lA) (g0 H fun d65 h66 H=>(g0 H fun y67 h68 H=>(q1 (f7 [0] [] Tryz.func86 (LC h66 h68 (gI d1 ([cU,cU,wQ]:List ByteArray) (by decide)))) ?_)))))))
 iterate 3 refine q1 aF ?_
 refine q1 AF (fK H fun x70 x71 z69 H=>(q1 (f7 [0] [] Tryz.func130 (h_sl4Ty d65 pvars (aQ (pdeep-1)) _ z69)) (q1 (iA ([x70]:List aA) dX gV) (bO H fun x73 z72 H=>(q1 (bI Tryz.func85 (jG fu y67 ([x70]:List aA) _ z72)) (q1 (bU hQ) (qN (aP.ret ?_))))))))
 obtain rfl:_=r:=(aY H:)
 exact bM (hr:=⟨⟨_,_,_,rfl,rfl,cH,rfl,rfl⟩,trivial⟩)
def pO:Nat→DS→(List ByteArray)→Int→Option (aA×DS)
 |0,_,_,_=>none
 |fu+1,pc,pvars,pdeep=>UM fu (pO fu) pc pvars pdeep
theorem ad9(fu:Nat):MP (pO fu):=by
 induction fu with
 |zero=>exact(fun pc pvars pdeep r H=>by simp only [pO] at H;cases H)
 |succ fu ih=>exact(fun pc pvars pdeep r H=>by simp only [pO] at H;exact abB fu (pO fu) ih pc pvars pdeep r H)
theorem O7(fu:Nat):MP (pO fu):=(ad9 fu)
abbrev nC:=aA→Option aA
abbrev jY:=(List aA)→Option ((List aA))
def yW(m:nC):Prop:= ∀(pt:aA) (r:aA),m pt=some r→cE Tryz.prog 60 [(aA.pv pt)] ((aA.pv r):PV)
def wY(m:jY):Prop:= ∀(plist:List aA) (r:(List aA)),m plist=some r→cE Tryz.prog 122 [a4 plist] (a4 r:PV)
def C9(fu:Nat)(r_sl4Copy:nC)(r_sl4Copies:jY)(pt:aA):Option aA:=
 bd (r_sl4Copies pt.gArgs) (fun x2=>
 some (aA.mk pt.gKind pt.gName x2))
theorem UI(fu:Nat)(r_sl4Copy:nC)(r_sl4Copies:jY)(h_sl4Copy:yW r_sl4Copy)(h_sl4Copies:wY r_sl4Copies):yW (C9 fu r_sl4Copy r_sl4Copies):=by
 intro pt r H
 have H:=fI H
 refine qI Tryz.func60 (fun C hC=>?_)
 refine qS (qR (q1 (jU (dJ pt)) (q1 (iV gV) (qN (qS (bO H fun x2 z1 H=>(dW (dI [1] (a5 lD) (dD [3] (bG jQ) (dI [1] (a5 jT) (dD [5] (bG fB) (dI [1] (a5 fV) (dD [7] (bG l5) ?_)))))))))))))
 refine dI [8] (bI Tryz.func122 (h_sl4Copies pt.gArgs _ z1)) (dI [4,6,9] (f6 gV zP) (nI [2,10] (bU hQ) (dN (aP.ret ?_))))
 obtain rfl:_=r:=(aY H:)
 exact bM (hr:=⟨⟨_,_,_,rfl,rfl,cH,rfl,rfl⟩,trivial⟩)
def H5(fu:Nat)(r_sl4Copy:nC)(r_sl4Copies:jY)(plist:List aA):Nat→((List aA))→Option (LR ((List aA)) ((List aA))):=
 fun i1 v3=>bd (r_sl4Copy (a3 plist i1)) (fun x7=>
 gd ((v3).length+(([x7]:List aA)).length≤68719476736)
 (some (.next (v3++([x7]:List aA)))))
def H6(fu:Nat)(r_sl4Copy:nC)(r_sl4Copies:jY)(plist:List aA):Option (((List aA))⊕((List aA))):=
 loopN (H5 fu r_sl4Copy r_sl4Copies plist) (plist.length-0) 0 ([])
def wX(fu:Nat)(r_sl4Copy:nC)(r_sl4Copies:jY)(plist:List aA):Option ((List aA)):=
 so (H6 fu r_sl4Copy r_sl4Copies plist) (fun v3=>
 some v3)
theorem O3(fu:Nat)(r_sl4Copy:nC)(r_sl4Copies:jY)(h_sl4Copy:yW r_sl4Copy)(h_sl4Copies:wY r_sl4Copies):wY (wX fu r_sl4Copy r_sl4Copies):=by
 intro plist r H
 have H:=fI H
 refine qI Tryz.func122 (fun C hC=>?_)
 refine qS (qR (q1 aF (qN (qS (qR (q1 (t2 ([]:List aA) dX gV) (q1 aF (qN ?_))))))))
 iterate 2 refine qS ?_
 refine qR (q1 aF (qN ?_))
 refine lR 0 (aA.trs_len _) (fun hl4=>?_)
 refine cM (σ:=(List aA)) (fun i1 v3=>⟨[(0,a4 plist),(2,.nil),(3,Q5 v3 0),(4,pN i1)],⟨[],[⟨35,3,aA.trs (v3),false⟩]⟩⟩) (fun v3=>⟨[(2,.nil),(3,Q5 v3 0)],⟨[],[⟨35,3,aA.trs (v3),false⟩]⟩⟩) (gU H) ?_ ?_
 ·rintro i1 v3 H
  iterate 2 refine qS ?_
  refine qR ?_
  iterate 2 refine q1 aF ?_
  refine q1 (eT dX (aA.trs_len _)) (q1 hZ (qN ?_))
  refine eW H (fun h5 h5l H=>?_) (fun h5 H=>?_)
  ·have h5n:=a8 h5
   refine aP.skip (qS (aP.block (qR ?_)))
   iterate 3 refine q1 aF ?_
   refine q1 (iH h5n dX) (q1 (j0 (aA.cs (a3 plist i1)) cH) (bO H fun x7 z6 H=>(q1 (bI Tryz.func60 (h_sl4Copy (a3 plist i1) _ z6)) (q1 (iA ([x7]:List aA) dX gV) (dF H fun z8 H=>(q1 (mJ z8 dX af5) (q1 aF (qN (qR (q1 aF (q1 (aV.addI rfl rfl rfl rfl (c:=((i1+1:Nat):Int)) (by omega) (by omega)) (q1 aF (qN ?_)))))))))))))
   exact iY h5l ⟨_,(aY H:),b0⟩
  refine aP.exit ?_;exact lS ⟨_,H,b0⟩
 rintro v3 H
 refine qS (qR ?_)
 iterate 2 refine q1 aF ?_
 refine qN (aP.ret ?_)
 obtain rfl:_=r:=(aY H:)
 exact bM
mutual
def iM:Nat→aA→Option aA
 |0,_=>none
 |fu+1,pt=>C9 fu (iM fu) (jC fu) pt
def jC:Nat→(List aA)→Option ((List aA))
 |0,_=>none
 |fu+1,plist=>wX fu (iM fu) (jC fu) plist
end
theorem X3(fu:Nat):yW (iM fu)∧wY (jC fu):=by
 induction fu with
 |zero=>exact⟨(fun pt r H=>by simp only [iM] at H;cases H),(fun plist r H=>by simp only [jC] at H;cases H)⟩
 |succ fu ih=>exact⟨(fun pt r H=>by simp only [iM] at H;exact UI fu (iM fu) (jC fu) ih.1 ih.2 pt r H),(fun plist r H=>by simp only [jC] at H;exact O3 fu (iM fu) (jC fu) ih.1 ih.2 plist r H)⟩
theorem O5(fu:Nat):yW (iM fu):=(X3 fu).1
def ad8(m:ByteArray→aA→Option aA):Prop:= ∀(ptrait:ByteArray) (pt:aA) (r:aA),m ptrait pt=some r→cE Tryz.prog 131 [pS ptrait,(aA.pv pt)] ((aA.pv r):PV)
def DC(fu:Nat)(ptrait:ByteArray)(pt:aA):Option aA:=
 bd (iM fu pt) (fun x2=>
 some (aA.mk 3 ptrait ([x2]:List aA)))
theorem O6(fu:Nat):ad8 (DC fu):=by
 intro ptrait pt r H
 have H:=fI H
 refine qI Tryz.func131 (fun C hC=>?_)
 refine qS (qR (q1 (jU (dJ pt)) (q1 (iV gV) (qN (qS (qR (q1 aF (q1 (cV [pI pt.gKind,pS pt.gName,a4 pt.gArgs] cH) (bO H fun x2 z1 H=>(q1 (bI Tryz.func60 (O5 fu pt _ z1)) (q1 (iA ([x2]:List aA) dX gV) (q1 (f6 gV zP) (q1 (bU hQ) ?_)))))))))))))
 refine qN (aP.ret ?_)
 obtain rfl:_=r:=(aY H:)
 exact bM (hr:=⟨⟨_,_,_,rfl,rfl,cH,rfl,rfl⟩,trivial⟩)
def ad6(m:DS→Int→Option (aA×DS)):Prop:= ∀(pc:DS) (pdeep:Int) (r:aA×DS),m pc pdeep=some r→cY Tryz.prog 87 [.ptr 0 0,pI pdeep] ⟨[some ⟨151,dC pc⟩],[]⟩ (fun q t=>q=((aA.pv r.1):PV)∧t=⟨[some ⟨151,dC r.2⟩],[]⟩)
def sY(fu:Nat)(pc:DS)(pdeep:Int):Option (aA×DS):=
 bd (pO fu pc ([f9,A0]:List ByteArray) pdeep) (fun(x2,x3)=>
 lt (x3.after 8) (fun d4=>
 sw (decide ((((x3.below 8:Nat):Int):Int)=0))
 (lt (d4.after ([jP,bH]:List ByteArray).length) (fun d7=>
 lt (d4.pick ([jP,bH]:List ByteArray)) (fun y9=>
 bd (DC fu y9 x2) (fun x12=>
 some (x12,d7)))))
 (sw (decide ((((x3.below 8:Nat):Int):Int)=1))
 (bd (DC fu jP x2) (fun x15=>
 bd (jR fu cU ([x15]:List aA)) (fun x17=>
 some (x17,d4))))
 (sw (decide ((((x3.below 8:Nat):Int):Int)=2))
 (some ((aA.mk 4 bH []),d4))
 (some (x2,d4))))))
theorem vZ(fu:Nat):ad6 (sY fu):=by
 intro pc pdeep r H
 have H:=fI H
 refine qI Tryz.func87 (fun C hC=>?_)
 refine qS (qR (q1 (iV gV) (qN (qS (qR (q1 aF (q1 (iA ([f9,A0]:List ByteArray) b3 lA) (q1 aF (fK H fun x2 x3 z1 H=>(q1 (f7 [0] [] Tryz.func130 (O7 fu pc ([f9,A0]:List ByteArray) pdeep _ z1)) (q1 (iV gV) (q1 (bU hQ) (qN ?_)))))))))))))
 iterate 2 refine qS ?_
 refine qR (q1 aF (g0 H fun d4 h5 H=>(q1 (f7 [0] [] Tryz.func103 (AO h5 (fG x3 8))) (qN (aP.block (qS (qR (q1 eM (q1 aF (qN ?_))))))))))
 refine bA H (fun h6 H=>?_) (fun h6 H=>?_)
 ·refine qS (g0 H fun d7 h8 H=>(g0 H fun y9 h10 H=>(bO H fun x12 z11 H=>(dW (dI [0] aF (dI [] (iA ([jP,bH]:List ByteArray) b3 lA) (dE [14,15] (f7 [0] [] Tryz.func86 (LC h8 h10 (gI d4 ([jP,bH]:List ByteArray) (by decide)))) (dB [5] 0 1 (UU [pI x2.gKind,pS x2.gName,a4 x2.gArgs] cH) (dI [16,17] (bI Tryz.func131 (O6 fu y9 x2 _ z11)) (nI [4,18] (bU hQ) (dN (aP.ret ?_))))))))))))
  obtain rfl:_=r:=(aY H:)
  exact bM (hr:=⟨⟨_,_,_,rfl,rfl,cH,rfl,rfl⟩,trivial⟩)
 refine qS (qR (q1 eM (q1 aF (qN ?_))))
 refine bA H (fun h13 H=>?_) (fun h13 H=>?_)
 ·refine qS (qR (q1 (cV [pI x2.gKind,pS x2.gName,a4 x2.gArgs] cH) (bO H fun x15 z14 H=>(q1 (bI Tryz.func131 (O6 fu jP x2 _ z14)) (q1 (iA ([x15]:List aA) dX gV) (bO H fun x17 z16 H=>(q1 (bI Tryz.func85 (jG fu cU ([x15]:List aA) _ z16)) (q1 (bU hQ) (qN (aP.ret ?_))))))))))
  obtain rfl:_=r:=(aY H:)
  exact bM (hr:=⟨⟨_,_,_,rfl,rfl,cH,rfl,rfl⟩,trivial⟩)
 refine qS (qR (q1 eM (q1 aF (qN ?_))))
 refine bA H (fun h18 H=>?_) (fun h18 H=>?_)
 ·refine qS (qR (q1 (f6 gV zP) (q1 (bU hQ) (qN (aP.ret ?_)))))
  obtain rfl:_=r:=(aY H:)
  exact bM (hr:=⟨⟨_,_,_,rfl,rfl,cH,rfl,rfl⟩,trivial⟩)
 refine aP.skip (qS (qR (q1 (cV [pI x2.gKind,pS x2.gName,a4 x2.gArgs] cH) (q1 (bU hQ) (qN (aP.ret ?_))))))
 obtain rfl:_=r:=(aY H:)
 exact bM (hr:=⟨⟨_,_,_,rfl,rfl,cH,rfl,rfl⟩,trivial⟩)
def afD(m:Int→ByteArray→(List aG)→Option aG):Prop:= ∀(pk:Int) (pname:ByteArray) (pargs:List aG) (r:aG),m pk pname pargs=some r→cE Tryz.prog 158 [pI pk,pS pname,gQ pargs] ((aG.pv r):PV)
def rO(fu:Nat)(pk:Int)(pname:ByteArray)(pargs:List aG):Option aG:=
 gd (([]:List aG).length+(pargs).length≤68719476736)
 (some (aG.mk pk s_ pname 0 (aA.mk 0 s_ []) (([])++pargs) []))
theorem sR(fu:Nat):afD (rO fu):=by
 intro pk pname pargs r H
 have H:=fI H
 refine qI Tryz.func158 (fun C hC=>?_)
 refine qS (qR (q1 (iV kG) (qN (qS (qR ?_)))))
 iterate 2 refine q1 aF ?_
 refine q1 (t2 ([]:List aG) nK kG) (q1 aF (dF H fun z1 H=>(q1 (mJ z1 nK ajP) (q1 (f6 kG vS) (q1 (bU pC) (qN (aP.ret ?_)))))))
 obtain rfl:_=r:=(aY H:)
 exact bM (hr:=⟨⟨_,_,_,rfl,rfl,hP,rfl,rfl⟩,trivial⟩)
abbrev qD:=DS→(List ByteArray)→Int→Option (aG×DS)
def zV(m:qD):Prop:= ∀(pq0:DS) (pa1:List ByteArray) (pString:Int) (r:aG×DS),m pq0 pa1 pString=some r→cY Tryz.prog 111 [.ptr 0 0,rS pa1,pI pString] ⟨[some ⟨151,dC pq0⟩],[]⟩ (fun q t=>q=((aG.pv r.1):PV)∧t=⟨[some ⟨151,dC r.2⟩],[]⟩)
def V6(fu:Nat)(r_sl11Expr:qD)(pq0:DS)(pa1:List ByteArray)(pString:Int)(d1:DS):Option ((aG×DS)⊕Int):=
 sw (decide ((pString:Int)≤0))
 (some (.inr (((pq0.below 13)%3:Nat):Int)))
 (some (.inr ((pq0.below 13:Nat):Int)))
def V7(fu:Nat)(r_sl11Expr:qD)(pq0:DS)(pa1:List ByteArray)(pString:Int)(d1:DS)(v3:Int):Option ((aG×DS)⊕Bool):=
 sw (decide ((v3:Int)=2))
 (some (.inr (decide ((v3:Int)=2))))
 (some (.inr (decide ((v3:Int)=3))))
def F9(fu:Nat)(r_sl11Expr:qD)(pq0:DS)(pa1:List ByteArray)(pString:Int):Option (aG×DS):=
 lt (pq0.after 13) (fun d1=>
 so (V6 fu r_sl11Expr pq0 pa1 pString d1) (fun v3=>
 sw (decide ((v3:Int)=1))
 (lt (d1.after 2) (fun d6=>
 some ((aG.mk 2 s_ s_ ((d1.below 2:Nat):Int) (aA.mk 0 s_ []) [] []),d6)))
 (so (V7 fu r_sl11Expr pq0 pa1 pString d1 v3) (fun v8=>
 sw (v8)
 (sw (decide ((((pa1.length:Nat):Int):Int)>0))
 (gd (0<(pa1).length)
 (lt (d1.after pa1.length) (fun d13=>
 lt (d1.pick pa1) (fun y15=>
 bd (sS fu y15) (fun x18=>
 some (x18,d13))))))
 (lt (d1.after 20) (fun d19=>
 bd (qU fu (aQ (((d1.below 20:Nat):Int)-5))) (fun x22=>
 some (x22,d19)))))
 (sw (decide ((v3:Int)=4))
 (lt (d1.after ([s_f,s_g]:List ByteArray).length) (fun d24=>
 lt (d1.pick ([s_f,s_g]:List ByteArray)) (fun y26=>
 bd (r_sl11Expr d24 pa1 (aQ (pString-1))) (fun(x29,x30)=>
 bd (rO fu 4 y26 ([x29]:List aG)) (fun x32=>
 some (x32,x30))))))
 (sw (decide ((v3:Int)=5))
 (lt (d1.after ([bH,jP]:List ByteArray).length) (fun d34=>
 lt (d1.pick ([bH,jP]:List ByteArray)) (fun y36=>
 bd (r_sl11Expr d34 pa1 (aQ (pString-1))) (fun(x39,x40)=>
 bd (r_sl11Expr x40 pa1 (aQ (pString-1))) (fun(x42,x43)=>
 some ((aG.mk 5 y36 eN 0 (aA.mk 0 s_ []) ([x39,x42]:List aG) []),x43))))))
 (sw (decide ((v3:Int)=6))
 (bd (r_sl11Expr d1 pa1 (aQ (pString-1))) (fun(x46,x47)=>
 bd (r_sl11Expr x47 pa1 (aQ (pString-1))) (fun(x49,x50)=>
 bd (rO fu 6 cG ([x46,x49]:List aG)) (fun x52=>
 some (x52,x50)))))
 (sw (decide ((v3:Int)=7))
 (gd (([]:List ByteArray).length+(pa1).length≤68719476736)
 (gd ((([])++pa1).length+(([ZH,ZI]:List ByteArray)).length≤68719476736)
 (bd (r_sl11Expr d1 pa1 (aQ (pString-1))) (fun(x57,x58)=>
 bd (r_sl11Expr x58 pa1 (aQ (pString-1))) (fun(x60,x61)=>
 bd (r_sl11Expr x61 ((([])++pa1)++([ZH,ZI]:List ByteArray)) (aQ (pString-1))) (fun(x63,x64)=>
 some ((aG.mk 7 s_ s_ 0 (aA.mk 0 s_ []) ([x57]:List aG) ([(bJ.mk fJ [] x60),(bJ.mk cG ([ZH,ZI]:List ByteArray) x63)]:List bJ)),x64)))))))
 (sw (decide ((v3:Int)=8))
 (bd (r_sl11Expr d1 pa1 (aQ (pString-1))) (fun(x67,x68)=>
 gd (([]:List ByteArray).length+(pa1).length≤68719476736)
 (gd ((([])++pa1).length+(([oT]:List ByteArray)).length≤68719476736)
 (bd (r_sl11Expr x68 ((([])++pa1)++([oT]:List ByteArray)) (aQ (pString-1))) (fun(x72,x73)=>
 bd (rO fu 8 oT ([x67,x72]:List aG)) (fun x75=>
 some (x75,x73)))))))
 (sw (decide ((v3:Int)=9))
 (bd (r_sl11Expr d1 pa1 (aQ (pString-1))) (fun(x78,x79)=>
 bd (r_sl11Expr x79 pa1 (aQ (pString-1))) (fun(x81,x82)=>
 bd (r_sl11Expr x82 pa1 (aQ (pString-1))) (fun(x84,x85)=>
 bd (rO fu 9 s_ ([x78,x81,x84]:List aG)) (fun x87=>
 some (x87,x85))))))
 (sw (decide ((v3:Int)=10))
 (lt (d1.after ([wG,AY,H8,H9,IA]:List ByteArray).length) (fun d89=>
 lt (d1.pick ([wG,AY,H8,H9,IA]:List ByteArray)) (fun y91=>
 bd (r_sl11Expr d89 pa1 (aQ (pString-1))) (fun(x94,x95)=>
 bd (r_sl11Expr x95 pa1 (aQ (pString-1))) (fun(x97,x98)=>
 bd (rO fu 10 y91 ([x94,x97]:List aG)) (fun x100=>
 some (x100,x98)))))))
 (sw (decide ((v3:Int)=11))
 (bd (r_sl11Expr d1 pa1 (aQ (pString-1))) (fun(x103,x104)=>
 some ((aG.mk 11 bH s_ 0 (aA.mk 0 s_ []) ([x103]:List aG) []),x104)))
 (sw (decide ((v3:Int)=12))
 (bd (pO fu d1 ([f9]:List ByteArray) 1) (fun(x107,x108)=>
 bd (r_sl11Expr x108 pa1 (aQ (pString-1))) (fun(x110,x111)=>
 some ((aG.mk 12 s_ s_ 0 x107 ([x110]:List aG) []),x111))))
 (lt (d1.after 20) (fun d112=>
 bd (qU fu (aQ (((d1.below 20:Nat):Int)-5))) (fun x115=>
 some (x115,d112)))))))))))))))))
theorem QN(fu:Nat)(r_sl11Expr:qD)(h_sl11Expr:zV r_sl11Expr):zV (F9 fu r_sl11Expr):=by
 intro pq0 pa1 pString r H
 have H:=fI H
 refine qI Tryz.func111 (fun C hC=>?_)
 refine qS (qR (q1 (iV kG) (qN (qS (qR (q1 aF (g0 H fun d1 h2 H=>(q1 (f7 [0] [] Tryz.func103 (AO h2 (fG pq0 13))) (q1 aF (qN (qS ?_)))))))))))
 refine o7 (σ:=Int) (fun v3=>⟨[(0,.ptr 0 0),(1,rS pa1),(2,pI pString),(6,.ptr 1 0),(7,pI v3)],⟨[some ⟨151,dC d1⟩,some ⟨87,[pI 0,pS s_,pS s_,pI 0,pI 0,pS s_,.nil,.nil,.nil]⟩],[]⟩⟩) (gU H) (fun H=>?_) ?_
 ·refine qS (qR (q1 aF (q1 rLe (qN ?_))))
  refine bA H (fun h4 H=>?_) (fun h4 H=>?_)
  ·refine qR (q1 aF ?_)
   refine q1 (aV.remN (a:=pq0.below 13) (b:=3) rfl rfl rfl rfl (by have:=DS.below_lt (d:=pq0) (n:=13) (by decide);omega) (by have:=DS.below_lt (d:=pq0) (n:=13) (by decide);omega)) ?_;refine q1 aF (qN ?_)
   exact dP ⟨_,(aY H:),b0⟩
  refine aP.skip ?_;exact dP ⟨_,(aY H:),b0⟩
 rintro v3 H
 iterate 2 refine qS ?_
 refine qR (q1 aF (qN (aP.block (qS (qR (q1 eM (q1 aF (qN ?_))))))))
 refine bA H (fun h5 H=>?_) (fun h5 H=>?_)
 ·refine qS (qR (q1 aF (g0 H fun d6 h7 H=>(q1 (f7 [0] [] Tryz.func103 (AO h7 (fG d1 2))) (q1 (f6 kG vS) (q1 (bU pC) (qN (aP.ret ?_))))))))
  obtain rfl:_=r:=(aY H:)
  exact bM (hr:=⟨⟨_,_,_,rfl,rfl,hP,rfl,rfl⟩,trivial⟩)
 refine qS ?_;refine o7 (σ:=Bool) (fun v8=>⟨[(0,.ptr 0 0),(1,rS pa1),(2,pI pString),(6,.ptr 1 0),(15,pI v3),(21,pB v8)],⟨[some ⟨151,dC d1⟩,some ⟨87,[pI 0,pS s_,pS s_,pI 0,pI 0,pS s_,.nil,.nil,.nil]⟩],[]⟩⟩) (gU H) (fun H=>?_) ?_
 ·refine qS (qR (q1 eM (q1 aF (qN ?_))))
  refine bA H (fun h9 H=>?_) (fun h9 H=>?_)
  ·refine aP.skip ?_;exact dP ⟨_,(aY H:),b0⟩
  refine qR (q1 eM (q1 aF (qN ?_)))
  exact dP ⟨_,(aY H:),b0⟩
 rintro v8 H
 refine bA H (fun h10 H=>?_) (fun h10 H=>?_)
 ·refine qS (qR (q1 aF (q1 (eT b3 (bC _)) (q1 IB (qN ?_)))))
  refine bA H (fun h11 H=>?_) (fun h11 H=>?_)
  ·refine qS (qR ?_)
   iterate 2 refine q1 aF ?_
   refine dF H fun z12 H=>(g0 H fun d13 h14 H=>(g0 H fun y15 h16 H=>(q1 (f7 [0] [] Tryz.func86 (LC h14 h16 (gI d1 pa1 z12))) (bO H fun x18 z17 H=>(q1 (bI Tryz.func157 (vW fu y15 _ z17)) (q1 (bU pC) (qN (aP.ret ?_))))))))
   obtain rfl:_=r:=(aY H:)
   exact bM (hr:=⟨⟨_,_,_,rfl,rfl,hP,rfl,rfl⟩,trivial⟩)
  refine aP.skip (qS (qR (q1 aF (g0 H fun d19 h20 H=>(q1 (f7 [0] [] Tryz.func103 (AO h20 (fG d1 20))) (q1 AF (bO H fun x22 z21 H=>(q1 (bI Tryz.func159 (sQ fu (aQ (((d1.below 20:Nat):Int)-5)) _ z21)) (q1 (bU pC) (qN (aP.ret ?_)))))))))))
  obtain rfl:_=r:=(aY H:)
  exact bM (hr:=⟨⟨_,_,_,rfl,rfl,hP,rfl,rfl⟩,trivial⟩)
 refine qS (qR (q1 eM (q1 aF (qN ?_))))
 refine bA H (fun h23 H=>?_) (fun h23 H=>?_)
 ·refine qS (qR (q1 aF (q1 (iA ([s_f,s_g]:List ByteArray) b3 lA) (g0 H fun d24 h25 H=>(g0 H fun y26 h27 H=>(q1 (f7 [0] [] Tryz.func86 (LC h25 h27 (gI d1 ([s_f,s_g]:List ByteArray) (by decide)))) ?_))))))
  iterate 3 refine q1 aF ?_
  refine q1 AF (fK H fun x29 x30 z28 H=>(q1 (f7 [0] [] Tryz.func111 (h_sl11Expr d24 pa1 (aQ (pString-1)) _ z28)) (q1 (iA ([x29]:List aG) nK kG) (bO H fun x32 z31 H=>(q1 (bI Tryz.func158 (sR fu 4 y26 ([x29]:List aG) _ z31)) (q1 (bU pC) (qN (aP.ret ?_))))))))
  obtain rfl:_=r:=(aY H:)
  exact bM (hr:=⟨⟨_,_,_,rfl,rfl,hP,rfl,rfl⟩,trivial⟩)
 refine qS (qR (q1 eM (q1 aF (qN ?_))))
 refine bA H (fun h33 H=>?_) (fun h33 H=>?_)
 ·refine qS (qR (q1 aF (q1 (iA ([bH,jP]:List ByteArray) b3 lA) (g0 H fun d34 h35 H=>(g0 H fun y36 h37 H=>(q1 (f7 [0] [] Tryz.func86 (LC h35 h37 (gI d1 ([bH,jP]:List ByteArray) (by decide)))) ?_))))))
  iterate 3 refine q1 aF ?_
  refine q1 AF (fK H fun x39 x40 z38 H=>(q1 (f7 [0] [] Tryz.func111 (h_sl11Expr d34 pa1 (aQ (pString-1)) _ z38)) ?_))
  iterate 3 refine q1 aF ?_
  refine q1 AF (fK H fun x42 x43 z41 H=>(q1 (f7 [0] [] Tryz.func111 (h_sl11Expr x40 pa1 (aQ (pString-1)) _ z41)) (q1 (iA ([x39,x42]:List aG) nK kG) (q1 (f6 kG vS) (q1 (bU pC) (qN (aP.ret ?_)))))))
  obtain rfl:_=r:=(aY H:)
  exact bM (hr:=⟨⟨_,_,_,rfl,rfl,hP,rfl,rfl⟩,trivial⟩)
 refine qS (qR (q1 eM (q1 aF (qN ?_))))
 refine bA H (fun h44 H=>?_) (fun h44 H=>?_)
 ·refine qS (qR ?_)
  iterate 3 refine q1 aF ?_
  refine q1 AF (fK H fun x46 x47 z45 H=>(q1 (f7 [0] [] Tryz.func111 (h_sl11Expr d1 pa1 (aQ (pString-1)) _ z45)) ?_))
  iterate 3 refine q1 aF ?_
  refine q1 AF (fK H fun x49 x50 z48 H=>(q1 (f7 [0] [] Tryz.func111 (h_sl11Expr x47 pa1 (aQ (pString-1)) _ z48)) (q1 (iA ([x46,x49]:List aG) nK kG) (bO H fun x52 z51 H=>(q1 (bI Tryz.func158 (sR fu 6 cG ([x46,x49]:List aG) _ z51)) (q1 (bU pC) (qN (aP.ret ?_))))))))
  obtain rfl:_=r:=(aY H:)
  exact bM (hr:=⟨⟨_,_,_,rfl,rfl,hP,rfl,rfl⟩,trivial⟩)
 refine qS (qR (q1 eM (q1 aF (qN ?_))))
 refine bA H (fun h53 H=>?_) (fun h53 H=>?_)
 ·refine qS (qR (q1 (t2 ([]:List ByteArray) b3 lA) (q1 aF (dF H fun z54 H=>(q1 (mJ z54 b3 rT) (q1 (iA ([ZH,ZI]:List ByteArray) b3 lA) (dF H fun z55 H=>(q1 (mJ z55 b3 rT) (q1 aF (qN (qS (qR ?_))))))))))))
  iterate 3 refine q1 aF ?_
  refine q1 AF (fK H fun x57 x58 z56 H=>(q1 (f7 [0] [] Tryz.func111 (h_sl11Expr d1 pa1 (aQ (pString-1)) _ z56)) (q1 (iA ([x57]:List aG) nK kG) ?_)))
  iterate 3 refine q1 aF ?_
  refine q1 AF (fK H fun x60 x61 z59 H=>(q1 (f7 [0] [] Tryz.func111 (h_sl11Expr x58 pa1 (aQ (pString-1)) _ z59)) (q1 (f6 UY agN) (q1 (iA ([ZH,ZI]:List ByteArray) b3 lA) ?_))))
  iterate 3 refine q1 aF ?_
  refine q1 AF (fK H fun x63 x64 z62 H=>(q1 (f7 [0] [] Tryz.func111 (h_sl11Expr x61 ((([])++pa1)++([ZH,ZI]:List ByteArray)) (aQ (pString-1)) _ z62)) (q1 (f6 UY agN) (q1 (iA ([(bJ.mk fJ [] x60),(bJ.mk cG ([ZH,ZI]:List ByteArray) x63)]:List bJ) pP UY) (q1 (f6 kG vS) (q1 (bU pC) (qN (aP.ret ?_))))))))
  obtain rfl:_=r:=(aY H:)
  exact bM (hr:=⟨⟨_,_,_,rfl,rfl,hP,rfl,rfl⟩,trivial⟩)
 refine qS (qR (q1 eM (q1 aF (qN ?_))))
 refine bA H (fun h65 H=>?_) (fun h65 H=>?_)
 ·refine qS (qR ?_)
  iterate 3 refine q1 aF ?_
  refine q1 AF (fK H fun x67 x68 z66 H=>(q1 (f7 [0] [] Tryz.func111 (h_sl11Expr d1 pa1 (aQ (pString-1)) _ z66)) (q1 aF (q1 (t2 ([]:List ByteArray) b3 lA) (q1 aF (dF H fun z69 H=>(q1 (mJ z69 b3 rT) (q1 (iA ([oT]:List ByteArray) b3 lA) (dF H fun z70 H=>(q1 (mJ z70 b3 rT) (q1 aF (q1 AF (fK H fun x72 x73 z71 H=>?_)))))))))))))
  refine q1 (f7 [0] [] Tryz.func111 (h_sl11Expr x68 ((([])++pa1)++([oT]:List ByteArray)) (aQ (pString-1)) _ z71)) (q1 (iA ([x67,x72]:List aG) nK kG) (bO H fun x75 z74 H=>(q1 (bI Tryz.func158 (sR fu 8 oT ([x67,x72]:List aG) _ z74)) (q1 (bU pC) (qN (aP.ret ?_))))))
  obtain rfl:_=r:=(aY H:)
  exact bM (hr:=⟨⟨_,_,_,rfl,rfl,hP,rfl,rfl⟩,trivial⟩)
 refine qS (qR (q1 eM (q1 aF (qN ?_))))
 refine bA H (fun h76 H=>?_) (fun h76 H=>?_)
 ·refine qS (qR ?_)
  iterate 3 refine q1 aF ?_
  refine q1 AF (fK H fun x78 x79 z77 H=>(q1 (f7 [0] [] Tryz.func111 (h_sl11Expr d1 pa1 (aQ (pString-1)) _ z77)) ?_))
  iterate 3 refine q1 aF ?_
  refine q1 AF (fK H fun x81 x82 z80 H=>(q1 (f7 [0] [] Tryz.func111 (h_sl11Expr x79 pa1 (aQ (pString-1)) _ z80)) ?_))
  iterate 3 refine q1 aF ?_
  refine q1 AF (fK H fun x84 x85 z83 H=>(q1 (f7 [0] [] Tryz.func111 (h_sl11Expr x82 pa1 (aQ (pString-1)) _ z83)) (q1 (iA ([x78,x81,x84]:List aG) nK kG) (bO H fun x87 z86 H=>(q1 (bI Tryz.func158 (sR fu 9 s_ ([x78,x81,x84]:List aG) _ z86)) (q1 (bU pC) (qN (aP.ret ?_))))))))
  obtain rfl:_=r:=(aY H:)
  exact bM (hr:=⟨⟨_,_,_,rfl,rfl,hP,rfl,rfl⟩,trivial⟩)
 refine qS (qR (q1 eM (q1 aF (qN ?_))))
 refine bA H (fun h88 H=>?_) (fun h88 H=>?_)
 ·refine qS (qR (q1 aF (q1 (iA ([wG,AY,H8,H9,IA]:List ByteArray) b3 lA) (g0 H fun d89 h90 H=>(g0 H fun y91 h92 H=>(q1 (f7 [0] [] Tryz.func86 (LC h90 h92 (gI d1 ([wG,AY,H8,H9,IA]:List ByteArray) (by decide)))) ?_))))))
  iterate 3 refine q1 aF ?_
  refine q1 AF (fK H fun x94 x95 z93 H=>(q1 (f7 [0] [] Tryz.func111 (h_sl11Expr d89 pa1 (aQ (pString-1)) _ z93)) ?_))
  iterate 3 refine q1 aF ?_
  refine q1 AF (fK H fun x97 x98 z96 H=>(q1 (f7 [0] [] Tryz.func111 (h_sl11Expr x95 pa1 (aQ (pString-1)) _ z96)) (q1 (iA ([x94,x97]:List aG) nK kG) (bO H fun x100 z99 H=>(q1 (bI Tryz.func158 (sR fu 10 y91 ([x94,x97]:List aG) _ z99)) (q1 (bU pC) (qN (aP.ret ?_))))))))
  obtain rfl:_=r:=(aY H:)
  exact bM (hr:=⟨⟨_,_,_,rfl,rfl,hP,rfl,rfl⟩,trivial⟩)
 refine qS (qR (q1 eM (q1 aF (qN ?_))))
 refine bA H (fun h101 H=>?_) (fun h101 H=>?_)
 ·refine qS (qR ?_)
  iterate 3 refine q1 aF ?_
  refine q1 AF (fK H fun x103 x104 z102 H=>(q1 (f7 [0] [] Tryz.func111 (h_sl11Expr d1 pa1 (aQ (pString-1)) _ z102)) (q1 (iA ([x103]:List aG) nK kG) (q1 (f6 kG vS) (q1 (bU pC) (qN (aP.ret ?_)))))))
  obtain rfl:_=r:=(aY H:)
  exact bM (hr:=⟨⟨_,_,_,rfl,rfl,hP,rfl,rfl⟩,trivial⟩)
 refine qS (qR (q1 eM (q1 aF (qN ?_))))
 refine bA H (fun h105 H=>?_) (fun h105 H=>?_)
 ·refine qS (qR (q1 aF (q1 (iA ([f9]:List ByteArray) b3 lA) (fK H fun x107 x108 z106 H=>(q1 (f7 [0] [] Tryz.func130 (O7 fu d1 ([f9]:List ByteArray) 1 _ z106)) ?_)))))
  iterate 3 refine q1 aF ?_
  refine q1 AF (fK H fun x110 x111 z109 H=>(q1 (f7 [0] [] Tryz.func111 (h_sl11Expr x108 pa1 (aQ (pString-1)) _ z109)) (q1 (iA ([x110]:List aG) nK kG) (q1 (f6 kG vS) (q1 (bU pC) (qN (aP.ret ?_)))))))
  obtain rfl:_=r:=(aY H:)
  exact bM (hr:=⟨⟨_,_,_,rfl,rfl,hP,rfl,rfl⟩,trivial⟩)
 refine aP.skip (qS (qR (q1 aF (g0 H fun d112 h113 H=>(q1 (f7 [0] [] Tryz.func103 (AO h113 (fG d1 20))) (q1 AF (bO H fun x115 z114 H=>(q1 (bI Tryz.func159 (sQ fu (aQ (((d1.below 20:Nat):Int)-5)) _ z114)) (q1 (bU pC) (qN (aP.ret ?_)))))))))))
 obtain rfl:_=r:=(aY H:)
 exact bM (hr:=⟨⟨_,_,_,rfl,rfl,hP,rfl,rfl⟩,trivial⟩)
def kE:Nat→DS→(List ByteArray)→Int→Option (aG×DS)
 |0,_,_,_=>none
 |fu+1,pq0,pa1,pString=>F9 fu (kE fu) pq0 pa1 pString
theorem SZ(fu:Nat):zV (kE fu):=by
 induction fu with
 |zero=>exact(fun pq0 pa1 pString r H=>by simp only [kE] at H;cases H)
 |succ fu ih=>exact(fun pq0 pa1 pString r H=>by simp only [kE] at H;exact QN fu (kE fu) ih pq0 pa1 pString r H)
theorem KU(fu:Nat):zV (kE fu):=(SZ fu)
def afM(m:Option aA):Prop:= ∀(r:aA),m=some r→cE Tryz.prog 147 [] ((aA.pv r):PV)
def yX(fu:Nat):Option aA:=
 bd (jR fu fU ([])) (fun x2=>
 some x2)
theorem sZ(fu:Nat):afM (yX fu):=by
 intro r H
 have H:=fI H
 refine qI Tryz.func147 (fun C hC=>?_)
 refine qS (qR (q1 (iV gV) (qN (qS (qR (bO H fun x2 z1 H=>(q1 (bI Tryz.func85 (jG fu fU ([]) _ z1)) (q1 (bU hQ) (qN (aP.ret ?_))))))))))
 obtain rfl:_=r:=(aY H:)
 exact bM (hr:=⟨⟨_,_,_,rfl,rfl,cH,rfl,rfl⟩,trivial⟩)
def Z1(m:DS→Option (aH×DS)):Prop:= ∀(pq0:DS) (r:aH×DS),m pq0=some r→cY Tryz.prog 169 [.ptr 0 0] ⟨[some ⟨151,dC pq0⟩],[]⟩ (fun q t=>q=((aH.pv r.1):PV)∧t=⟨[some ⟨151,dC r.2⟩],[]⟩)
def XA(fu:Nat)(pq0 d1:DS)(y3:ByteArray)(d5:DS)(x8:aG):Option ((aH×DS)⊕((List ByteArray)×Int×ByteArray×(List aA)×(List aJ)×DS)):=
 lt (d5.after 4) (fun d15=>
 sw (decide ((((d5.below 4:Nat):Int):Int)=0))
 (bd (yX fu) (fun x19=>
 some (.inr ([],x19.gKind,x19.gName,x19.gArgs,[],d15))))
 (sw (decide ((((d5.below 4:Nat):Int):Int)=1))
 (bd (l9 fu f9) (fun x22=>
 bd (jR fu cU ([x22]:List aA)) (fun x24=>
 some (.inr (([f9]:List ByteArray),x24.gKind,x24.gName,x24.gArgs,([(aJ.mk y3 x22)]:List aJ),d15)))))
 (sw (decide ((((d5.below 4:Nat):Int):Int)=2))
 (bd (l9 fu f9) (fun x27=>
 bd (l9 fu A0) (fun x29=>
 bd (jR fu uC ([x27,x29]:List aA)) (fun x31=>
 some (.inr (([f9,A0]:List ByteArray),x31.gKind,x31.gName,x31.gArgs,[],d15))))))
 (bd (l9 fu f9) (fun x33=>
 some (.inr (([f9]:List ByteArray),x33.gKind,x33.gName,x33.gArgs,([(aJ.mk kD x33)]:List aJ),d15)))))))
def XB(fu:Nat)(pq0 d1:DS)(y3:ByteArray)(d5:DS)(x8:aG)(v9:List ByteArray)(v10:Int)(v11:ByteArray)(v12:List aA)(v13:List aJ)(v14:DS):Option ((aH×DS)⊕((List aA)×Bool×Int×ByteArray×DS)):=
 lt (v14.after 3) (fun d39=>
 sw (decide (v14.below 3=0))
 (bd (pO fu d39 v9 1) (fun(x43,x44)=>
 some (.inr (x43.gArgs,true,x43.gKind,x43.gName,x44))))
 (some (.inr ([],false,0,s_,d39))))
def GH(fu:Nat)(pq0:DS):Option (aH×DS):=
 lt (pq0.after ([bH,tM,jP]:List ByteArray).length) (fun d1=>
 lt (pq0.pick ([bH,tM,jP]:List ByteArray)) (fun y3=>
 lt (d1.after 9) (fun d5=>
 bd (qU fu ((d1.below 9:Nat):Int)) (fun x8=>
 so (XA fu pq0 d1 y3 d5 x8) (fun(v9,v10,v11,v12,v13,v14)=>
 so (XB fu pq0 d1 y3 d5 x8 v9 v10 v11 v12 v13 v14) (fun(v38,v35,v36,v37,v34)=>
 lt (v34.after 4) (fun d45=>
 lt (d45.after 12) (fun d47=>
 sw (decide ((((d45.below 12:Nat):Int):Int)=0))
 (bd (sY fu d47 2) (fun(x51,x52)=>
 some ((aH.mk y3 v9 x51 v13 (decide (v34.below 4=0)) v35 (aA.mk v36 v37 v38) ([(aN.mk eN ([eI]:List ByteArray) x8)]:List aN)),x52)))
 (sw (decide ((((d45.below 12:Nat):Int):Int)=1))
 (lt (d47.after ([f9,s_c]:List ByteArray).length) (fun d54=>
 lt (d47.pick ([f9,s_c]:List ByteArray)) (fun y56=>
 gd ((v9).length+(([y56]:List ByteArray)).length≤68719476736)
 (some ((aH.mk y3 (v9++([y56]:List ByteArray)) (aA.mk v10 v11 v12) v13 (decide (v34.below 4=0)) v35 (aA.mk v36 v37 v38) ([(aN.mk eN ([eI]:List ByteArray) x8)]:List aN)),d54)))))
 (sw (decide ((((d45.below 12:Nat):Int):Int)=2))
 (bd (sY fu d47 1) (fun(x61,x62)=>
 gd ((v13).length+(([(aJ.mk tM x61)]:List aJ)).length≤68719476736)
 (some ((aH.mk y3 v9 (aA.mk v10 v11 v12) (v13++([(aJ.mk tM x61)]:List aJ)) (decide (v34.below 4=0)) v35 (aA.mk v36 v37 v38) ([(aN.mk eN ([eI]:List ByteArray) x8)]:List aN)),x62))))
 (sw (decide ((((d45.below 12:Nat):Int):Int)=3))
 (bd (kE fu d47 ([eI,oT]:List ByteArray) 2) (fun(x66,x67)=>
 some ((aH.mk y3 v9 (aA.mk v10 v11 v12) v13 (decide (v34.below 4=0)) v35 (aA.mk v36 v37 v38) ([(aN.mk eN ([eI]:List ByteArray) x66)]:List aN)),x67)))
 (sw (decide ((((d45.below 12:Nat):Int):Int)=4))
 (bd (yX fu) (fun x70=>
 some ((aH.mk y3 v9 (aA.mk v10 v11 v12) v13 (decide (v34.below 4=0)) v35 x70 ([(aN.mk eN ([eI]:List ByteArray) x8)]:List aN)),d47)))
 (sw (decide ((((d45.below 12:Nat):Int):Int)=5))
 (some ((aH.mk y3 v9 (aA.mk v10 v11 v12) v13 (decide (v34.below 4=0)) v35 (aA.mk v36 v37 v38) ([(aN.mk eN ([]) x8)]:List aN)),d47))
 (some ((aH.mk y3 v9 (aA.mk v10 v11 v12) v13 (decide (v34.below 4=0)) v35 (aA.mk v36 v37 v38) ([(aN.mk eN ([eI]:List ByteArray) x8)]:List aN)),d47)))))))))))))))
theorem XC(fu:Nat):Z1 (GH fu):=by
 intro pq0 r H
 have H:=fI H
 refine qI Tryz.func169 (fun C hC=>?_)
 refine qS (qR (q1 (iV tU) (qN (qS (qR (q1 aF (q1 (rW ([bH,tM,jP]:List ByteArray) b3 lA) (g0 H fun d1 h2 H=>(g0 H fun y3 h4 H=>(q1 (f7 [0] [] Tryz.func86 (LC h2 h4 (gI pq0 ([bH,tM,jP]:List ByteArray) (by decide)))) (q1 (rW ([eI]:List ByteArray) b3 lA) (q1 aF (g0 H fun d5 h6 H=>?_)))))))))))))
 refine q1 (f7 [0] [] Tryz.func103 (AO h6 (fG d1 9))) (bO H fun x8 z7 H=>(q1 (bI Tryz.func159 (sQ fu ((d1.below 9:Nat):Int) _ z7)) (q1 (f6 RO ahE) (q1 (aV.buildSliceB (cs:= [pS eN,.lit 1 (aW (([eI]:List ByteArray))),pI x8.gKind,pS x8.gTrait,pS x8.gName,pI x8.gN,pI x8.gType.gKind,pS x8.gType.gName,a4 x8.gType.gArgs,gQ x8.gArgs,oM x8.gArms]) rfl rfl R7 RO rfl rfl rfl (by decide) rfl (by decide)) (q1 (f6 tU NS) (q1 (iV tU) (q1 (bU rR) (qN (qS ?_)))))))))
 refine o7 (σ:=(List ByteArray)×Int×ByteArray×(List aA)×(List aJ)×DS) (fun(v9,v10,v11,v12,v13,v14)=>⟨[(0,.ptr 0 0),(2,.ptr 1 0),(3,.ptr 3 0)],⟨[some ⟨151,dC v14⟩,some ⟨55,[pS s_,.nil,pI 0,pS s_,.nil,.nil,pB false,pB false,pI 0,pS s_,.nil,.nil]⟩,some ⟨161,[pS eN,.lit 1 (aW (([eI]:List ByteArray))),pI x8.gKind,pS x8.gTrait,pS x8.gName,pI x8.gN,pI x8.gType.gKind,pS x8.gType.gName,a4 x8.gType.gArgs,gQ x8.gArgs,oM x8.gArms]⟩,some ⟨55,[pS y3,.lit 1 (aW (v9)),pI v10,pS v11,a4 v12,.lit 4 (aJ.trs (v13)),pB false,pB false,pI 0,pS s_,.nil,.bsl 2 1]⟩],[]⟩⟩) (gU H) (fun H=>?_) ?_
 ·refine qS (qR (q1 aF (g0 H fun d15 h16 H=>(q1 (f7 [0] [] Tryz.func103 (AO h16 (fG d5 4))) (qN (aP.block (qS (qR (q1 eM (q1 aF (qN ?_)))))))))))
  refine bA H (fun h17 H=>?_) (fun h17 H=>?_)
  ·refine qR (bO H fun x19 z18 H=>(q1 (bI Tryz.func147 (sZ fu _ z18)) (q1 (a5 nL) (q1 (bU hQ) (qN ?_)))))
   exact dP ⟨_,(aY H:),b0⟩
  refine qS (qR (q1 eM (q1 aF (qN ?_))))
  refine bA H (fun h20 H=>?_) (fun h20 H=>?_)
  ·refine qS (qR (q1 (rW ([f9]:List ByteArray) b3 lA) (q1 (a5 r6) (q1 (bU L4) (qN (qS (qR (bO H fun x22 z21 H=>(q1 (bI Tryz.func118 (jI fu f9 _ z21)) (q1 (rW ([x22]:List aA) dX gV) (bO H fun x24 z23 H=>(q1 (bI Tryz.func85 (jG fu cU ([x22]:List aA) _ z23)) (q1 (a5 nL) ?_)))))))))))))
   refine q1 (bU hQ) (qN (dW (dI [3] (a5 zF) (dD [36] (bG fB) (dI [] (bI Tryz.func118 (jI fu f9 _ z21)) (dI [37,38] (f6 PI ae8) (dI [39] (rW ([(aJ.mk y3 x22)]:List aJ) BB PI) (dI [3] (a5 IU) (nI [41,40] (bU aiK) (dN ?_))))))))))
   exact dP ⟨_,(aY H:),b0⟩
  refine qS (qR (q1 eM (q1 aF (qN ?_))))
  refine bA H (fun h25 H=>?_) (fun h25 H=>?_)
  ·refine qS (qR (q1 (rW ([f9,A0]:List ByteArray) b3 lA) (q1 (a5 r6) (q1 (bU L4) (qN (qR (bO H fun x27 z26 H=>(q1 (bI Tryz.func118 (jI fu f9 _ z26)) (bO H fun x29 z28 H=>(q1 (bI Tryz.func118 (jI fu A0 _ z28)) (q1 (rW ([x27,x29]:List aA) dX gV) (bO H fun x31 z30 H=>(q1 (bI Tryz.func85 (jG fu uC ([x27,x29]:List aA) _ z30)) ?_)))))))))))))
   refine q1 (a5 nL) (q1 (bU hQ) (qN ?_))
   exact dP ⟨_,(aY H:),b0⟩
  refine qS (qR (q1 (rW ([f9]:List ByteArray) b3 lA) (q1 (a5 r6) (q1 (bU L4) (qN (qS (qR (bO H fun x33 z32 H=>(q1 (bI Tryz.func118 (jI fu f9 _ z32)) (q1 (a5 nL) (q1 (bU hQ) (qN (qR ?_)))))))))))))
  refine q1 (bI Tryz.func118 (jI fu f9 _ z32)) (q1 (f6 PI ae8) (q1 (rW ([(aJ.mk kD x33)]:List aJ) BB PI) (q1 (a5 IU) (q1 (bU aiK) (qN ?_)))))
  exact dP ⟨_,(aY H:),b0⟩
 rintro⟨v9,v10,v11,v12,v13,v14⟩ H
 refine qS ?_;refine o7 (σ:=(List aA)×Bool×Int×ByteArray×DS) (fun(v38,v35,v36,v37,v34)=>⟨[(0,.ptr 0 0),(2,.ptr 1 0),(3,.ptr 3 0)],⟨[some ⟨151,dC v34⟩,some ⟨55,[pS s_,.nil,pI 0,pS s_,.nil,.nil,pB false,pB false,pI 0,pS s_,.nil,.nil]⟩,some ⟨161,[pS eN,.lit 1 (aW (([eI]:List ByteArray))),pI x8.gKind,pS x8.gTrait,pS x8.gName,pI x8.gN,pI x8.gType.gKind,pS x8.gType.gName,a4 x8.gType.gArgs,gQ x8.gArgs,oM x8.gArms]⟩,some ⟨55,[pS y3,.lit 1 (aW (v9)),pI v10,pS v11,a4 v12,.lit 4 (aJ.trs (v13)),pB false,pB v35,pI v36,pS v37,a4 v38,.bsl 2 1]⟩],[]⟩⟩) (gU H) (fun H=>?_) ?_
 ·refine qS (qR (q1 aF (g0 H fun d39 h40 H=>(q1 (f7 [0] [] Tryz.func112 (AO h40 (mI v14 3))) (qN ?_)))))
  refine bA H (fun h41 H=>?_) (fun h41 H=>?_)
  ·refine qS (qR (q1 (a5 IV) (q1 (bU sz4) (qN (qR (q1 aF (q1 (a5 r6) (q1 (bG lK) (fK H fun x43 x44 z42 H=>(q1 (f7 [0] [] Tryz.func130 (O7 fu d39 v9 1 _ z42)) (q1 (a5 IW) (q1 (bU hQ) (qN ?_)))))))))))))
   exact dP ⟨_,(aY H:),b0⟩
  refine aP.skip ?_;exact dP ⟨_,(aY H:),b0⟩
 rintro⟨v38,v35,v36,v37,v34⟩ H
 refine qS (qR (q1 aF (g0 H fun d45 h46 H=>(q1 (f7 [0] [] Tryz.func112 (AO h46 (mI v34 4))) (q1 (a5 aeY) (q1 (bU sz4) (qN ?_)))))))
 iterate 2 refine qS ?_
 refine qR (q1 aF (g0 H fun d47 h48 H=>(q1 (f7 [0] [] Tryz.func103 (AO h48 (fG d45 12))) (qN (aP.block (qS (qR (q1 eM (q1 aF (qN ?_))))))))))
 refine bA H (fun h49 H=>?_) (fun h49 H=>?_)
 ·refine qR (q1 aF (fK H fun x51 x52 z50 H=>(q1 (f7 [0] [] Tryz.func87 (vZ fu d47 2 _ z50)) (q1 (a5 nL) (q1 (bU hQ) (qN (qS (qR ?_))))))))
  refine AL.weak (Wk.freezeE (k:=2) (sz:=11) (es:= [aN.cs (aN.mk eN ([eI]:List ByteArray) x8)]) (es':=aN.trs (([(aN.mk eN ([eI]:List ByteArray) x8)]:List aN))) (s':=⟨[(0,.ptr 0 0),(2,.ptr 1 0),(3,.ptr 3 0),(63,pN (d45.below 12))],⟨[some ⟨151,dC x52⟩,some ⟨55,[pS s_,.nil,pI 0,pS s_,.nil,.nil,pB false,pB false,pI 0,pS s_,.nil,.nil]⟩,none,some ⟨55,[pS y3,.lit 1 (aW (v9)),pI x51.gKind,pS x51.gName,a4 x51.gArgs,.lit 4 (aJ.trs (v13)),pB (decide (v34.below 4=0)),pB v35,pI v36,pS v37,a4 v38,kS ([(aN.mk eN ([eI]:List ByteArray) x8)]:List aN)]⟩],[]⟩⟩) (by simp [aN.trs_map,aN.tr_cs]) rfl lH (by simp [aN.cs]) (Nat.le_of_ble_eq_true rfl) ⟨⟨rfl,dQ,rfl⟩,⟨⟨rfl,dQ,rfl⟩,⟨⟨rfl,dQ,rfl⟩,trivial⟩⟩⟩ rfl rfl (eH hC (jS rfl) (Nat.le_of_ble_eq_true rfl)) (by repeat' first|exact trivial|refine⟨⟨_,rfl,dQ,rfl⟩,?_⟩)) ?_;refine q1 (cV [pS y3,.lit 1 (aW (v9)),pI x51.gKind,pS x51.gName,a4 x51.gArgs,.lit 4 (aJ.trs (v13)),pB (decide (v34.below 4=0)),pB v35,pI v36,pS v37,a4 v38,kS ([(aN.mk eN ([eI]:List ByteArray) x8)]:List aN)] pA) (q1 (bU rR) (qN (aP.ret ?_)))
  obtain rfl:_=r:=(aY H:)
  exact bM (hr:=⟨⟨_,_,_,rfl,rfl,pA,rfl,rfl⟩,trivial⟩)
 refine qS (qR (q1 eM (q1 aF (qN ?_))))
 refine bA H (fun h53 H=>?_) (fun h53 H=>?_)
 ·refine g0 H fun d54 h55 H=>(g0 H fun y56 h57 H=>(dF H fun z58 H=>(dW (dI [3] (a5 r6) (dB [71] 0 1 (vC lK) (dI [0] aF (dI [] (rW ([f9,s_c]:List ByteArray) b3 lA) (dE [73,74] (f7 [0] [] Tryz.func86 (LC h55 h57 (gI d47 ([f9,s_c]:List ByteArray) (by decide)))) (dI [75] (rW ([y56]:List ByteArray) b3 lA) ?_)))))))))
  refine dI [72,76] (aV.appendLit (es1:=aW (v9)) (es2:=aW (([y56]:List ByteArray))) (es3:=aW (v9++([y56]:List ByteArray))) rfl rfl rfl rfl rfl (n7 _) (n7 _) (by exact List.cons_ne_nil _ _) (by decide) b3 rT (by decide) (by rw [bC,bC];exact wN z58 (by decide)) (s9 _ _)) ?_;refine dI [3] (a5 r6) (nI [78,77] (bU L4) (dN (qS (qR ?_))))
  refine AL.weak (Wk.freezeE (k:=2) (sz:=11) (es:= [aN.cs (aN.mk eN ([eI]:List ByteArray) x8)]) (es':=aN.trs (([(aN.mk eN ([eI]:List ByteArray) x8)]:List aN))) (s':=⟨[(0,.ptr 0 0),(2,.ptr 1 0),(3,.ptr 3 0),(63,pN (d45.below 12))],⟨[some ⟨151,dC d54⟩,some ⟨55,[pS s_,.nil,pI 0,pS s_,.nil,.nil,pB false,pB false,pI 0,pS s_,.nil,.nil]⟩,none,some ⟨55,[pS y3,rS (v9++([y56]:List ByteArray)),pI v10,pS v11,a4 v12,.lit 4 (aJ.trs (v13)),pB (decide (v34.below 4=0)),pB v35,pI v36,pS v37,a4 v38,kS ([(aN.mk eN ([eI]:List ByteArray) x8)]:List aN)]⟩],[]⟩⟩) (by simp [aN.trs_map,aN.tr_cs]) rfl lH (by simp [aN.cs]) (Nat.le_of_ble_eq_true rfl) ⟨⟨rfl,dQ,rfl⟩,⟨⟨rfl,dQ,rfl⟩,⟨⟨rfl,dQ,rfl⟩,trivial⟩⟩⟩ rfl rfl (eH hC (jS rfl) (Nat.le_of_ble_eq_true rfl)) (by repeat' first|exact trivial|refine⟨⟨_,rfl,dQ,rfl⟩,?_⟩)) ?_;refine q1 (cV [pS y3,rS (v9++([y56]:List ByteArray)),pI v10,pS v11,a4 v12,.lit 4 (aJ.trs (v13)),pB (decide (v34.below 4=0)),pB v35,pI v36,pS v37,a4 v38,kS ([(aN.mk eN ([eI]:List ByteArray) x8)]:List aN)] pA) (q1 (bU rR) (qN (aP.ret ?_)))
  obtain rfl:_=r:=(aY H:)
  exact bM (hr:=⟨⟨_,_,_,rfl,rfl,pA,rfl,rfl⟩,trivial⟩)
 refine qS (qR (q1 eM (q1 aF (qN ?_))))
 refine bA H (fun h59 H=>?_) (fun h59 H=>?_)
 ·refine fK H fun x61 x62 z60 H=>(dF H fun z63 H=>(dW (dI [3] (a5 IU) (dB [81] 0 1 (vC adF) (dI [0] aF (dE [83] (f7 [0] [] Tryz.func87 (vZ fu d47 1 _ z60)) (dI [84] (f6 PI ae8) (dI [85] (rW ([(aJ.mk tM x61)]:List aJ) BB PI) ?_))))))))
  refine dI [82,86] (aV.appendLit (es1:=aJ.trs (v13)) (es2:=aJ.trs (([(aJ.mk tM x61)]:List aJ))) (es3:=aJ.trs (v13++([(aJ.mk tM x61)]:List aJ))) rfl rfl rfl rfl rfl (fun e he=>by rw [aJ.trs_map] at he;obtain⟨x,_,rfl⟩:=List.mem_map.1 he;rw [aJ.tr_cs];rfl) (fun e he=>by rw [aJ.trs_map] at he;obtain⟨x,_,rfl⟩:=List.mem_map.1 he;rw [aJ.tr_cs];rfl) (by rw [aJ.trs_map];exact List.cons_ne_nil _ _) (by decide) BB ajN (by decide) (by rw [aJ.trs_len,aJ.trs_len];exact wN z63 (by decide)) (by rw [aJ.trs_map,aJ.trs_map,aJ.trs_map,List.map_append])) ?_;refine dI [3] (a5 IU) (nI [88,87] (bU aiK) (dN (qS (qR ?_))))
  refine AL.weak (Wk.freezeE (k:=2) (sz:=11) (es:= [aN.cs (aN.mk eN ([eI]:List ByteArray) x8)]) (es':=aN.trs (([(aN.mk eN ([eI]:List ByteArray) x8)]:List aN))) (s':=⟨[(0,.ptr 0 0),(2,.ptr 1 0),(3,.ptr 3 0),(63,pN (d45.below 12))],⟨[some ⟨151,dC x62⟩,some ⟨55,[pS s_,.nil,pI 0,pS s_,.nil,.nil,pB false,pB false,pI 0,pS s_,.nil,.nil]⟩,none,some ⟨55,[pS y3,.lit 1 (aW (v9)),pI v10,pS v11,a4 v12,fO (v13++([(aJ.mk tM x61)]:List aJ)),pB (decide (v34.below 4=0)),pB v35,pI v36,pS v37,a4 v38,kS ([(aN.mk eN ([eI]:List ByteArray) x8)]:List aN)]⟩],[]⟩⟩) (by simp [aN.trs_map,aN.tr_cs]) rfl lH (by simp [aN.cs]) (Nat.le_of_ble_eq_true rfl) ⟨⟨rfl,dQ,rfl⟩,⟨⟨rfl,dQ,rfl⟩,⟨⟨rfl,dQ,rfl⟩,trivial⟩⟩⟩ rfl rfl (eH hC (jS rfl) (Nat.le_of_ble_eq_true rfl)) (by repeat' first|exact trivial|refine⟨⟨_,rfl,dQ,rfl⟩,?_⟩)) ?_;refine q1 (cV [pS y3,.lit 1 (aW (v9)),pI v10,pS v11,a4 v12,fO (v13++([(aJ.mk tM x61)]:List aJ)),pB (decide (v34.below 4=0)),pB v35,pI v36,pS v37,a4 v38,kS ([(aN.mk eN ([eI]:List ByteArray) x8)]:List aN)] pA) (q1 (bU rR) (qN (aP.ret ?_)))
  obtain rfl:_=r:=(aY H:)
  exact bM (hr:=⟨⟨_,_,_,rfl,rfl,pA,rfl,rfl⟩,trivial⟩)
 refine qS (qR (q1 eM (q1 aF (qN ?_))))
 refine bA H (fun h64 H=>?_) (fun h64 H=>?_)
 ·refine fK H fun x66 x67 z65 H=>(dW (dI [3] (a5 BC) (dB [91] 0 1 (vC ZJ) (dI [0] aF (dI [] (rW ([eI,oT]:List ByteArray) b3 lA) (dE [93,94] (f7 [0] [] Tryz.func111 (KU fu d47 ([eI,oT]:List ByteArray) 2 _ z65)) (dI [92] (aV.indexB (sz:=11) (k:=2) (N:=1) (i:=0) rfl rfl rfl rfl (by decide) R7) (dI [96] (a5 SE) (nI [97,95] (bU pC) (dN (qS (qR ?_))))))))))))
  refine AL.weak (Wk.freezeE (k:=2) (sz:=11) (es:= [aN.cs (aN.mk eN ([eI]:List ByteArray) x66)]) (es':=aN.trs (([(aN.mk eN ([eI]:List ByteArray) x66)]:List aN))) (s':=⟨[(0,.ptr 0 0),(2,.ptr 1 0),(3,.ptr 3 0),(63,pN (d45.below 12))],⟨[some ⟨151,dC x67⟩,some ⟨55,[pS s_,.nil,pI 0,pS s_,.nil,.nil,pB false,pB false,pI 0,pS s_,.nil,.nil]⟩,none,some ⟨55,[pS y3,.lit 1 (aW (v9)),pI v10,pS v11,a4 v12,.lit 4 (aJ.trs (v13)),pB (decide (v34.below 4=0)),pB v35,pI v36,pS v37,a4 v38,kS ([(aN.mk eN ([eI]:List ByteArray) x66)]:List aN)]⟩],[]⟩⟩) (by simp [aN.trs_map,aN.tr_cs]) rfl lH (by simp [aN.cs]) (Nat.le_of_ble_eq_true rfl) ⟨⟨rfl,dQ,rfl⟩,⟨⟨rfl,dQ,rfl⟩,⟨⟨rfl,dQ,rfl⟩,trivial⟩⟩⟩ rfl rfl (eH hC (jS rfl) (Nat.le_of_ble_eq_true rfl)) (by repeat' first|exact trivial|refine⟨⟨_,rfl,dQ,rfl⟩,?_⟩)) ?_;refine q1 (cV [pS y3,.lit 1 (aW (v9)),pI v10,pS v11,a4 v12,.lit 4 (aJ.trs (v13)),pB (decide (v34.below 4=0)),pB v35,pI v36,pS v37,a4 v38,kS ([(aN.mk eN ([eI]:List ByteArray) x66)]:List aN)] pA) (q1 (bU rR) (qN (aP.ret ?_)))
  obtain rfl:_=r:=(aY H:)
  exact bM (hr:=⟨⟨_,_,_,rfl,rfl,pA,rfl,rfl⟩,trivial⟩)
 refine qS (qR (q1 eM (q1 aF (qN ?_))))
 refine bA H (fun h68 H=>?_) (fun h68 H=>?_)
 ·refine qR (bO H fun x70 z69 H=>(q1 (bI Tryz.func147 (sZ fu _ z69)) (q1 (a5 IW) (q1 (bU hQ) (qN (qS (qR ?_)))))))
  refine AL.weak (Wk.freezeE (k:=2) (sz:=11) (es:= [aN.cs (aN.mk eN ([eI]:List ByteArray) x8)]) (es':=aN.trs (([(aN.mk eN ([eI]:List ByteArray) x8)]:List aN))) (s':=⟨[(0,.ptr 0 0),(2,.ptr 1 0),(3,.ptr 3 0),(63,pN (d45.below 12))],⟨[some ⟨151,dC d47⟩,some ⟨55,[pS s_,.nil,pI 0,pS s_,.nil,.nil,pB false,pB false,pI 0,pS s_,.nil,.nil]⟩,none,some ⟨55,[pS y3,.lit 1 (aW (v9)),pI v10,pS v11,a4 v12,.lit 4 (aJ.trs (v13)),pB (decide (v34.below 4=0)),pB v35,pI x70.gKind,pS x70.gName,a4 x70.gArgs,kS ([(aN.mk eN ([eI]:List ByteArray) x8)]:List aN)]⟩],[]⟩⟩) (by simp [aN.trs_map,aN.tr_cs]) rfl lH (by simp [aN.cs]) (Nat.le_of_ble_eq_true rfl) ⟨⟨rfl,dQ,rfl⟩,⟨⟨rfl,dQ,rfl⟩,⟨⟨rfl,dQ,rfl⟩,trivial⟩⟩⟩ rfl rfl (eH hC (jS rfl) (Nat.le_of_ble_eq_true rfl)) (by repeat' first|exact trivial|refine⟨⟨_,rfl,dQ,rfl⟩,?_⟩)) ?_;refine q1 (cV [pS y3,.lit 1 (aW (v9)),pI v10,pS v11,a4 v12,.lit 4 (aJ.trs (v13)),pB (decide (v34.below 4=0)),pB v35,pI x70.gKind,pS x70.gName,a4 x70.gArgs,kS ([(aN.mk eN ([eI]:List ByteArray) x8)]:List aN)] pA) (q1 (bU rR) (qN (aP.ret ?_)))
  obtain rfl:_=r:=(aY H:)
  exact bM (hr:=⟨⟨_,_,_,rfl,rfl,pA,rfl,rfl⟩,trivial⟩)
 refine qS (qR (q1 eM (q1 aF (qN ?_))))
 refine bA H (fun h71 H=>?_) (fun h71 H=>?_)
 ·refine qR (q1 (a5 BC) (q1 (bG ZJ) (q1 (rW ([]:List ByteArray) b3 lA) (q1 (aV.indexB (sz:=11) (k:=2) (N:=1) (i:=0) rfl rfl rfl rfl (by decide) R7) (q1 (a5 G5) (q1 (bU L4) (qN (qS (qR ?_)))))))))
  refine AL.weak (Wk.freezeE (k:=2) (sz:=11) (es:= [aN.cs (aN.mk eN ([]) x8)]) (es':=aN.trs (([(aN.mk eN ([]) x8)]:List aN))) (s':=⟨[(0,.ptr 0 0),(2,.ptr 1 0),(3,.ptr 3 0),(63,pN (d45.below 12))],⟨[some ⟨151,dC d47⟩,some ⟨55,[pS s_,.nil,pI 0,pS s_,.nil,.nil,pB false,pB false,pI 0,pS s_,.nil,.nil]⟩,none,some ⟨55,[pS y3,.lit 1 (aW (v9)),pI v10,pS v11,a4 v12,.lit 4 (aJ.trs (v13)),pB (decide (v34.below 4=0)),pB v35,pI v36,pS v37,a4 v38,kS ([(aN.mk eN ([]) x8)]:List aN)]⟩],[]⟩⟩) (by simp [aN.trs_map,aN.tr_cs]) rfl lH (by simp [aN.cs]) (Nat.le_of_ble_eq_true rfl) ⟨⟨rfl,dQ,rfl⟩,⟨⟨rfl,dQ,rfl⟩,⟨⟨rfl,dQ,rfl⟩,trivial⟩⟩⟩ rfl rfl (eH hC (jS rfl) (Nat.le_of_ble_eq_true rfl)) (by repeat' first|exact trivial|refine⟨⟨_,rfl,dQ,rfl⟩,?_⟩)) ?_;refine q1 (cV [pS y3,.lit 1 (aW (v9)),pI v10,pS v11,a4 v12,.lit 4 (aJ.trs (v13)),pB (decide (v34.below 4=0)),pB v35,pI v36,pS v37,a4 v38,kS ([(aN.mk eN ([]) x8)]:List aN)] pA) (q1 (bU rR) (qN (aP.ret ?_)))
  obtain rfl:_=r:=(aY H:)
  exact bM (hr:=⟨⟨_,_,_,rfl,rfl,pA,rfl,rfl⟩,trivial⟩)
 refine aP.skip (qS (qR ?_))
 refine AL.weak (Wk.freezeE (k:=2) (sz:=11) (es:= [aN.cs (aN.mk eN ([eI]:List ByteArray) x8)]) (es':=aN.trs (([(aN.mk eN ([eI]:List ByteArray) x8)]:List aN))) (s':=⟨[(0,.ptr 0 0),(2,.ptr 1 0),(3,.ptr 3 0),(63,pN (d45.below 12))],⟨[some ⟨151,dC d47⟩,some ⟨55,[pS s_,.nil,pI 0,pS s_,.nil,.nil,pB false,pB false,pI 0,pS s_,.nil,.nil]⟩,none,some ⟨55,[pS y3,.lit 1 (aW (v9)),pI v10,pS v11,a4 v12,.lit 4 (aJ.trs (v13)),pB (decide (v34.below 4=0)),pB v35,pI v36,pS v37,a4 v38,kS ([(aN.mk eN ([eI]:List ByteArray) x8)]:List aN)]⟩],[]⟩⟩) (by simp [aN.trs_map,aN.tr_cs]) rfl lH (by simp [aN.cs]) (Nat.le_of_ble_eq_true rfl) ⟨⟨rfl,dQ,rfl⟩,⟨⟨rfl,dQ,rfl⟩,⟨⟨rfl,dQ,rfl⟩,trivial⟩⟩⟩ rfl rfl (eH hC (jS rfl) (Nat.le_of_ble_eq_true rfl)) (by repeat' first|exact trivial|refine⟨⟨_,rfl,dQ,rfl⟩,?_⟩)) ?_;refine q1 (cV [pS y3,.lit 1 (aW (v9)),pI v10,pS v11,a4 v12,.lit 4 (aJ.trs (v13)),pB (decide (v34.below 4=0)),pB v35,pI v36,pS v37,a4 v38,kS ([(aN.mk eN ([eI]:List ByteArray) x8)]:List aN)] pA) (q1 (bU rR) (qN (aP.ret ?_)))
 obtain rfl:_=r:=(aY H:)
 exact bM (hr:=⟨⟨_,_,_,rfl,rfl,pA,rfl,rfl⟩,trivial⟩)
def afF(m:DS→Option (aI×DS)):Prop:= ∀(pc:DS) (r:aI×DS),m pc=some r→cY Tryz.prog 170 [.ptr 0 0] ⟨[some ⟨151,dC pc⟩],[]⟩ (fun q t=>q=((aI.pv r.1):PV)∧t=⟨[some ⟨151,dC r.2⟩],[]⟩)
def ON(fu:Nat)(pc:DS):Option (aI×DS):=
 lt (pc.after ([s_f,s_g]:List ByteArray).length) (fun d1=>
 lt (pc.pick ([s_f,s_g]:List ByteArray)) (fun y3=>
 bd (l9 fu f9) (fun x6=>
 bd (yX fu) (fun x8=>
 bd (sS fu eI) (fun x10=>
 lt (d1.after 10) (fun d11=>
 sw (decide ((((d1.below 10:Nat):Int):Int)=0))
 (bd (sY fu d11 2) (fun(x15,x16)=>
 some ((aI.mk y3 ([f9]:List ByteArray) ([(aJ.mk bH x6)]:List aJ) ([(aR.mk eI x6)]:List aR) x15 (aG.mk 5 bH eN 0 (aA.mk 0 s_ []) ([x10]:List aG) [])),x16)))
 (sw (decide ((((d1.below 10:Nat):Int):Int)=1))
 (lt (d11.after ([eI,oT]:List ByteArray).length) (fun d18=>
 lt (d11.pick ([eI,oT]:List ByteArray)) (fun y20=>
 gd ((([(aR.mk eI x6)]:List aR)).length+(([(aR.mk y20 x8)]:List aR)).length≤68719476736)
 (some ((aI.mk y3 ([f9]:List ByteArray) ([(aJ.mk bH x6)]:List aJ) (([(aR.mk eI x6)]:List aR)++([(aR.mk y20 x8)]:List aR)) x8 (aG.mk 5 bH eN 0 (aA.mk 0 s_ []) ([x10]:List aG) [])),d18)))))
 (sw (decide ((((d1.below 10:Nat):Int):Int)=2))
 (bd (kE fu d11 ([eI,oT]:List ByteArray) 3) (fun(x25,x26)=>
 some ((aI.mk y3 ([f9]:List ByteArray) ([(aJ.mk bH x6)]:List aJ) ([(aR.mk eI x6)]:List aR) x8 x25),x26)))
 (sw (decide ((((d1.below 10:Nat):Int):Int)=3))
 (bd (sY fu d11 1) (fun(x29,x30)=>
 some ((aI.mk y3 ([f9]:List ByteArray) ([(aJ.mk bH x29)]:List aJ) ([(aR.mk eI x6)]:List aR) x8 (aG.mk 5 bH eN 0 (aA.mk 0 s_ []) ([x10]:List aG) [])),x30)))
 (sw (decide ((((d1.below 10:Nat):Int):Int)=4))
 (lt (d11.after ([s_,zU]:List ByteArray).length) (fun d32=>
 lt (d11.pick ([s_,zU]:List ByteArray)) (fun y34=>
 some ((aI.mk y34 ([f9]:List ByteArray) ([(aJ.mk bH x6)]:List aJ) ([(aR.mk eI x6)]:List aR) x8 (aG.mk 5 bH eN 0 (aA.mk 0 s_ []) ([x10]:List aG) [])),d32))))
 (some ((aI.mk y3 ([f9]:List ByteArray) ([(aJ.mk bH x6)]:List aJ) ([(aR.mk eI x6)]:List aR) x8 (aG.mk 5 bH eN 0 (aA.mk 0 s_ []) ([x10]:List aG) [])),d11))))))))))))
theorem adO(fu:Nat):afF (ON fu):=by
 intro pc r H
 have H:=fI H
 refine qI Tryz.func170 (fun C hC=>?_)
 refine qS (qR (q1 (iV AN) (qN (qS (qR (q1 aF (q1 (rW ([s_f,s_g]:List ByteArray) b3 lA) (g0 H fun d1 h2 H=>(g0 H fun y3 h4 H=>(q1 (f7 [0] [] Tryz.func86 (LC h2 h4 (gI pc ([s_f,s_g]:List ByteArray) (by decide)))) (q1 (rW ([f9]:List ByteArray) b3 lA) (bO H fun x6 z5 H=>(q1 (bI Tryz.func118 (jI fu f9 _ z5)) ?_)))))))))))))
 refine q1 (f6 PI ae8) (q1 (aV.buildSliceB (cs:= [pS bH,pI x6.gKind,pS x6.gName,a4 x6.gArgs]) rfl rfl BB PI rfl rfl rfl (by decide) rfl (by decide)) (q1 (bI Tryz.func118 (jI fu f9 _ z5)) (q1 (f6 RP ae7) (q1 (rW ([(aR.mk eI x6)]:List aR) BA RP) (bO H fun x8 z7 H=>(q1 (bI Tryz.func147 (sZ fu _ z7)) (bO H fun x10 z9 H=>(q1 (bI Tryz.func157 (vW fu eI _ z9)) (q1 (rW ([x10]:List aG) nK kG) (q1 (f6 kG vS) (q1 (f6 AN VV) (q1 (iV AN) (q1 (bU yZ) ?_)))))))))))))
 refine qN ?_
 iterate 2 refine qS ?_
 refine qR (q1 aF (g0 H fun d11 h12 H=>(q1 (f7 [0] [] Tryz.func103 (AO h12 (fG d1 10))) (qN (aP.block (qS (qR (q1 eM (q1 aF (qN ?_))))))))))
 refine bA H (fun h13 H=>?_) (fun h13 H=>?_)
 ·refine qR (q1 aF (fK H fun x15 x16 z14 H=>(q1 (f7 [0] [] Tryz.func87 (vZ fu d11 2 _ z14)) (q1 (a5 SC) (q1 (bU hQ) (qN (qS (qR ?_))))))))
  refine AL.weak (Wk.freezeE (k:=2) (sz:=4) (es:= [aJ.cs (aJ.mk bH x6)]) (es':=aJ.trs (([(aJ.mk bH x6)]:List aJ))) (s':=⟨[(0,.ptr 0 0),(2,.ptr 1 0),(3,.ptr 3 0),(20,pN (d1.below 10))],⟨[some ⟨151,dC x16⟩,some ⟨148,[pS s_,.nil,.nil,.nil,pI 0,pS s_,.nil,pI 0,pS s_,pS s_,pI 0,pI 0,pS s_,.nil,.nil,.nil]⟩,none,some ⟨148,[pS y3,.lit 1 (aW (([f9]:List ByteArray))),fO ([(aJ.mk bH x6)]:List aJ),.lit 4 (aR.trs (([(aR.mk eI x6)]:List aR))),pI x15.gKind,pS x15.gName,a4 x15.gArgs,pI 5,pS bH,pS eN,pI 0,pI 0,pS s_,.nil,.lit 9 (aG.trs (([x10]:List aG))),.nil]⟩],[]⟩⟩) (by simp [aJ.trs_map,aJ.tr_cs]) rfl lH (by simp [aJ.cs]) (Nat.le_of_ble_eq_true rfl) ⟨⟨rfl,dQ,rfl⟩,⟨⟨rfl,dQ,rfl⟩,⟨⟨rfl,dQ,rfl⟩,trivial⟩⟩⟩ rfl rfl (eH hC (jS rfl) (Nat.le_of_ble_eq_true rfl)) (by repeat' first|exact trivial|refine⟨⟨_,rfl,dQ,rfl⟩,?_⟩)) ?_;refine q1 (cV [pS y3,.lit 1 (aW (([f9]:List ByteArray))),fO ([(aJ.mk bH x6)]:List aJ),.lit 4 (aR.trs (([(aR.mk eI x6)]:List aR))),pI x15.gKind,pS x15.gName,a4 x15.gArgs,pI 5,pS bH,pS eN,pI 0,pI 0,pS s_,.nil,.lit 9 (aG.trs (([x10]:List aG))),.nil] pJ) (q1 (bU yZ) (qN (aP.ret ?_)))
  obtain rfl:_=r:=(aY H:)
  exact bM (hr:=⟨⟨_,_,_,rfl,rfl,pJ,rfl,rfl⟩,trivial⟩)
 refine qS (qR (q1 eM (q1 aF (qN ?_))))
 refine bA H (fun h17 H=>?_) (fun h17 H=>?_)
 ·refine g0 H fun d18 h19 H=>(g0 H fun y20 h21 H=>(dF H fun z22 H=>(dW (dI [3] (a5 s5) (dB [28] 0 1 (vC KT) (dI [0] aF (dI [] (rW ([eI,oT]:List ByteArray) b3 lA) (dE [30,31] (f7 [0] [] Tryz.func86 (LC h19 h21 (gI d11 ([eI,oT]:List ByteArray) (by decide)))) (dI [] (bI Tryz.func147 (sZ fu _ z7)) (dI [32,33] (f6 RP ae7) (dI [34] (rW ([(aR.mk y20 x8)]:List aR) BA RP) ?_)))))))))))
  refine dI [29,35] (aV.appendLit (es1:=aR.trs (([(aR.mk eI x6)]:List aR))) (es2:=aR.trs (([(aR.mk y20 x8)]:List aR))) (es3:=aR.trs (([(aR.mk eI x6)]:List aR)++([(aR.mk y20 x8)]:List aR))) rfl rfl rfl rfl rfl (fun e he=>by rw [aR.trs_map] at he;obtain⟨x,_,rfl⟩:=List.mem_map.1 he;rw [aR.tr_cs];rfl) (fun e he=>by rw [aR.trs_map] at he;obtain⟨x,_,rfl⟩:=List.mem_map.1 he;rw [aR.tr_cs];rfl) (by rw [aR.trs_map];exact List.cons_ne_nil _ _) (by decide) BA ahT (by decide) (by rw [aR.trs_len,aR.trs_len];exact wN z22 (by decide)) (by rw [aR.trs_map,aR.trs_map,aR.trs_map,List.map_append])) ?_;refine dI [3] (a5 s5) (nI [37,36] (bU ahM) (dN (qS (qR ?_))))
  refine AL.weak (Wk.freezeE (k:=2) (sz:=4) (es:= [aJ.cs (aJ.mk bH x6)]) (es':=aJ.trs (([(aJ.mk bH x6)]:List aJ))) (s':=⟨[(0,.ptr 0 0),(2,.ptr 1 0),(3,.ptr 3 0),(20,pN (d1.below 10))],⟨[some ⟨151,dC d18⟩,some ⟨148,[pS s_,.nil,.nil,.nil,pI 0,pS s_,.nil,pI 0,pS s_,pS s_,pI 0,pI 0,pS s_,.nil,.nil,.nil]⟩,none,some ⟨148,[pS y3,.lit 1 (aW (([f9]:List ByteArray))),fO ([(aJ.mk bH x6)]:List aJ),NT (([(aR.mk eI x6)]:List aR)++([(aR.mk y20 x8)]:List aR)),pI x8.gKind,pS x8.gName,a4 x8.gArgs,pI 5,pS bH,pS eN,pI 0,pI 0,pS s_,.nil,.lit 9 (aG.trs (([x10]:List aG))),.nil]⟩],[]⟩⟩) (by simp [aJ.trs_map,aJ.tr_cs]) rfl lH (by simp [aJ.cs]) (Nat.le_of_ble_eq_true rfl) ⟨⟨rfl,dQ,rfl⟩,⟨⟨rfl,dQ,rfl⟩,⟨⟨rfl,dQ,rfl⟩,trivial⟩⟩⟩ rfl rfl (eH hC (jS rfl) (Nat.le_of_ble_eq_true rfl)) (by repeat' first|exact trivial|refine⟨⟨_,rfl,dQ,rfl⟩,?_⟩)) ?_;refine q1 (cV [pS y3,.lit 1 (aW (([f9]:List ByteArray))),fO ([(aJ.mk bH x6)]:List aJ),NT (([(aR.mk eI x6)]:List aR)++([(aR.mk y20 x8)]:List aR)),pI x8.gKind,pS x8.gName,a4 x8.gArgs,pI 5,pS bH,pS eN,pI 0,pI 0,pS s_,.nil,.lit 9 (aG.trs (([x10]:List aG))),.nil] pJ) (q1 (bU yZ) (qN (aP.ret ?_)))
  obtain rfl:_=r:=(aY H:)
  exact bM (hr:=⟨⟨_,_,_,rfl,rfl,pJ,rfl,rfl⟩,trivial⟩)
 refine qS (qR (q1 eM (q1 aF (qN ?_))))
 refine bA H (fun h23 H=>?_) (fun h23 H=>?_)
 ·refine qR (q1 aF (q1 (rW ([eI,oT]:List ByteArray) b3 lA) (fK H fun x25 x26 z24 H=>(q1 (f7 [0] [] Tryz.func111 (KU fu d11 ([eI,oT]:List ByteArray) 3 _ z24)) (q1 (a5 SD) (q1 (bU pC) (qN (qS (qR ?_)))))))))
  refine AL.weak (Wk.freezeE (k:=2) (sz:=4) (es:= [aJ.cs (aJ.mk bH x6)]) (es':=aJ.trs (([(aJ.mk bH x6)]:List aJ))) (s':=⟨[(0,.ptr 0 0),(2,.ptr 1 0),(3,.ptr 3 0),(20,pN (d1.below 10))],⟨[some ⟨151,dC x26⟩,some ⟨148,[pS s_,.nil,.nil,.nil,pI 0,pS s_,.nil,pI 0,pS s_,pS s_,pI 0,pI 0,pS s_,.nil,.nil,.nil]⟩,none,some ⟨148,[pS y3,.lit 1 (aW (([f9]:List ByteArray))),fO ([(aJ.mk bH x6)]:List aJ),.lit 4 (aR.trs (([(aR.mk eI x6)]:List aR))),pI x8.gKind,pS x8.gName,a4 x8.gArgs,pI x25.gKind,pS x25.gTrait,pS x25.gName,pI x25.gN,pI x25.gType.gKind,pS x25.gType.gName,a4 x25.gType.gArgs,gQ x25.gArgs,oM x25.gArms]⟩],[]⟩⟩) (by simp [aJ.trs_map,aJ.tr_cs]) rfl lH (by simp [aJ.cs]) (Nat.le_of_ble_eq_true rfl) ⟨⟨rfl,dQ,rfl⟩,⟨⟨rfl,dQ,rfl⟩,⟨⟨rfl,dQ,rfl⟩,trivial⟩⟩⟩ rfl rfl (eH hC (jS rfl) (Nat.le_of_ble_eq_true rfl)) (by repeat' first|exact trivial|refine⟨⟨_,rfl,dQ,rfl⟩,?_⟩)) ?_;refine q1 (cV [pS y3,.lit 1 (aW (([f9]:List ByteArray))),fO ([(aJ.mk bH x6)]:List aJ),.lit 4 (aR.trs (([(aR.mk eI x6)]:List aR))),pI x8.gKind,pS x8.gName,a4 x8.gArgs,pI x25.gKind,pS x25.gTrait,pS x25.gName,pI x25.gN,pI x25.gType.gKind,pS x25.gType.gName,a4 x25.gType.gArgs,gQ x25.gArgs,oM x25.gArms] pJ) (q1 (bU yZ) (qN (aP.ret ?_)))
  obtain rfl:_=r:=(aY H:)
  exact bM (hr:=⟨⟨_,_,_,rfl,rfl,pJ,rfl,rfl⟩,trivial⟩)
 refine qS (qR (q1 eM (q1 aF (qN ?_))))
 refine bA H (fun h27 H=>?_) (fun h27 H=>?_)
 ·refine fK H fun x29 x30 z28 H=>(dW (dI [3] (a5 SB) (dB [46] 0 1 (vC adF) (dI [0] aF (dE [48] (f7 [0] [] Tryz.func87 (vZ fu d11 1 _ z28)) (dI [47] (aV.indexB (sz:=4) (k:=2) (N:=1) (i:=0) rfl rfl rfl rfl (by decide) BB) (dI [50] (a5 M9) (nI [51,49] (bU hQ) (dN (qS (qR ?_)))))))))))
  refine AL.weak (Wk.freezeE (k:=2) (sz:=4) (es:= [aJ.cs (aJ.mk bH x29)]) (es':=aJ.trs (([(aJ.mk bH x29)]:List aJ))) (s':=⟨[(0,.ptr 0 0),(2,.ptr 1 0),(3,.ptr 3 0),(20,pN (d1.below 10))],⟨[some ⟨151,dC x30⟩,some ⟨148,[pS s_,.nil,.nil,.nil,pI 0,pS s_,.nil,pI 0,pS s_,pS s_,pI 0,pI 0,pS s_,.nil,.nil,.nil]⟩,none,some ⟨148,[pS y3,.lit 1 (aW (([f9]:List ByteArray))),fO ([(aJ.mk bH x29)]:List aJ),.lit 4 (aR.trs (([(aR.mk eI x6)]:List aR))),pI x8.gKind,pS x8.gName,a4 x8.gArgs,pI 5,pS bH,pS eN,pI 0,pI 0,pS s_,.nil,.lit 9 (aG.trs (([x10]:List aG))),.nil]⟩],[]⟩⟩) (by simp [aJ.trs_map,aJ.tr_cs]) rfl lH (by simp [aJ.cs]) (Nat.le_of_ble_eq_true rfl) ⟨⟨rfl,dQ,rfl⟩,⟨⟨rfl,dQ,rfl⟩,⟨⟨rfl,dQ,rfl⟩,trivial⟩⟩⟩ rfl rfl (eH hC (jS rfl) (Nat.le_of_ble_eq_true rfl)) (by repeat' first|exact trivial|refine⟨⟨_,rfl,dQ,rfl⟩,?_⟩)) ?_;refine q1 (cV [pS y3,.lit 1 (aW (([f9]:List ByteArray))),fO ([(aJ.mk bH x29)]:List aJ),.lit 4 (aR.trs (([(aR.mk eI x6)]:List aR))),pI x8.gKind,pS x8.gName,a4 x8.gArgs,pI 5,pS bH,pS eN,pI 0,pI 0,pS s_,.nil,.lit 9 (aG.trs (([x10]:List aG))),.nil] pJ) (q1 (bU yZ) (qN (aP.ret ?_)))
  obtain rfl:_=r:=(aY H:)
  exact bM (hr:=⟨⟨_,_,_,rfl,rfl,pJ,rfl,rfl⟩,trivial⟩)
 refine qS (qR (q1 eM (q1 aF (qN ?_))))
 refine bA H (fun h31 H=>?_) (fun h31 H=>?_)
 ·refine qR (q1 aF (q1 (rW ([s_,zU]:List ByteArray) b3 lA) (g0 H fun d32 h33 H=>(g0 H fun y34 h35 H=>(q1 (f7 [0] [] Tryz.func86 (LC h33 h35 (gI d11 ([s_,zU]:List ByteArray) (by decide)))) (q1 (a5 MA) (q1 (bU sz9) (qN (qS (qR ?_))))))))))
  refine AL.weak (Wk.freezeE (k:=2) (sz:=4) (es:= [aJ.cs (aJ.mk bH x6)]) (es':=aJ.trs (([(aJ.mk bH x6)]:List aJ))) (s':=⟨[(0,.ptr 0 0),(2,.ptr 1 0),(3,.ptr 3 0),(20,pN (d1.below 10))],⟨[some ⟨151,dC d32⟩,some ⟨148,[pS s_,.nil,.nil,.nil,pI 0,pS s_,.nil,pI 0,pS s_,pS s_,pI 0,pI 0,pS s_,.nil,.nil,.nil]⟩,none,some ⟨148,[pS y34,.lit 1 (aW (([f9]:List ByteArray))),fO ([(aJ.mk bH x6)]:List aJ),.lit 4 (aR.trs (([(aR.mk eI x6)]:List aR))),pI x8.gKind,pS x8.gName,a4 x8.gArgs,pI 5,pS bH,pS eN,pI 0,pI 0,pS s_,.nil,.lit 9 (aG.trs (([x10]:List aG))),.nil]⟩],[]⟩⟩) (by simp [aJ.trs_map,aJ.tr_cs]) rfl lH (by simp [aJ.cs]) (Nat.le_of_ble_eq_true rfl) ⟨⟨rfl,dQ,rfl⟩,⟨⟨rfl,dQ,rfl⟩,⟨⟨rfl,dQ,rfl⟩,trivial⟩⟩⟩ rfl rfl (eH hC (jS rfl) (Nat.le_of_ble_eq_true rfl)) (by repeat' first|exact trivial|refine⟨⟨_,rfl,dQ,rfl⟩,?_⟩)) ?_;refine q1 (cV [pS y34,.lit 1 (aW (([f9]:List ByteArray))),fO ([(aJ.mk bH x6)]:List aJ),.lit 4 (aR.trs (([(aR.mk eI x6)]:List aR))),pI x8.gKind,pS x8.gName,a4 x8.gArgs,pI 5,pS bH,pS eN,pI 0,pI 0,pS s_,.nil,.lit 9 (aG.trs (([x10]:List aG))),.nil] pJ) (q1 (bU yZ) (qN (aP.ret ?_)))
  obtain rfl:_=r:=(aY H:)
  exact bM (hr:=⟨⟨_,_,_,rfl,rfl,pJ,rfl,rfl⟩,trivial⟩)
 refine aP.skip (qS (qR ?_))
 refine AL.weak (Wk.freezeE (k:=2) (sz:=4) (es:= [aJ.cs (aJ.mk bH x6)]) (es':=aJ.trs (([(aJ.mk bH x6)]:List aJ))) (s':=⟨[(0,.ptr 0 0),(2,.ptr 1 0),(3,.ptr 3 0),(20,pN (d1.below 10))],⟨[some ⟨151,dC d11⟩,some ⟨148,[pS s_,.nil,.nil,.nil,pI 0,pS s_,.nil,pI 0,pS s_,pS s_,pI 0,pI 0,pS s_,.nil,.nil,.nil]⟩,none,some ⟨148,[pS y3,.lit 1 (aW (([f9]:List ByteArray))),fO ([(aJ.mk bH x6)]:List aJ),.lit 4 (aR.trs (([(aR.mk eI x6)]:List aR))),pI x8.gKind,pS x8.gName,a4 x8.gArgs,pI 5,pS bH,pS eN,pI 0,pI 0,pS s_,.nil,.lit 9 (aG.trs (([x10]:List aG))),.nil]⟩],[]⟩⟩) (by simp [aJ.trs_map,aJ.tr_cs]) rfl lH (by simp [aJ.cs]) (Nat.le_of_ble_eq_true rfl) ⟨⟨rfl,dQ,rfl⟩,⟨⟨rfl,dQ,rfl⟩,⟨⟨rfl,dQ,rfl⟩,trivial⟩⟩⟩ rfl rfl (eH hC (jS rfl) (Nat.le_of_ble_eq_true rfl)) (by repeat' first|exact trivial|refine⟨⟨_,rfl,dQ,rfl⟩,?_⟩)) ?_;refine q1 (cV [pS y3,.lit 1 (aW (([f9]:List ByteArray))),fO ([(aJ.mk bH x6)]:List aJ),.lit 4 (aR.trs (([(aR.mk eI x6)]:List aR))),pI x8.gKind,pS x8.gName,a4 x8.gArgs,pI 5,pS bH,pS eN,pI 0,pI 0,pS s_,.nil,.lit 9 (aG.trs (([x10]:List aG))),.nil] pJ) (q1 (bU yZ) (qN (aP.ret ?_)))
 obtain rfl:_=r:=(aY H:)
 exact bM (hr:=⟨⟨_,_,_,rfl,rfl,pJ,rfl,rfl⟩,trivial⟩)
end
end Go.Proofs.YtpioomclpaiomaaGreat.W

namespace Go.Proofs.YtpioomclpaiomaaGreat.W
set_option maxRecDepth 100000
set_option maxHeartbeats 40000000
noncomputable section
open Go.RowKit Go.Proofs
set_option linter.unusedSimpArgs false
set_option linter.unusedVariables false
attribute [local irreducible] lt
def XE(m:DS→Option (aT×DS)):Prop:= ∀(pq0:DS) (r:aT×DS),m pq0=some r→cY Tryz.prog 167 [.ptr 0 0] ⟨[some ⟨151,dC pq0⟩],[]⟩ (fun q t=>q=((aT.pv r.1):PV)∧t=⟨[some ⟨151,dC r.2⟩],[]⟩)
def TA(fu:Nat)(pq0:DS)(x2:aA)(d3:DS)(y5:ByteArray)(d7:DS)(x10:aA)(d13:DS)(x17 x19 x21:aG):Option ((aT×DS)⊕((List ByteArray))):=
 lt (d13.after 3) (fun d24=>
 sw (decide (d13.below 3=0))
 (some (.inr ([kD]:List ByteArray)))
 (some (.inr ([]))))
def TB(fu:Nat)(pq0:DS)(x2:aA)(d3:DS)(y5:ByteArray)(d7:DS)(x10:aA)(d37:DS):Option ((aT×DS)⊕((List ByteArray))):=
 lt (d37.after 3) (fun d41=>
 sw (decide (d37.below 3=0))
 (some (.inr ([kD]:List ByteArray)))
 (some (.inr ([]))))
def TD(fu:Nat)(pq0:DS)(x2:aA)(d3:DS)(y5:ByteArray)(d7:DS)(x10:aA):Option ((aT×DS)⊕((List aE))):=
 lt (d7.after 2) (fun d56=>
 sw (decide (d7.below 2=0))
 (bd (sS fu eI) (fun x61=>
 bd (qU fu 1) (fun x63=>
 bd (rO fu 10 wG ([(aG.mk 5 y5 eN 0 (aA.mk 0 s_ []) ([x61]:List aG) []),x63]:List aG)) (fun x65=>
 gd ((([(aE.mk eN [] x10 false [] (aG.mk 0 s_ s_ 0 (aA.mk 0 s_ []) [] []))]:List aE)).length+(([(aE.mk e8 ([x2]:List aA) x10 true ([eI,oT]:List ByteArray) x65)]:List aE)).length≤68719476736)
 (some (.inr (([(aE.mk eN [] x10 false [] (aG.mk 0 s_ s_ 0 (aA.mk 0 s_ []) [] []))]:List aE)++([(aE.mk e8 ([x2]:List aA) x10 true ([eI,oT]:List ByteArray) x65)]:List aE))))))))
 (some (.inr ([(aE.mk eN [] x10 false [] (aG.mk 0 s_ s_ 0 (aA.mk 0 s_ []) [] []))]:List aE))))
def TE(fu:Nat)(pq0:DS)(x2:aA)(d3:DS)(y5:ByteArray)(d7:DS)(x10:aA)(v55:List aE):Option ((aT×DS)⊕((List ByteArray))):=
 lt ((d7.after 2).after 3) (fun d68=>
 sw (decide ((d7.after 2).below 3=0))
 (some (.inr ([kD]:List ByteArray)))
 (some (.inr ([]))))
def B6(fu:Nat)(pq0:DS):Option (aT×DS):=
 bd (l9 fu iJ) (fun x2=>
 lt (pq0.after ([bH,tM,jP]:List ByteArray).length) (fun d3=>
 lt (pq0.pick ([bH,tM,jP]:List ByteArray)) (fun y5=>
 lt (d3.after 3) (fun d7=>
 bd (yX fu) (fun x10=>
 sw (decide ((((((d7.after 2).after 3).below 12:Nat):Int):Int)=2)||decide ((((((d7.after 2).after 3).below 12:Nat):Int):Int)=3))
 (sw (decide (d7.below 2=0))
 (lt (d7.after 2) (fun d13=>
 bd (sS fu eI) (fun x17=>
 bd (qU fu 1) (fun x19=>
 bd (rO fu 10 wG ([(aG.mk 5 y5 eN 0 (aA.mk 0 s_ []) ([x17]:List aG) []),x19]:List aG)) (fun x21=>
 gd ((([(aE.mk eN [] x10 false [] (aG.mk 0 s_ s_ 0 (aA.mk 0 s_ []) [] []))]:List aE)).length+(([(aE.mk e8 ([x2]:List aA) x10 true ([eI,oT]:List ByteArray) x21)]:List aE)).length≤68719476736)
 (so (TA fu pq0 x2 d3 y5 d7 x10 d13 x17 x19 x21) (fun v23=>
 lt ((d13.after 3).after 12) (fun d28=>
 sw (decide (((((d13.after 3).below 12:Nat):Int):Int)=2))
 (lt (d28.after ([iJ,A0]:List ByteArray).length) (fun d31=>
 lt (d28.pick ([iJ,A0]:List ByteArray)) (fun y33=>
 bd (l9 fu y33) (fun x36=>
 some ((aT.mk y5 v23 false (decide (d3.below 3=0)) ([(aE.mk eN ([]) x36 false ([]) (aG.mk 0 s_ s_ 0 (aA.mk 0 s_ ([])) ([]) ([]))),(aE.mk e8 ([x2]:List aA) x10 true ([eI,oT]:List ByteArray) x21)]:List aE)),d31)))))
 (some ((aT.mk y5 v23 false (decide (d3.below 3=0)) ([(aE.mk eN ([]) x10 true ([]) (aG.mk 0 s_ s_ 0 (aA.mk 0 s_ ([])) ([]) ([]))),(aE.mk e8 ([x2]:List aA) x10 true ([eI,oT]:List ByteArray) x21)]:List aE)),d28))))))))))
 (lt (d7.after 2) (fun d37=>
 so (TB fu pq0 x2 d3 y5 d7 x10 d37) (fun v40=>
 lt ((d37.after 3).after 12) (fun d45=>
 sw (decide (((((d37.after 3).below 12:Nat):Int):Int)=2))
 (lt (d45.after ([iJ,A0]:List ByteArray).length) (fun d48=>
 lt (d45.pick ([iJ,A0]:List ByteArray)) (fun y50=>
 bd (l9 fu y50) (fun x53=>
 some ((aT.mk y5 v40 false (decide (d3.below 3=0)) ([(aE.mk eN [] x53 false [] (aG.mk 0 s_ s_ 0 (aA.mk 0 s_ []) [] []))]:List aE)),d48)))))
 (some ((aT.mk y5 v40 false (decide (d3.below 3=0)) ([(aE.mk eN [] x10 true [] (aG.mk 0 s_ s_ 0 (aA.mk 0 s_ []) [] []))]:List aE)),d45)))))))
 (so (TD fu pq0 x2 d3 y5 d7 x10) (fun v55=>
 so (TE fu pq0 x2 d3 y5 d7 x10 v55) (fun v67=>
 lt (((d7.after 2).after 3).after 12) (fun d72=>
 sw (decide ((((((d7.after 2).after 3).below 12:Nat):Int):Int)=0))
 (some ((aT.mk y5 v67 true (decide (d3.below 3=0)) v55),d72))
 (sw (decide ((((((d7.after 2).after 3).below 12:Nat):Int):Int)=1))
 (lt (d72.after ([s_,fU,s_A]:List ByteArray).length) (fun d76=>
 lt (d72.pick ([s_,fU,s_A]:List ByteArray)) (fun y78=>
 some ((aT.mk y78 v67 false (decide (d3.below 3=0)) v55),d76))))
 (sw (decide ((((((d7.after 2).after 3).below 12:Nat):Int):Int)=4))
 (gd ((v67).length+(([kD]:List ByteArray)).length≤68719476736)
 (some ((aT.mk y5 (v67++([kD]:List ByteArray)) false (decide (d3.below 3=0)) v55),d72)))
 (sw (decide ((((((d7.after 2).after 3).below 12:Nat):Int):Int)=5))
 (gd (0<(v55).length)
 (lt (a3 v55 0) (fun y84=>
 gd ((v55).length+(([y84]:List aE)).length≤68719476736)
 (some ((aT.mk y5 v67 false (decide (d3.below 3=0)) (v55++([y84]:List aE))),d72)))))
 (some ((aT.mk y5 v67 false (decide (d3.below 3=0)) v55),d72))))))))))))))
theorem TF(fu:Nat):XE (B6 fu):=by
 intro pq0 r H
 have H:=fI H
 refine qI Tryz.func167 (fun C hC=>?_)
 refine qS (qR (q1 (iV EI) (qN (qS (qR (bO H fun x2 z1 H=>(q1 (bI Tryz.func118 (jI fu iJ _ z1)) (q1 (iV gV) (q1 (bU hQ) (qN (qS (qR (q1 aF ?_)))))))))))))
 refine q1 (rW ([bH,tM,jP]:List ByteArray) b3 lA) (g0 H fun d3 h4 H=>(g0 H fun y5 h6 H=>(q1 (f7 [0] [] Tryz.func86 (LC h4 h6 (gI pq0 ([bH,tM,jP]:List ByteArray) (by decide)))) (q1 aF (g0 H fun d7 h8 H=>(q1 (f7 [0] [] Tryz.func112 (AO h8 (mI d3 3))) (bO H fun x10 z9 H=>(q1 (bI Tryz.func147 (sZ fu _ z9)) (q1 (f6 w6 ab3) ?_)))))))))
 rcases kM (decide ((((((d7.after 2).after 3).below 12:Nat):Int):Int)=2)||decide ((((((d7.after 2).after 3).below 12:Nat):Int):Int)=3)) with g11|g11
 ·have H:=nR H g11
  rcases kM (decide (d7.below 2=0)) with g12|g12
  ·have H:=nR H g12
   refine q1 (aV.buildSliceB (cs:= [pS eN,.nil,pI x10.gKind,pS x10.gName,a4 x10.gArgs,pB false,.nil,pI 0,pS s_,pS s_,pI 0,pI 0,pS s_,.nil,.nil,.nil]) rfl rfl uO w6 rfl rfl rfl (by decide) rfl (by decide)) (q1 (f6 EI ZB) (q1 (iV EI) (q1 (bU AX) (qN ?_))))
   iterate 2 refine qS ?_
   refine qR (q1 aF (g0 H fun d13 h14 H=>?_))
   have g15:=g11
   rw [← h14] at g15
   refine q1 (f7 [0] [] Tryz.func112 (AO h14 (mI d7 2))) (qN (dV g12 (bO H fun x17 z16 H=>(bO H fun x19 z18 H=>(bO H fun x21 z20 H=>?_)))))
   refine aP.wk (Wk.freezeE (k:=3) (sz:=16) (es:= [aE.cs (aE.mk eN [] x10 false [] (aG.mk 0 s_ s_ 0 (aA.mk 0 s_ []) [] []))]) (es':=aE.trs (([(aE.mk eN [] x10 false [] (aG.mk 0 s_ s_ 0 (aA.mk 0 s_ []) [] []))]:List aE))) (s':=⟨[(0,.ptr 0 0),(2,.ptr 1 0),(3,.ptr 2 0),(4,.ptr 4 0),(5,(aA.pv x2)),(6,.ptr 0 0),(7,.lit 1 (aW (([bH,tM,jP]:List ByteArray)))),(8,pS y5),(9,.ptr 0 0),(10,pB (decide (d3.below 3=0))),(11,(aA.pv x10)),(12,.agg [pS eN,.nil,pI x10.gKind,pS x10.gName,a4 x10.gArgs,pB false,.nil,pI 0,pS s_,pS s_,pI 0,pI 0,pS s_,.nil,.nil,.nil]),(13,.lit 16 (aE.trs (([(aE.mk eN [] x10 false [] (aG.mk 0 s_ s_ 0 (aA.mk 0 s_ []) [] []))]:List aE)))),(14,.agg [pS y5,.nil,pB false,pB (decide (d3.below 3=0)),.lit 16 (aE.trs (([(aE.mk eN [] x10 false [] (aG.mk 0 s_ s_ 0 (aA.mk 0 s_ []) [] []))]:List aE)))]),(15,.ptr 0 0),(16,pB (decide (d7.below 2=0)))],⟨[some ⟨151,dC d13⟩,some ⟨60,[pS s_,.nil,pB false,pB false,.nil]⟩,some ⟨35,dJ x2⟩,none,some ⟨60,[pS y5,.nil,pB false,pB (decide (d3.below 3=0)),.lit 16 (aE.trs (([(aE.mk eN [] x10 false [] (aG.mk 0 s_ s_ 0 (aA.mk 0 s_ []) [] []))]:List aE)))]⟩],[]⟩⟩) (by simp [aE.trs_map,aE.tr_cs]) rfl lH (by simp [aE.cs]) (Nat.le_of_ble_eq_true rfl) ⟨⟨rfl,dQ,rfl⟩,⟨⟨rfl,dQ,rfl⟩,⟨⟨rfl,dQ,rfl⟩,⟨⟨rfl,dQ,rfl⟩,trivial⟩⟩⟩⟩ rfl rfl (eH hC (jS rfl) (Nat.le_of_ble_eq_true rfl)) (by repeat' first|exact trivial|refine⟨⟨_,rfl,dQ,rfl⟩,?_⟩)) ?_;refine dF H fun z22 H=>(dW (dI [4] (a5 lE) (dD [17] (bG EG) (dD [3] (cV [pI x2.gKind,pS x2.gName,a4 x2.gArgs] cH) (dI [19] (rW ([x2]:List aA) dX gV) (dI [] (bI Tryz.func147 (sZ fu _ z9)) (dI [] (rW ([eI,oT]:List ByteArray) b3 lA) (dI [4] (a5 FH) (dD [23] (bG fB) (dI [] (bI Tryz.func157 (vW fu eI _ z16)) (dI [25] (rW ([x17]:List aG) nK kG) (dI [24,26] (f6 kG vS) (dI [] (bI Tryz.func159 (sQ fu 1 _ z18)) ?_)))))))))))))
   refine dI [27,28] (rW ([(aG.mk 5 y5 eN 0 (aA.mk 0 s_ []) ([x17]:List aG) []),x19]:List aG) nK kG) (dI [29] (bI Tryz.func158 (sR fu 10 wG ([(aG.mk 5 y5 eN 0 (aA.mk 0 s_ []) ([x17]:List aG) []),x19]:List aG) _ z20)) (dI [20,21,22,30] (f6 w6 ab3) (dI [31] (rW ([(aE.mk e8 ([x2]:List aA) x10 true ([eI,oT]:List ByteArray) x21)]:List aE) uO w6) ?_)))
   refine dE [18,32] (aV.appendLitBE (es1:=aE.trs (([(aE.mk eN [] x10 false [] (aG.mk 0 s_ s_ 0 (aA.mk 0 s_ []) [] []))]:List aE))) (es2:=aE.trs (([(aE.mk e8 ([x2]:List aA) x10 true ([eI,oT]:List ByteArray) x21)]:List aE))) (es3:= [aE.cs (aE.mk eN [] x10 false [] (aG.mk 0 s_ s_ 0 (aA.mk 0 s_ []) [] [])),aE.cs (aE.mk e8 ([x2]:List aA) x10 true ([eI,oT]:List ByteArray) x21)]) (cs:= [pS eN,a4 [],pI x10.gKind,pS x10.gName,a4 x10.gArgs,pB false,rS [],pI 0,pS s_,pS s_,pI 0,pI 0,pS s_,a4 [],gQ [],oM [],pS e8,a4 ([x2]:List aA),pI x10.gKind,pS x10.gName,a4 x10.gArgs,pB true,rS ([eI,oT]:List ByteArray),pI x21.gKind,pS x21.gTrait,pS x21.gName,pI x21.gN,pI x21.gType.gKind,pS x21.gType.gName,a4 x21.gType.gArgs,gQ x21.gArgs,oM x21.gArms]) rfl rfl rfl rfl rfl (fun e he=>by rw [aE.trs_map] at he;obtain⟨x,_,rfl⟩:=List.mem_map.1 he;rw [aE.tr_cs];rfl) (fun e he=>by rw [aE.trs_map] at he;obtain⟨x,_,rfl⟩:=List.mem_map.1 he;rw [aE.tr_cs];rfl) (by rw [aE.trs_map];exact List.cons_ne_nil _ _) (by decide) uO af6 (by decide) (by rw [aE.trs_len,aE.trs_len];exact wN z22 (by decide)) (by simp [aE.trs_map,aE.tr_cs]) rfl rfl) ?_;refine dI [4] (a5 lE) (nI [34,33] (bU af0) (dN (qS ?_)))
   refine o7 (σ:=(List ByteArray)) (fun v23=>⟨[(0,.ptr 0 0),(2,.ptr 1 0),(4,.ptr 4 0)],⟨[some ⟨151,dC (d13.after 3)⟩,some ⟨60,[pS s_,.nil,pB false,pB false,.nil]⟩,some ⟨35,dJ x2⟩,none,some ⟨60,[pS y5,.lit 1 (aW (v23)),pB false,pB (decide (d3.below 3=0)),.gsl 5 2]⟩,some ⟨164,[pS eN,a4 [],pI x10.gKind,pS x10.gName,a4 x10.gArgs,pB false,rS [],pI 0,pS s_,pS s_,pI 0,pI 0,pS s_,a4 [],gQ [],oM [],pS e8,a4 ([x2]:List aA),pI x10.gKind,pS x10.gName,a4 x10.gArgs,pB true,rS ([eI,oT]:List ByteArray),pI x21.gKind,pS x21.gTrait,pS x21.gName,pI x21.gN,pI x21.gType.gKind,pS x21.gType.gName,a4 x21.gType.gArgs,gQ x21.gArgs,oM x21.gArms]⟩],[]⟩⟩) (gU H) (fun H=>?_) ?_
   ·refine qS (qR (q1 aF (g0 H fun d24 h25 H=>?_)))
    have g26:=g15
    rw [← h25] at g26
    refine q1 (f7 [0] [] Tryz.func112 (AO h25 (mI d13 3))) (qN ?_)
    refine bA H (fun h27 H=>?_) (fun h27 H=>?_)
    ·refine qR (q1 (rW ([kD]:List ByteArray) b3 lA) (q1 (a5 zG) (q1 (bU L4) (qN ?_))))
     subst h25
     exact dP ⟨_,(aY H:),b0⟩
    refine aP.skip ?_
    subst h25
    exact dP ⟨_,(aY H:),b0⟩
   rintro v23 H
   iterate 2 refine qS ?_
   refine qR (q1 aF (g0 H fun d28 h29 H=>(q1 (f7 [0] [] Tryz.func103 (AO h29 (fG (d13.after 3) 12))) (qN (aP.block (qS (qR (q1 eM (q1 aF (qN (iX (abQ (b:=0) g15 (by decide) (by decide)) (qS (qR ?_)))))))))))))
   refine q1 eM (q1 aF (qN (iX (abQ (b:=1) g15 (by decide) (by decide)) (qS (qR (q1 eM (q1 aF (qN ?_))))))))
   refine bA H (fun h30 H=>?_) (fun h30 H=>?_)
   ·refine g0 H fun d31 h32 H=>(g0 H fun y33 h34 H=>(bO H fun x36 z35 H=>(dW (dI [4] (a5 lE) (dB [52] 0 1 (vC EG) (dI [0] aF (dI [] (rW ([iJ,A0]:List ByteArray) b3 lA) (dE [54,55] (f7 [0] [] Tryz.func86 (LC h32 h34 (gI d28 ([iJ,A0]:List ByteArray) (by decide)))) (dI [56] (bI Tryz.func118 (jI fu y33 _ z35)) (dI [53] (aV.indexG (sz:=16) (k:=5) (N:=2) (i:=0) rfl rfl rfl rfl (by decide) uO) (dI [58] (a5 ME) (nI [59,57] (bU hQ) (dN ?_)))))))))))))
    refine qS (qR ?_)
    refine AL.weak (Wk.freezeE (k:=5) (sz:=16) (es:= [aE.cs (aE.mk eN ([]) x36 false ([]) (aG.mk 0 s_ s_ 0 (aA.mk 0 s_ ([])) ([]) ([]))),aE.cs (aE.mk e8 ([x2]:List aA) x10 true ([eI,oT]:List ByteArray) x21)]) (es':=aE.trs (([(aE.mk eN ([]) x36 false ([]) (aG.mk 0 s_ s_ 0 (aA.mk 0 s_ ([])) ([]) ([]))),(aE.mk e8 ([x2]:List aA) x10 true ([eI,oT]:List ByteArray) x21)]:List aE))) (s':=⟨[(0,.ptr 0 0),(2,.ptr 1 0),(4,.ptr 4 0),(40,pN ((d13.after 3).below 12))],⟨[some ⟨151,dC d31⟩,some ⟨60,[pS s_,.nil,pB false,pB false,.nil]⟩,some ⟨35,dJ x2⟩,none,some ⟨60,[pS y5,.lit 1 (aW (v23)),pB false,pB (decide (d3.below 3=0)),kC ([(aE.mk eN ([]) x36 false ([]) (aG.mk 0 s_ s_ 0 (aA.mk 0 s_ ([])) ([]) ([]))),(aE.mk e8 ([x2]:List aA) x10 true ([eI,oT]:List ByteArray) x21)]:List aE)]⟩,none],[]⟩⟩) (by simp [aE.trs_map,aE.tr_cs]) rfl lH (by simp [aE.cs]) (Nat.le_of_ble_eq_true rfl) ⟨⟨rfl,dQ,rfl⟩,⟨⟨rfl,dQ,rfl⟩,⟨⟨rfl,dQ,rfl⟩,⟨⟨rfl,dQ,rfl⟩,trivial⟩⟩⟩⟩ rfl rfl (eH hC (jS rfl) (Nat.le_of_ble_eq_true rfl)) (by repeat' first|exact trivial|refine⟨⟨_,rfl,dQ,rfl⟩,?_⟩)) ?_;refine q1 (cV [pS y5,.lit 1 (aW (v23)),pB false,pB (decide (d3.below 3=0)),kC ([(aE.mk eN ([]) x36 false ([]) (aG.mk 0 s_ s_ 0 (aA.mk 0 s_ ([])) ([]) ([]))),(aE.mk e8 ([x2]:List aA) x10 true ([eI,oT]:List ByteArray) x21)]:List aE)] sP) (q1 (bU AX) (qN (aP.ret ?_)))
    obtain rfl:_=r:=(aY H:)
    exact bM (hr:=⟨⟨_,_,_,rfl,rfl,sP,rfl,rfl⟩,trivial⟩)
   refine qS (qR (q1 eM (q1 aF (qN (dV (ahC g15 h30) (qR (q1 (a5 lE) (q1 (bG EG) (q1 (aV.indexG (sz:=16) (k:=5) (N:=2) (i:=0) rfl rfl rfl rfl (by decide) uO) (q1 (a5 G6) (q1 (bU sz4) (qN (qS ?_)))))))))))))
   refine qR ?_;refine AL.weak (Wk.freezeE (k:=5) (sz:=16) (es:= [aE.cs (aE.mk eN ([]) x10 true ([]) (aG.mk 0 s_ s_ 0 (aA.mk 0 s_ ([])) ([]) ([]))),aE.cs (aE.mk e8 ([x2]:List aA) x10 true ([eI,oT]:List ByteArray) x21)]) (es':=aE.trs (([(aE.mk eN ([]) x10 true ([]) (aG.mk 0 s_ s_ 0 (aA.mk 0 s_ ([])) ([]) ([]))),(aE.mk e8 ([x2]:List aA) x10 true ([eI,oT]:List ByteArray) x21)]:List aE))) (s':=⟨[(0,.ptr 0 0),(2,.ptr 1 0),(4,.ptr 4 0),(40,pN ((d13.after 3).below 12))],⟨[some ⟨151,dC d28⟩,some ⟨60,[pS s_,.nil,pB false,pB false,.nil]⟩,some ⟨35,dJ x2⟩,none,some ⟨60,[pS y5,.lit 1 (aW (v23)),pB false,pB (decide (d3.below 3=0)),kC ([(aE.mk eN ([]) x10 true ([]) (aG.mk 0 s_ s_ 0 (aA.mk 0 s_ ([])) ([]) ([]))),(aE.mk e8 ([x2]:List aA) x10 true ([eI,oT]:List ByteArray) x21)]:List aE)]⟩,none],[]⟩⟩) (by simp [aE.trs_map,aE.tr_cs]) rfl lH (by simp [aE.cs]) (Nat.le_of_ble_eq_true rfl) ⟨⟨rfl,dQ,rfl⟩,⟨⟨rfl,dQ,rfl⟩,⟨⟨rfl,dQ,rfl⟩,⟨⟨rfl,dQ,rfl⟩,trivial⟩⟩⟩⟩ rfl rfl (eH hC (jS rfl) (Nat.le_of_ble_eq_true rfl)) (by repeat' first|exact trivial|refine⟨⟨_,rfl,dQ,rfl⟩,?_⟩)) ?_;refine q1 (cV [pS y5,.lit 1 (aW (v23)),pB false,pB (decide (d3.below 3=0)),kC ([(aE.mk eN ([]) x10 true ([]) (aG.mk 0 s_ s_ 0 (aA.mk 0 s_ ([])) ([]) ([]))),(aE.mk e8 ([x2]:List aA) x10 true ([eI,oT]:List ByteArray) x21)]:List aE)] sP) (q1 (bU AX) (qN (aP.ret ?_)))
   obtain rfl:_=r:=(aY H:)
   exact bM (hr:=⟨⟨_,_,_,rfl,rfl,sP,rfl,rfl⟩,trivial⟩)
  have H:=nQ H g12
  refine q1 (aV.buildSliceB (cs:= [pS eN,.nil,pI x10.gKind,pS x10.gName,a4 x10.gArgs,pB false,.nil,pI 0,pS s_,pS s_,pI 0,pI 0,pS s_,.nil,.nil,.nil]) rfl rfl uO w6 rfl rfl rfl (by decide) rfl (by decide)) (q1 (f6 EI ZB) (q1 (iV EI) (q1 (bU AX) (qN ?_))))
  iterate 2 refine qS ?_
  refine qR (q1 aF (g0 H fun d37 h38 H=>?_))
  have g39:=g11
  rw [← h38] at g39
  refine q1 (f7 [0] [] Tryz.func112 (AO h38 (mI d7 2))) (qN (iX g12 (aP.skip (qS ?_))))
  refine o7 (σ:=(List ByteArray)) (fun v40=>⟨[(0,.ptr 0 0),(2,.ptr 1 0),(4,.ptr 4 0)],⟨[some ⟨151,dC (d37.after 3)⟩,some ⟨60,[pS s_,.nil,pB false,pB false,.nil]⟩,some ⟨35,dJ x2⟩,some ⟨164,[pS eN,.nil,pI x10.gKind,pS x10.gName,a4 x10.gArgs,pB false,.nil,pI 0,pS s_,pS s_,pI 0,pI 0,pS s_,.nil,.nil,.nil]⟩,some ⟨60,[pS y5,.lit 1 (aW (v40)),pB false,pB (decide (d3.below 3=0)),.bsl 3 1]⟩],[]⟩⟩) (gU H) (fun H=>?_) ?_
  ·refine qS (qR (q1 aF (g0 H fun d41 h42 H=>?_)))
   have g43:=g39
   rw [← h42] at g43
   refine q1 (f7 [0] [] Tryz.func112 (AO h42 (mI d37 3))) (qN ?_)
   refine bA H (fun h44 H=>?_) (fun h44 H=>?_)
   ·refine qR (q1 (rW ([kD]:List ByteArray) b3 lA) (q1 (a5 zG) (q1 (bU L4) (qN ?_))))
    subst h42
    exact dP ⟨_,(aY H:),b0⟩
   refine aP.skip ?_
   subst h42
   exact dP ⟨_,(aY H:),b0⟩
  rintro v40 H
  iterate 2 refine qS ?_
  refine qR (q1 aF (g0 H fun d45 h46 H=>(q1 (f7 [0] [] Tryz.func103 (AO h46 (fG (d37.after 3) 12))) (qN (aP.block (qS (qR (q1 eM (q1 aF (qN (iX (abQ (b:=0) g39 (by decide) (by decide)) (qS (qR ?_)))))))))))))
  refine q1 eM (q1 aF (qN (iX (abQ (b:=1) g39 (by decide) (by decide)) (qS (qR (q1 eM (q1 aF (qN ?_))))))))
  refine bA H (fun h47 H=>?_) (fun h47 H=>?_)
  ·refine g0 H fun d48 h49 H=>(g0 H fun y50 h51 H=>(bO H fun x53 z52 H=>(dW (dI [4] (a5 lE) (dB [52] 0 1 (vC EG) (dI [0] aF (dI [] (rW ([iJ,A0]:List ByteArray) b3 lA) (dE [54,55] (f7 [0] [] Tryz.func86 (LC h49 h51 (gI d45 ([iJ,A0]:List ByteArray) (by decide)))) (dI [56] (bI Tryz.func118 (jI fu y50 _ z52)) (dI [53] (aV.indexB (sz:=16) (k:=3) (N:=1) (i:=0) rfl rfl rfl rfl (by decide) uO) (dI [58] (a5 ME) (nI [59,57] (bU hQ) (dN ?_)))))))))))))
   refine qS (qR ?_)
   refine AL.weak (Wk.freezeE (k:=3) (sz:=16) (es:= [aE.cs (aE.mk eN [] x53 false [] (aG.mk 0 s_ s_ 0 (aA.mk 0 s_ []) [] []))]) (es':=aE.trs (([(aE.mk eN [] x53 false [] (aG.mk 0 s_ s_ 0 (aA.mk 0 s_ []) [] []))]:List aE))) (s':=⟨[(0,.ptr 0 0),(2,.ptr 1 0),(4,.ptr 4 0),(40,pN ((d37.after 3).below 12))],⟨[some ⟨151,dC d48⟩,some ⟨60,[pS s_,.nil,pB false,pB false,.nil]⟩,some ⟨35,dJ x2⟩,none,some ⟨60,[pS y5,.lit 1 (aW (v40)),pB false,pB (decide (d3.below 3=0)),kC ([(aE.mk eN [] x53 false [] (aG.mk 0 s_ s_ 0 (aA.mk 0 s_ []) [] []))]:List aE)]⟩],[]⟩⟩) (by simp [aE.trs_map,aE.tr_cs]) rfl lH (by simp [aE.cs]) (Nat.le_of_ble_eq_true rfl) ⟨⟨rfl,dQ,rfl⟩,⟨⟨rfl,dQ,rfl⟩,⟨⟨rfl,dQ,rfl⟩,⟨⟨rfl,dQ,rfl⟩,trivial⟩⟩⟩⟩ rfl rfl (eH hC (jS rfl) (Nat.le_of_ble_eq_true rfl)) (by repeat' first|exact trivial|refine⟨⟨_,rfl,dQ,rfl⟩,?_⟩)) ?_;refine q1 (cV [pS y5,.lit 1 (aW (v40)),pB false,pB (decide (d3.below 3=0)),kC ([(aE.mk eN [] x53 false [] (aG.mk 0 s_ s_ 0 (aA.mk 0 s_ []) [] []))]:List aE)] sP) (q1 (bU AX) (qN (aP.ret ?_)))
   obtain rfl:_=r:=(aY H:)
   exact bM (hr:=⟨⟨_,_,_,rfl,rfl,sP,rfl,rfl⟩,trivial⟩)
  refine qS (qR (q1 eM (q1 aF (qN (dV (ahC g39 h47) (qR (q1 (a5 lE) (q1 (bG EG) (q1 (aV.indexB (sz:=16) (k:=3) (N:=1) (i:=0) rfl rfl rfl rfl (by decide) uO) (q1 (a5 G6) (q1 (bU sz4) (qN (qS ?_)))))))))))))
  refine qR ?_;refine AL.weak (Wk.freezeE (k:=3) (sz:=16) (es:= [aE.cs (aE.mk eN [] x10 true [] (aG.mk 0 s_ s_ 0 (aA.mk 0 s_ []) [] []))]) (es':=aE.trs (([(aE.mk eN [] x10 true [] (aG.mk 0 s_ s_ 0 (aA.mk 0 s_ []) [] []))]:List aE))) (s':=⟨[(0,.ptr 0 0),(2,.ptr 1 0),(4,.ptr 4 0),(40,pN ((d37.after 3).below 12))],⟨[some ⟨151,dC d45⟩,some ⟨60,[pS s_,.nil,pB false,pB false,.nil]⟩,some ⟨35,dJ x2⟩,none,some ⟨60,[pS y5,.lit 1 (aW (v40)),pB false,pB (decide (d3.below 3=0)),kC ([(aE.mk eN [] x10 true [] (aG.mk 0 s_ s_ 0 (aA.mk 0 s_ []) [] []))]:List aE)]⟩],[]⟩⟩) (by simp [aE.trs_map,aE.tr_cs]) rfl lH (by simp [aE.cs]) (Nat.le_of_ble_eq_true rfl) ⟨⟨rfl,dQ,rfl⟩,⟨⟨rfl,dQ,rfl⟩,⟨⟨rfl,dQ,rfl⟩,⟨⟨rfl,dQ,rfl⟩,trivial⟩⟩⟩⟩ rfl rfl (eH hC (jS rfl) (Nat.le_of_ble_eq_true rfl)) (by repeat' first|exact trivial|refine⟨⟨_,rfl,dQ,rfl⟩,?_⟩)) ?_;refine q1 (cV [pS y5,.lit 1 (aW (v40)),pB false,pB (decide (d3.below 3=0)),kC ([(aE.mk eN [] x10 true [] (aG.mk 0 s_ s_ 0 (aA.mk 0 s_ []) [] []))]:List aE)] sP) (q1 (bU AX) (qN (aP.ret ?_)))
  obtain rfl:_=r:=(aY H:)
  exact bM (hr:=⟨⟨_,_,_,rfl,rfl,sP,rfl,rfl⟩,trivial⟩)
 have H:=nQ H g11
 refine q1 (t2 ([(aE.mk eN [] x10 false [] (aG.mk 0 s_ s_ 0 (aA.mk 0 s_ []) [] []))]:List aE) uO w6) (q1 (f6 EI ZB) (q1 (iV EI) (q1 (bU AX) (qN (qS ?_)))))
 refine o7 (σ:=(List aE)) (fun v55=>⟨[(0,.ptr 0 0),(2,.ptr 1 0),(4,.ptr 3 0)],⟨[some ⟨151,dC (d7.after 2)⟩,some ⟨60,[pS s_,.nil,pB false,pB false,.nil]⟩,some ⟨35,dJ x2⟩,some ⟨60,[pS y5,.nil,pB false,pB (decide (d3.below 3=0)),j8 v55 0]⟩],[⟨164,16,aE.trs (v55),false⟩]⟩⟩) (gU H) (fun H=>?_) ?_
 ·refine qS (qR (q1 aF (g0 H fun d56 h57 H=>?_)))
  have g58:=g11
  rw [← h57] at g58
  refine q1 (f7 [0] [] Tryz.func112 (AO h57 (mI d7 2))) (qN ?_)
  refine bA H (fun h59 H=>?_) (fun h59 H=>?_)
  ·refine bO H fun x61 z60 H=>(bO H fun x63 z62 H=>(bO H fun x65 z64 H=>(dF H fun z66 H=>(dW (dI [4] (a5 lE) (dD [17] (bG EG) (dD [3] (cV [pI x2.gKind,pS x2.gName,a4 x2.gArgs] cH) (dI [19] (rW ([x2]:List aA) dX gV) (dI [] (bI Tryz.func147 (sZ fu _ z9)) (dI [] (rW ([eI,oT]:List ByteArray) b3 lA) (dI [4] (a5 FH) (dD [23] (bG fB) (dI [] (bI Tryz.func157 (vW fu eI _ z60)) ?_)))))))))))))
   refine dI [25] (rW ([x61]:List aG) nK kG) (dI [24,26] (f6 kG vS) (dI [] (bI Tryz.func159 (sQ fu 1 _ z62)) (dI [27,28] (rW ([(aG.mk 5 y5 eN 0 (aA.mk 0 s_ []) ([x61]:List aG) []),x63]:List aG) nK kG) (dI [29] (bI Tryz.func158 (sR fu 10 wG ([(aG.mk 5 y5 eN 0 (aA.mk 0 s_ []) ([x61]:List aG) []),x63]:List aG) _ z64)) (dI [20,21,22,30] (f6 w6 ab3) (dI [31] (rW ([(aE.mk e8 ([x2]:List aA) x10 true ([eI,oT]:List ByteArray) x65)]:List aE) uO w6) (dE [18,32] (mJ z66 uO af6) (dI [4] (a5 lE) (nI [34,33] (bU af0) (dN ?_))))))))))
   subst h57
   exact dP ⟨_,(aY H:),b0⟩
  refine aP.skip ?_
  subst h57
  exact dP ⟨_,(aY H:),b0⟩
 rintro v55 H
 refine qS ?_;refine o7 (σ:=(List ByteArray)) (fun v67=>⟨[(0,.ptr 0 0),(2,.ptr 1 0),(4,.ptr 3 0)],⟨[some ⟨151,dC ((d7.after 2).after 3)⟩,some ⟨60,[pS s_,.nil,pB false,pB false,.nil]⟩,some ⟨35,dJ x2⟩,some ⟨60,[pS y5,.lit 1 (aW (v67)),pB false,pB (decide (d3.below 3=0)),j8 v55 0]⟩],[⟨164,16,aE.trs (v55),false⟩]⟩⟩) (gU H) (fun H=>?_) ?_
 ·refine qS (qR (q1 aF (g0 H fun d68 h69 H=>?_)))
  have g70:=g11
  rw [← h69] at g70
  refine q1 (f7 [0] [] Tryz.func112 (AO h69 (mI (d7.after 2) 3))) (qN ?_)
  refine bA H (fun h71 H=>?_) (fun h71 H=>?_)
  ·refine qR (q1 (rW ([kD]:List ByteArray) b3 lA) (q1 (a5 zG) (q1 (bU L4) (qN ?_))))
   subst h69
   exact dP ⟨_,(aY H:),b0⟩
  refine aP.skip ?_
  subst h69
  exact dP ⟨_,(aY H:),b0⟩
 rintro v67 H
 iterate 2 refine qS ?_
 refine qR (q1 aF (g0 H fun d72 h73 H=>(q1 (f7 [0] [] Tryz.func103 (AO h73 (fG ((d7.after 2).after 3) 12))) (qN (aP.block (qS (qR (q1 eM (q1 aF (qN ?_))))))))))
 refine bA H (fun h74 H=>?_) (fun h74 H=>?_)
 ·refine qR (q1 (a5 YZ) (q1 (bU sz4) (qN (qS (qR (q1 (cV [pS y5,.lit 1 (aW (v67)),pB true,pB (decide (d3.below 3=0)),j8 v55 0] sP) (q1 (bU AX) (qN (aP.ret ?_)))))))))
  obtain rfl:_=r:=(aY H:)
  exact bM (hr:=⟨⟨_,_,_,rfl,rfl,sP,rfl,rfl⟩,trivial⟩)
 refine qS (qR (q1 eM (q1 aF (qN ?_))))
 refine bA H (fun h75 H=>?_) (fun h75 H=>?_)
 ·refine qR (q1 aF (q1 (rW ([s_,fU,s_A]:List ByteArray) b3 lA) (g0 H fun d76 h77 H=>(g0 H fun y78 h79 H=>(q1 (f7 [0] [] Tryz.func86 (LC h77 h79 (gI d72 ([s_,fU,s_A]:List ByteArray) (by decide)))) (q1 (a5 FH) (q1 (bU sz9) (qN (qS (qR (q1 (cV [pS y78,.lit 1 (aW (v67)),pB false,pB (decide (d3.below 3=0)),j8 v55 0] sP) (q1 (bU AX) (qN ?_)))))))))))))
  refine aP.ret ?_
  obtain rfl:_=r:=(aY H:)
  exact bM (hr:=⟨⟨_,_,_,rfl,rfl,sP,rfl,rfl⟩,trivial⟩)
 refine qS (qR (q1 eM (q1 aF (qN (iX (ai5 g11) (qS (qR (q1 eM (q1 aF (qN (iX (ai6 g11) (qS (qR ?_)))))))))))))
 refine q1 eM (q1 aF (qN ?_))
 refine bA H (fun h80 H=>?_) (fun h80 H=>?_)
 ·refine qR (q1 (a5 zG) (q1 (bG lK) (q1 (rW ([kD]:List ByteArray) b3 lA) (dF H fun z81 H=>?_))))
  refine q1 (aV.appendLit (es1:=aW (v67)) (es2:=aW (([kD]:List ByteArray))) (es3:=aW (v67++([kD]:List ByteArray))) rfl rfl rfl rfl rfl (n7 _) (n7 _) (by exact List.cons_ne_nil _ _) (by decide) b3 rT (by decide) (by rw [bC,bC];exact wN z81 (by decide)) (s9 _ _)) ?_;refine q1 (a5 zG) (q1 (bU L4) (qN (qS (qR (q1 (cV [pS y5,rS (v67++([kD]:List ByteArray)),pB false,pB (decide (d3.below 3=0)),j8 v55 0] sP) (q1 (bU AX) (qN (aP.ret ?_))))))))
  obtain rfl:_=r:=(aY H:)
  exact bM (hr:=⟨⟨_,_,_,rfl,rfl,sP,rfl,rfl⟩,trivial⟩)
 refine qS (qR (q1 eM (q1 aF (qN ?_))))
 refine bA H (fun h82 H=>?_) (fun h82 H=>?_)
 ·refine dF H fun z83 H=>(g0 H fun y84 h85 H=>(dF H fun z86 H=>(dW (dI [4] (a5 lE) (dD [75] (bG EG) (dI [4] (a5 lE) (dD [77] (bG EG) (dI [78] (yO h85 z83 uO) (dI [79] (j0 (aE.cs y84) V4) (dI [80] (rW ([y84]:List aE) uO w6) (dE [76,81] (mJ z86 uO af6) (dI [4] (a5 lE) (nI [83,82] (bU af0) ?_)))))))))))))
  refine dN (qS (qR (q1 (cV [pS y5,.lit 1 (aW (v67)),pB false,pB (decide (d3.below 3=0)),j8 (v55++([y84]:List aE)) 0] sP) (q1 (bU AX) (qN (aP.ret ?_))))))
  obtain rfl:_=r:=(aY H:)
  exact bM (hr:=⟨⟨_,_,_,rfl,rfl,sP,rfl,rfl⟩,trivial⟩)
 refine aP.skip (qS (qR (q1 (cV [pS y5,.lit 1 (aW (v67)),pB false,pB (decide (d3.below 3=0)),j8 v55 0] sP) (q1 (bU AX) (qN (aP.ret ?_))))))
 obtain rfl:_=r:=(aY H:)
 exact bM (hr:=⟨⟨_,_,_,rfl,rfl,sP,rfl,rfl⟩,trivial⟩)
def Z0(m:DS→Option (aL×DS)):Prop:= ∀(pc:DS) (r:aL×DS),m pc=some r→cY Tryz.prog 168 [.ptr 0 0] ⟨[some ⟨151,dC pc⟩],[]⟩ (fun q t=>q=((aL.pv r.1):PV)∧t=⟨[some ⟨151,dC r.2⟩],[]⟩)
def GG(fu:Nat)(pc:DS):Option (aL×DS):=
 bd (l9 fu f9) (fun x2=>
 bd (jR fu cU ([x2]:List aA)) (fun x4=>
 lt (pc.after 10) (fun d5=>
 sw (decide ((((pc.below 10:Nat):Int):Int)=0))
 (lt (d5.after ([f9,A0]:List ByteArray).length) (fun d8=>
 lt (d5.pick ([f9,A0]:List ByteArray)) (fun y10=>
 gd ((([f9]:List ByteArray)).length+(([y10]:List ByteArray)).length≤68719476736)
 (some ((aL.mk cU (([f9]:List ByteArray)++([y10]:List ByteArray)) ([(aD.mk fJ []),(aD.mk cG ([x2,x4]:List aA))]:List aD)),d8)))))
 (sw (decide ((((pc.below 10:Nat):Int):Int)=1))
 (lt (d5.after 2) (fun d14=>
 gd ((0:Int)≤0∧(0:Int)≤((d5.below 2:Nat):Int)∧(((d5.below 2:Nat):Int):Int)≤((([(aD.mk fJ []),(aD.mk cG ([x2,x4]:List aA))]:List aD).length:Nat):Int))
 (some ((aL.mk cU ([f9]:List ByteArray) (List.drop (0:Int).toNat (List.take (((d5.below 2:Nat):Int):Int).toNat ([(aD.mk fJ []),(aD.mk cG ([x2,x4]:List aA))]:List aD)))),d14))))
 (sw (decide ((((pc.below 10:Nat):Int):Int)=2))
 (bd (sY fu d5 2) (fun(x19,x20)=>
 some ((aL.mk cU ([f9]:List ByteArray) ([(aD.mk fJ ([x19]:List aA)),(aD.mk cG ([x2,x4]:List aA))]:List aD)),x20)))
 (sw (decide ((((pc.below 10:Nat):Int):Int)=3))
 (lt (d5.after ([cG,s_,OH]:List ByteArray).length) (fun d22=>
 lt (d5.pick ([cG,s_,OH]:List ByteArray)) (fun y24=>
 some ((aL.mk cU ([f9]:List ByteArray) ([(aD.mk y24 []),(aD.mk cG ([x2,x4]:List aA))]:List aD)),d22))))
 (some ((aL.mk cU ([f9]:List ByteArray) ([(aD.mk fJ []),(aD.mk cG ([x2,x4]:List aA))]:List aD)),d5))))))))
theorem W9(fu:Nat):Z0 (GG fu):=by
 intro pc r H
 have H:=fI H
 refine qI Tryz.func168 (fun C hC=>?_)
 refine qS (qR (q1 (iV AM) (qN (qS (qR (q1 (rW ([f9]:List ByteArray) b3 lA) (q1 (f6 YC ae6) (bO H fun x2 z1 H=>?_))))))))
 iterate 2 refine q1 (bI Tryz.func118 (jI fu f9 _ z1)) ?_
 refine q1 (rW ([x2]:List aA) dX gV) (bO H fun x4 z3 H=>(q1 (bI Tryz.func85 (jG fu cU ([x2]:List aA) _ z3)) (q1 (rW ([x2,x4]:List aA) dX gV) (q1 (f6 YC ae6) (q1 (aV.buildSliceB (cs:= [pS fJ,.nil,pS cG,.lit 3 (aA.trs (([x2,x4]:List aA)))]) rfl rfl uF YC rfl rfl rfl (by decide) rfl (by decide)) (q1 (f6 AM VU) (q1 (iV AM) (q1 (bU AK) (qN ?_)))))))))
 iterate 2 refine qS ?_
 refine qR (q1 aF (g0 H fun d5 h6 H=>(q1 (f7 [0] [] Tryz.func103 (AO h6 (fG pc 10))) (qN (aP.block (qS (qR (q1 eM (q1 aF (qN ?_))))))))))
 refine bA H (fun h7 H=>?_) (fun h7 H=>?_)
 ·refine g0 H fun d8 h9 H=>(g0 H fun y10 h11 H=>(dF H fun z12 H=>(dW (dI [3] (a5 G3) (dB [18] 0 1 (vC lK) (dI [0] aF (dI [] (rW ([f9,A0]:List ByteArray) b3 lA) (dE [20,21] (f7 [0] [] Tryz.func86 (LC h9 h11 (gI d5 ([f9,A0]:List ByteArray) (by decide)))) (dI [22] (rW ([y10]:List ByteArray) b3 lA) ?_)))))))))
  refine dI [19,23] (aV.appendLit (es1:=aW (([f9]:List ByteArray))) (es2:=aW (([y10]:List ByteArray))) (es3:=aW (([f9]:List ByteArray)++([y10]:List ByteArray))) rfl rfl rfl rfl rfl (n7 _) (n7 _) (by exact List.cons_ne_nil _ _) (by decide) b3 rT (by decide) (by rw [bC,bC];exact wN z12 (by decide)) (s9 _ _)) ?_;refine dI [3] (a5 G3) (nI [25,24] (bU L4) (dN (qS (qR ?_))))
  refine AL.weak (Wk.freezeE (k:=2) (sz:=2) (es:= [aD.cs (aD.mk fJ []),aD.cs (aD.mk cG ([x2,x4]:List aA))]) (es':=aD.trs (([(aD.mk fJ []),(aD.mk cG ([x2,x4]:List aA))]:List aD))) (s':=⟨[(0,.ptr 0 0),(2,.ptr 1 0),(3,.ptr 3 0),(15,pN (pc.below 10))],⟨[some ⟨151,dC d8⟩,some ⟨116,[pS s_,.nil,.nil]⟩,none,some ⟨116,[pS cU,rS (([f9]:List ByteArray)++([y10]:List ByteArray)),eX ([(aD.mk fJ []),(aD.mk cG ([x2,x4]:List aA))]:List aD)]⟩],[]⟩⟩) (by simp [aD.trs_map,aD.tr_cs]) rfl lH (by simp [aD.cs]) (Nat.le_of_ble_eq_true rfl) ⟨⟨rfl,dQ,rfl⟩,⟨⟨rfl,dQ,rfl⟩,⟨⟨rfl,dQ,rfl⟩,trivial⟩⟩⟩ rfl rfl (eH hC (jS rfl) (Nat.le_of_ble_eq_true rfl)) (by repeat' first|exact trivial|refine⟨⟨_,rfl,dQ,rfl⟩,?_⟩)) ?_;refine q1 (cV [pS cU,rS (([f9]:List ByteArray)++([y10]:List ByteArray)),eX ([(aD.mk fJ []),(aD.mk cG ([x2,x4]:List aA))]:List aD)] rM) (q1 (bU AK) (qN (aP.ret ?_)))
  obtain rfl:_=r:=(aY H:)
  exact bM (hr:=⟨⟨_,_,_,rfl,rfl,rM,rfl,rfl⟩,trivial⟩)
 refine qS (qR (q1 eM (q1 aF (qN ?_))))
 refine bA H (fun h13 H=>?_) (fun h13 H=>?_)
 ·refine g0 H fun d14 h15 H=>?_;refine aP.wk (Wk.freezeE (k:=2) (sz:=2) (es:= [aD.cs (aD.mk fJ []),aD.cs (aD.mk cG ([x2,x4]:List aA))]) (es':=aD.trs (([(aD.mk fJ []),(aD.mk cG ([x2,x4]:List aA))]:List aD))) (s':=⟨[(0,.ptr 0 0),(2,.ptr 1 0),(3,.ptr 3 0),(4,.lit 1 (aW (([f9]:List ByteArray)))),(5,.agg [pS fJ,.nil]),(6,(aA.pv x2)),(7,(aA.pv x2)),(8,.lit 3 (aA.trs (([x2]:List aA)))),(9,(aA.pv x4)),(10,.lit 3 (aA.trs (([x2,x4]:List aA)))),(11,.agg [pS cG,.lit 3 (aA.trs (([x2,x4]:List aA)))]),(12,eX ([(aD.mk fJ []),(aD.mk cG ([x2,x4]:List aA))]:List aD)),(13,.agg [pS cU,.lit 1 (aW (([f9]:List ByteArray))),eX ([(aD.mk fJ []),(aD.mk cG ([x2,x4]:List aA))]:List aD)]),(14,.ptr 0 0),(15,pN (pc.below 10)),(16,pB (decide ((((pc.below 10:Nat):Int):Int)=0))),(17,pB (decide ((((pc.below 10:Nat):Int):Int)=0))),(26,pB (decide ((((pc.below 10:Nat):Int):Int)=1))),(27,pB (decide ((((pc.below 10:Nat):Int):Int)=1)))],⟨[some ⟨151,dC d5⟩,some ⟨116,[pS s_,.nil,.nil]⟩,none,some ⟨116,[pS cU,.lit 1 (aW (([f9]:List ByteArray))),eX ([(aD.mk fJ []),(aD.mk cG ([x2,x4]:List aA))]:List aD)]⟩],[]⟩⟩) (by simp [aD.trs_map,aD.tr_cs]) rfl lH (by simp [aD.cs]) (Nat.le_of_ble_eq_true rfl) ⟨⟨rfl,dQ,rfl⟩,⟨⟨rfl,dQ,rfl⟩,⟨⟨rfl,dQ,rfl⟩,trivial⟩⟩⟩ rfl rfl (eH hC (jS rfl) (Nat.le_of_ble_eq_true rfl)) (by repeat' first|exact trivial|refine⟨⟨_,rfl,dQ,rfl⟩,?_⟩)) ?_;refine dF H fun z16 H=>(dW (dI [3] (a5 lT) (dB [28] 0 1 (vC wR) (dI [0] aF (dE [30] (f7 [0] [] Tryz.func103 (AO h15 (fG d5 2))) ?_)))))
  refine dI [29,31] (aV.congrP (aV.sliceR (es:=aD.trs (([(aD.mk fJ []),(aD.mk cG ([x2,x4]:List aA))]:List aD))) (l:=0) (k:=((d5.below 2:Nat):Int)) rfl rfl rfl rfl rfl (by rw [aD.trs_len];exact rfl) (by rw [aD.trs_len];exact z16) uF) (aD.trs_part _ _ _)) ?_;refine dI [3] (a5 lT) (nI [33,32] (bU ahH) (dN (qS (qR (q1 (cV [pS cU,.lit 1 (aW (([f9]:List ByteArray))),eX (List.drop (0:Int).toNat (List.take (((d5.below 2:Nat):Int):Int).toNat ([(aD.mk fJ []),(aD.mk cG ([x2,x4]:List aA))]:List aD)))] rM) (q1 (bU AK) (qN (aP.ret ?_))))))))
  obtain rfl:_=r:=(aY H:)
  exact bM (hr:=⟨⟨_,_,_,rfl,rfl,rM,rfl,rfl⟩,trivial⟩)
 refine qS (qR (q1 eM (q1 aF (qN ?_))))
 refine bA H (fun h17 H=>?_) (fun h17 H=>?_)
 ·refine fK H fun x19 x20 z18 H=>(dW (dI [3] (a5 lT) (dB [36] 0 1 (vC wR) (dI [0] aF (dE [38] (f7 [0] [] Tryz.func87 (vZ fu d5 2 _ z18)) (dI [39] (rW ([x19]:List aA) dX gV) (dI [37] (aV.indexB (sz:=2) (k:=2) (N:=2) (i:=0) rfl rfl rfl rfl (by decide) uF) (dI [41] (a5 G7) (nI [42,40] (bU ajH) (dN (qS (qR ?_))))))))))))
  refine AL.weak (Wk.freezeE (k:=2) (sz:=2) (es:= [aD.cs (aD.mk fJ ([x19]:List aA)),aD.cs (aD.mk cG ([x2,x4]:List aA))]) (es':=aD.trs (([(aD.mk fJ ([x19]:List aA)),(aD.mk cG ([x2,x4]:List aA))]:List aD))) (s':=⟨[(0,.ptr 0 0),(2,.ptr 1 0),(3,.ptr 3 0),(15,pN (pc.below 10))],⟨[some ⟨151,dC x20⟩,some ⟨116,[pS s_,.nil,.nil]⟩,none,some ⟨116,[pS cU,.lit 1 (aW (([f9]:List ByteArray))),eX ([(aD.mk fJ ([x19]:List aA)),(aD.mk cG ([x2,x4]:List aA))]:List aD)]⟩],[]⟩⟩) (by simp [aD.trs_map,aD.tr_cs]) rfl lH (by simp [aD.cs]) (Nat.le_of_ble_eq_true rfl) ⟨⟨rfl,dQ,rfl⟩,⟨⟨rfl,dQ,rfl⟩,⟨⟨rfl,dQ,rfl⟩,trivial⟩⟩⟩ rfl rfl (eH hC (jS rfl) (Nat.le_of_ble_eq_true rfl)) (by repeat' first|exact trivial|refine⟨⟨_,rfl,dQ,rfl⟩,?_⟩)) ?_;refine q1 (cV [pS cU,.lit 1 (aW (([f9]:List ByteArray))),eX ([(aD.mk fJ ([x19]:List aA)),(aD.mk cG ([x2,x4]:List aA))]:List aD)] rM) (q1 (bU AK) (qN (aP.ret ?_)))
  obtain rfl:_=r:=(aY H:)
  exact bM (hr:=⟨⟨_,_,_,rfl,rfl,rM,rfl,rfl⟩,trivial⟩)
 refine qS (qR (q1 eM (q1 aF (qN ?_))))
 refine bA H (fun h21 H=>?_) (fun h21 H=>?_)
 ·refine g0 H fun d22 h23 H=>(g0 H fun y24 h25 H=>(dW (dI [3] (a5 lT) (dB [45] 0 1 (vC wR) (dI [0] aF (dI [] (rW ([cG,s_,OH]:List ByteArray) b3 lA) (dE [47,48] (f7 [0] [] Tryz.func86 (LC h23 h25 (gI d5 ([cG,s_,OH]:List ByteArray) (by decide)))) (dI [46] (aV.indexB (sz:=2) (k:=2) (N:=2) (i:=0) rfl rfl rfl rfl (by decide) uF) (dI [50] (a5 MG) (nI [51,49] (bU sz9) (dN (qS (qR ?_)))))))))))))
  refine AL.weak (Wk.freezeE (k:=2) (sz:=2) (es:= [aD.cs (aD.mk y24 []),aD.cs (aD.mk cG ([x2,x4]:List aA))]) (es':=aD.trs (([(aD.mk y24 []),(aD.mk cG ([x2,x4]:List aA))]:List aD))) (s':=⟨[(0,.ptr 0 0),(2,.ptr 1 0),(3,.ptr 3 0),(15,pN (pc.below 10))],⟨[some ⟨151,dC d22⟩,some ⟨116,[pS s_,.nil,.nil]⟩,none,some ⟨116,[pS cU,.lit 1 (aW (([f9]:List ByteArray))),eX ([(aD.mk y24 []),(aD.mk cG ([x2,x4]:List aA))]:List aD)]⟩],[]⟩⟩) (by simp [aD.trs_map,aD.tr_cs]) rfl lH (by simp [aD.cs]) (Nat.le_of_ble_eq_true rfl) ⟨⟨rfl,dQ,rfl⟩,⟨⟨rfl,dQ,rfl⟩,⟨⟨rfl,dQ,rfl⟩,trivial⟩⟩⟩ rfl rfl (eH hC (jS rfl) (Nat.le_of_ble_eq_true rfl)) (by repeat' first|exact trivial|refine⟨⟨_,rfl,dQ,rfl⟩,?_⟩)) ?_;refine q1 (cV [pS cU,.lit 1 (aW (([f9]:List ByteArray))),eX ([(aD.mk y24 []),(aD.mk cG ([x2,x4]:List aA))]:List aD)] rM) (q1 (bU AK) (qN (aP.ret ?_)))
  obtain rfl:_=r:=(aY H:)
  exact bM (hr:=⟨⟨_,_,_,rfl,rfl,rM,rfl,rfl⟩,trivial⟩)
 refine aP.skip (qS (qR ?_))
 refine AL.weak (Wk.freezeE (k:=2) (sz:=2) (es:= [aD.cs (aD.mk fJ []),aD.cs (aD.mk cG ([x2,x4]:List aA))]) (es':=aD.trs (([(aD.mk fJ []),(aD.mk cG ([x2,x4]:List aA))]:List aD))) (s':=⟨[(0,.ptr 0 0),(2,.ptr 1 0),(3,.ptr 3 0),(15,pN (pc.below 10))],⟨[some ⟨151,dC d5⟩,some ⟨116,[pS s_,.nil,.nil]⟩,none,some ⟨116,[pS cU,.lit 1 (aW (([f9]:List ByteArray))),eX ([(aD.mk fJ []),(aD.mk cG ([x2,x4]:List aA))]:List aD)]⟩],[]⟩⟩) (by simp [aD.trs_map,aD.tr_cs]) rfl lH (by simp [aD.cs]) (Nat.le_of_ble_eq_true rfl) ⟨⟨rfl,dQ,rfl⟩,⟨⟨rfl,dQ,rfl⟩,⟨⟨rfl,dQ,rfl⟩,trivial⟩⟩⟩ rfl rfl (eH hC (jS rfl) (Nat.le_of_ble_eq_true rfl)) (by repeat' first|exact trivial|refine⟨⟨_,rfl,dQ,rfl⟩,?_⟩)) ?_;refine q1 (cV [pS cU,.lit 1 (aW (([f9]:List ByteArray))),eX ([(aD.mk fJ []),(aD.mk cG ([x2,x4]:List aA))]:List aD)] rM) (q1 (bU AK) (qN (aP.ret ?_)))
 obtain rfl:_=r:=(aY H:)
 exact bM (hr:=⟨⟨_,_,_,rfl,rfl,rM,rfl,rfl⟩,trivial⟩)
end
end Go.Proofs.YtpioomclpaiomaaGreat.W

namespace Go.Proofs.YtpioomclpaiomaaGreat.W
set_option maxRecDepth 100000
set_option maxHeartbeats 40000000
noncomputable section
open Go.RowKit Go.Proofs
set_option linter.unusedSimpArgs false
set_option linter.unusedVariables false
attribute [local irreducible] lt
def adS(m:DS→Option (aK×DS)):Prop:= ∀(pq0:DS) (r:aK×DS),m pq0=some r→cY Tryz.prog 117 [.ptr 0 0] ⟨[some ⟨151,dC pq0⟩],[]⟩ (fun q t=>q=((aK.pv r.1):PV)∧t=⟨[some ⟨151,dC r.2⟩],[]⟩)
def aaE(fu:Nat)(pq0 d1:DS):Nat→((List aT)×(List aL)×(List aH)×(List aI)×DS)→Option (LR ((List aT)×(List aL)×(List aH)×(List aI)×DS) (aK×DS)):=
 fun i3 (v9,v10,v11,v12,v4)=>lt (v4.after 4) (fun d15=>
 sw (decide ((((v4.below 4:Nat):Int):Int)=0))
 (bd (B6 fu d15) (fun(x19,x20)=>
 gd ((v9).length+(([x19]:List aT)).length≤68719476736)
 (some (.next ((v9++([x19]:List aT)),v10,v11,v12,x20)))))
 (sw (decide ((((v4.below 4:Nat):Int):Int)=1))
 (bd (GG fu d15) (fun(x24,x25)=>
 gd ((v10).length+(([x24]:List aL)).length≤68719476736)
 (some (.next (v9,(v10++([x24]:List aL)),v11,v12,x25)))))
 (sw (decide ((((v4.below 4:Nat):Int):Int)=2))
 (bd (GH fu d15) (fun(x29,x30)=>
 gd ((v11).length+(([x29]:List aH)).length≤68719476736)
 (some (.next (v9,v10,(v11++([x29]:List aH)),v12,x30)))))
 (bd (ON fu d15) (fun(x33,x34)=>
 gd ((v12).length+(([x33]:List aI)).length≤68719476736)
 (some (.next (v9,v10,v11,(v12++([x33]:List aI)),x34))))))))
def aaF(fu:Nat)(pq0 d1:DS):Option ((aK×DS)⊕((List aT)×(List aL)×(List aH)×(List aI)×DS)):=
 loopN (aaE fu pq0 d1) (pq0.below 5-0) 0 (([]),([]),([]),([]),d1)
def J5(fu:Nat)(pq0:DS):Option (aK×DS):=
 lt (pq0.after 5) (fun d1=>
 so (aaF fu pq0 d1) (fun(v9,v10,v11,v12,v4)=>
 lt (v4.after 10) (fun d36=>
 sw (decide ((((v4.below 10:Nat):Int):Int)=0))
 (lt (d36.after ([s_,fQ]:List ByteArray).length) (fun d39=>
 lt (d36.pick ([s_,fQ]:List ByteArray)) (fun y41=>
 some ((aK.mk y41 ([fQ]:List ByteArray) v9 v10 v11 v12),d39))))
 (sw (decide ((((v4.below 10:Nat):Int):Int)=1))
 (lt (d36.after ([fQ,s_q,YE]:List ByteArray).length) (fun d44=>
 lt (d36.pick ([fQ,s_q,YE]:List ByteArray)) (fun y46=>
 gd ((([fQ]:List ByteArray)).length+(([y46]:List ByteArray)).length≤68719476736)
 (some ((aK.mk YE (([fQ]:List ByteArray)++([y46]:List ByteArray)) v9 v10 v11 v12),d44)))))
 (some ((aK.mk YE ([fQ]:List ByteArray) v9 v10 v11 v12),d36))))))
theorem aaG(fu:Nat):adS (J5 fu):=by
 intro pq0 r H
 have H:=fI H
 refine qI Tryz.func117 (fun C hC=>?_)
 refine qS (qR (q1 (iV rP) (qN (qS (qR (q1 (rW ([fQ]:List ByteArray) b3 lA) (q1 (f6 rP EO) (q1 (iV rP) (q1 (bU tT) (qN (qS (qR (q1 aF ?_)))))))))))))
 refine g0 H fun d1 h2 H=>(q1 (f7 [0] [] Tryz.func103 (AO h2 (fG pq0 5))) (q1 aF (qN ?_)))
 iterate 2 refine qS ?_
 refine qR (q1 aF (qN (aP.wk (Wk.regBox (k:=2) (j:=2) 60 5 (by decide) rfl rfl) (aP.wk (Wk.regBox (k:=2) (j:=3) 116 3 (by decide) rfl rfl) (aP.wk (Wk.regBox (k:=2) (j:=4) 55 12 (by decide) rfl rfl) (aP.wk (Wk.regBox (k:=2) (j:=5) 148 16 (by decide) rfl rfl) ?_))))))
 have hb13:=DS.below_lt (d:=pq0) (n:=5) (by decide)
 refine cM (σ:=(List aT)×(List aL)×(List aH)×(List aI)×DS) (fun i3 (v9,v10,v11,v12,v4)=>⟨[(0,.ptr 0 0),(2,.ptr 1 0),(3,.ptr 2 0),(4,pN (pq0.below 5)),(5,pN i3)],⟨[some ⟨151,dC v4⟩,some ⟨131,[pS s_,.nil,.nil,.nil,.nil,.nil]⟩,some ⟨131,[pS YE,.lit 1 (aW (([fQ]:List ByteArray))),vF v9 0,lU v10 1,lW v11 2,lV v12 3]⟩],[⟨60,5,aT.trs (v9),false⟩,⟨116,3,aL.trs (v10),false⟩,⟨55,12,aH.trs (v11),false⟩,⟨148,16,aI.trs (v12),false⟩]⟩⟩) (fun(v9,v10,v11,v12,v4)=>⟨[(0,.ptr 0 0),(2,.ptr 1 0),(3,.ptr 2 0)],⟨[some ⟨151,dC v4⟩,some ⟨131,[pS s_,.nil,.nil,.nil,.nil,.nil]⟩,some ⟨131,[pS YE,.lit 1 (aW (([fQ]:List ByteArray))),vF v9 0,lU v10 1,lW v11 2,lV v12 3]⟩],[⟨60,5,aT.trs (v9),false⟩,⟨116,3,aL.trs (v10),false⟩,⟨55,12,aH.trs (v11),false⟩,⟨148,16,aI.trs (v12),false⟩]⟩⟩) (gU H) ?_ ?_
 ·rintro i3 ⟨v9,v10,v11,v12,v4⟩ H
  iterate 2 refine qS ?_
  refine qR ?_
  iterate 2 refine q1 aF ?_
  refine q1 hZ (qN ?_)
  refine eW H (fun h14 h14l H=>?_) (fun h14 H=>?_)
  ·have h14n:i3<pq0.below 5:=by have:=of_decide_eq_true h14;omega
   refine aP.skip (qS (aP.block (qS (qR (q1 aF (g0 H fun d15 h16 H=>(q1 (f7 [0] [] Tryz.func103 (AO h16 (fG v4 4))) (qN (aP.block (qS (qR (q1 eM (q1 aF ?_)))))))))))))
   refine qN ?_;refine bA H (fun h17 H=>?_) (fun h17 H=>?_)
   ·refine fK H fun x19 x20 z18 H=>(dF H fun z21 H=>(dW (dI [3] (a5 uP) (dB [26] 0 1 (vC OI) (dI [0] aF (dE [28] (f7 [0] [] Tryz.func167 (TF fu d15 _ z18)) (dI [29] (rW ([x19]:List aT) G0 EI) (dE [27,30] (mJ z21 G0 ahP) (dI [3] (a5 uP) (nI [32,31] (bU ahI) (dN (qR (q1 aF ?_)))))))))))))
    refine q1 (aV.addI rfl rfl rfl rfl (c:=((i3+1:Nat):Int)) (by omega) (by omega)) (q1 aF (qN ?_))
    exact iY h14l ⟨_,(aY H:),b0⟩
   refine qS (qR (q1 eM (q1 aF (qN ?_))))
   refine bA H (fun h22 H=>?_) (fun h22 H=>?_)
   ·refine fK H fun x24 x25 z23 H=>(dF H fun z26 H=>(dW (dI [3] (a5 qZ) (dB [35] 0 1 (vC HY) (dI [0] aF (dE [37] (f7 [0] [] Tryz.func168 (W9 fu d15 _ z23)) (dI [38] (rW ([x24]:List aL) A9 AM) (dE [36,39] (mJ z26 A9 ahQ) (dI [3] (a5 qZ) (nI [41,40] (bU ahJ) (dN (qR (q1 aF ?_)))))))))))))
    refine q1 (aV.addI rfl rfl rfl rfl (c:=((i3+1:Nat):Int)) (by omega) (by omega)) (q1 aF (qN ?_))
    exact iY h14l ⟨_,(aY H:),b0⟩
   refine qS (qR (q1 eM (q1 aF (qN ?_))))
   refine bA H (fun h27 H=>?_) (fun h27 H=>?_)
   ·refine fK H fun x29 x30 z28 H=>(dF H fun z31 H=>(dW (dI [3] (a5 oA) (dB [44] 0 1 (vC BW) (dI [0] aF (dE [46] (f7 [0] [] Tryz.func169 (XC fu d15 _ z28)) (dI [47] (rW ([x29]:List aH) xV tU) (dE [45,48] (mJ z31 xV ahR) (dI [3] (a5 oA) (nI [50,49] (bU ahK) (dN (qR (q1 aF ?_)))))))))))))
    refine q1 (aV.addI rfl rfl rfl rfl (c:=((i3+1:Nat):Int)) (by omega) (by omega)) (q1 aF (qN ?_))
    exact iY h14l ⟨_,(aY H:),b0⟩
   refine fK H fun x33 x34 z32 H=>(dF H fun z35 H=>(dW (dI [3] (a5 uQ) (dB [17] 0 1 (vC OJ) (dI [0] aF (dE [19] (f7 [0] [] Tryz.func170 (adO fu d15 _ z32)) (dI [20] (rW ([x33]:List aI) G1 AN) (dE [18,21] (mJ z35 G1 ahS) (dI [3] (a5 uQ) (nI [23,22] (bU ahL) (dN (qR (q1 aF ?_)))))))))))))
   refine q1 (aV.addI rfl rfl rfl rfl (c:=((i3+1:Nat):Int)) (by omega) (by omega)) (q1 aF (qN ?_))
   exact iY h14l ⟨_,(aY H:),b0⟩
  refine aP.exit ?_;exact lS ⟨_,H,b0⟩
 rintro⟨v9,v10,v11,v12,v4⟩ H
 iterate 2 refine qS ?_
 refine qR (q1 aF (g0 H fun d36 h37 H=>(q1 (f7 [0] [] Tryz.func103 (AO h37 (fG v4 10))) (qN (aP.block (qS (qR (q1 eM (q1 aF (qN ?_))))))))))
 refine bA H (fun h38 H=>?_) (fun h38 H=>?_)
 ·refine qR (q1 aF (q1 (rW ([s_,fQ]:List ByteArray) b3 lA) (g0 H fun d39 h40 H=>(g0 H fun y41 h42 H=>(q1 (f7 [0] [] Tryz.func86 (LC h40 h42 (gI d36 ([s_,fQ]:List ByteArray) (by decide)))) (q1 (a5 SA) (q1 (bU sz9) (qN (qS (qR (q1 (cV [pS y41,.lit 1 (aW (([fQ]:List ByteArray))),vF v9 0,lU v10 1,lW v11 2,lV v12 3] o5) (q1 (bU tT) (qN ?_)))))))))))))
  refine aP.ret ?_
  obtain rfl:_=r:=(aY H:)
  exact bM (hr:=⟨⟨_,_,_,rfl,rfl,o5,rfl,rfl⟩,trivial⟩)
 refine qS (qR (q1 eM (q1 aF (qN ?_))))
 refine bA H (fun h43 H=>?_) (fun h43 H=>?_)
 ·refine g0 H fun d44 h45 H=>(g0 H fun y46 h47 H=>(dF H fun z48 H=>(dW (dI [3] (a5 L9) (dB [61] 0 1 (vC lK) (dI [0] aF (dI [] (rW ([fQ,s_q,YE]:List ByteArray) b3 lA) (dE [63,64] (f7 [0] [] Tryz.func86 (LC h45 h47 (gI d36 ([fQ,s_q,YE]:List ByteArray) (by decide)))) (dI [65] (rW ([y46]:List ByteArray) b3 lA) ?_)))))))))
  refine dI [62,66] (aV.appendLit (es1:=aW (([fQ]:List ByteArray))) (es2:=aW (([y46]:List ByteArray))) (es3:=aW (([fQ]:List ByteArray)++([y46]:List ByteArray))) rfl rfl rfl rfl rfl (n7 _) (n7 _) (by exact List.cons_ne_nil _ _) (by decide) b3 rT (by decide) (by rw [bC,bC];exact wN z48 (by decide)) (s9 _ _)) ?_;refine dI [3] (a5 L9) (nI [68,67] (bU L4) (dN (qS (qR (q1 (cV [pS YE,rS (([fQ]:List ByteArray)++([y46]:List ByteArray)),vF v9 0,lU v10 1,lW v11 2,lV v12 3] o5) (q1 (bU tT) (qN (aP.ret ?_))))))))
  obtain rfl:_=r:=(aY H:)
  exact bM (hr:=⟨⟨_,_,_,rfl,rfl,o5,rfl,rfl⟩,trivial⟩)
 refine aP.skip (qS (qR (q1 (cV [pS YE,.lit 1 (aW (([fQ]:List ByteArray))),vF v9 0,lU v10 1,lW v11 2,lV v12 3] o5) (q1 (bU tT) (qN (aP.ret ?_))))))
 obtain rfl:_=r:=(aY H:)
 exact bM (hr:=⟨⟨_,_,_,rfl,rfl,o5,rfl,rfl⟩,trivial⟩)
def XT(m:DS→Option (aO×DS)):Prop:= ∀(pc:DS) (r:aO×DS),m pc=some r→cY Tryz.prog 55 [.ptr 0 0] ⟨[some ⟨151,dC pc⟩],[]⟩ (fun q t=>q=((aO.pv r.1):PV)∧t=⟨[some ⟨151,dC r.2⟩],[]⟩)
def wW(fu:Nat)(pc:DS):Option (aO×DS):=
 bd (GL fu pc) (fun(x2,x3)=>
 lt (x3.after 5) (fun d4=>
 sw (decide (x3.below 5=0))
 (bd (J5 fu d4) (fun(x8,x9)=>
 gd ((x2.gPackages).length+(([x8]:List aK)).length≤68719476736)
 (some ((aO.mk (x2.gPackages++([x8]:List aK))),x9))))
 (some ((aO.mk x2.gPackages),d4))))
theorem UC(fu:Nat):XT (wW fu):=by
 intro pc r H
 have H:=fI H
 refine qI Tryz.func55 (fun C hC=>?_)
 refine qS (qR (q1 (iV L5) (qN (qS (qR (q1 aF (fK H fun x2 x3 z1 H=>(q1 (aV.callOwn (pre:=⟨[some ⟨151,dC pc⟩],[]⟩) (B:= [some ⟨151,dC x3⟩]) (R:=fun k=> .agg [pD x2.gPackages k]) (ps:= [_]) (qs:= [.ptr 0 0]) [0] rfl rfl Tryz.func116 (by kernel_rfl) rfl rfl rfl (mW.of ⟨⟨_,rfl,rfl,lH,rfl⟩,trivial⟩ trivial (by decide) (by decide)) rfl lH rfl rfl rfl (fun k k'=>(.agg (.cons Mv.acc R2.nil))) (XS fu pc _ z1)) (q1 (iV L5) (q1 (bU L3) (qN ?_)))))))))))
 iterate 2 refine qS ?_
 refine qR (q1 aF (g0 H fun d4 h5 H=>(q1 (f7 [0] [] Tryz.func112 (AO h5 (mI x3 5))) (qN ?_))))
 refine bA H (fun h6 H=>?_) (fun h6 H=>?_)
 ·refine fK H fun x8 x9 z7 H=>(dF H fun z10 H=>(dW (dI [3] (a5 mB) (dB [8] 0 1 (vC BX) (dI [0] aF (dE [10] (f7 [0] [] Tryz.func117 (aaG fu d4 _ z7)) (dI [11] (iA ([x8]:List aK) xW rP) (dE [9,12] (mJ z10 xW ajM) (dI [3] (a5 mB) (nI [14,13] (bU ajG) (dN (qS (qR ?_)))))))))))))
  refine q1 (cV [pD (x2.gPackages++([x8]:List aK)) 0] qC) (q1 (bU L3) (qN (aP.ret ?_)))
  obtain rfl:_=r:=(aY H:)
  exact bM (hr:=⟨⟨_,_,_,rfl,rfl,qC,rfl,rfl⟩,trivial⟩)
 refine aP.skip (qS (qR (q1 (cV [pD x2.gPackages 0] qC) (q1 (bU L3) (qN (aP.ret ?_))))))
 obtain rfl:_=r:=(aY H:)
 exact bM (hr:=⟨⟨_,_,_,rfl,rfl,qC,rfl,rfl⟩,trivial⟩)
end
end Go.Proofs.YtpioomclpaiomaaGreat.W

namespace Go.Proofs.YtpioomclpaiomaaGreat.W
set_option maxRecDepth 100000
set_option maxHeartbeats 40000000
noncomputable section
open Go.RowKit Go.Proofs
set_option linter.unusedSimpArgs false
set_option linter.unusedVariables false
attribute [local irreducible] lt
def LG(m:aO→Option ((List aC))):Prop:= ∀(pw:aO) (r:(List aC)),m pw=some r→cE Tryz.prog 75 [(aO.pv pw)] (cD r:PV)
def oP(fu:Nat)(pw:aO)(i1:Nat)(v3:List aC):((List aC)×Int)→Option (LR ((List aC)×Int) (LR ((List aC)) ((List aC)))):=
 fun(v8,v7)=>lt (a3 pw.gPackages i1) (fun y11=>
 sw (decide ((v7:Int)<((y11.gInstances.length:Nat):Int)))
 (gd ((v8).length+(([(aC.mk ((i1:Nat):Int) v7)]:List aC)).length≤68719476736)
 (some (.next ((v8++([(aC.mk ((i1:Nat):Int) v7)]:List aC)),(aQ (v7+1))))))
 (some (.brk (v8,v7))))
def yQ(fu:Nat)(pw:aO)(i1:Nat)(v3:List aC):Option ((LR ((List aC)) ((List aC)))⊕((List aC)×Int)):=
 loopW (oP fu pw i1 v3) fu (v3,0)
def sK(fu:Nat)(pw:aO):Nat→((List aC))→Option (LR ((List aC)) ((List aC))):=
 fun i1 v3=>so (yQ fu pw i1 v3) (fun(v8,v7)=>
 some (.next v8))
def yP(fu:Nat)(pw:aO):Option (((List aC))⊕((List aC))):=
 loopN (sK fu pw) (pw.gPackages.length-0) 0 ([])
def pL(fu:Nat)(pw:aO):Option ((List aC)):=
 so (yP fu pw) (fun v3=>
 some v3)
theorem JC(fu:Nat):LG (pL fu):=by
 intro pw r H
 have H:=fI H
 refine qI Tryz.func75 (fun C hC=>?_)
 refine qS (qR (q1 (jU ([bV pw.gPackages])) (q1 aF (qN (qS (qR (q1 (t2 ([]:List aC) nJ AE) (q1 aF (qN ?_)))))))))
 iterate 2 refine qS ?_
 refine qR (q1 aF (qN ?_))
 refine aP.fact (cO 0 0 rfl rfl rfl (aK.trs_len _)) (fun hl4=>?_)
 refine cM (σ:=(List aC)) (fun i1 v3=>⟨[(1,.ptr 0 0),(2,.nil),(3,fF v3 0),(4,pN i1)],⟨[some ⟨26,[bV pw.gPackages]⟩],[⟨45,2,aC.trs (v3),false⟩]⟩⟩) (fun v3=>⟨[(2,.nil),(3,fF v3 0)],⟨[some ⟨26,[bV pw.gPackages]⟩],[⟨45,2,aC.trs (v3),false⟩]⟩⟩) (gU H) ?_ ?_
 ·rintro i1 v3 H
  iterate 2 refine qS ?_
  refine qR (q1 aF (q1 (a5 mB) (q1 (bG BX) (q1 (eT xW (aK.trs_len _)) (q1 hZ (qN ?_))))))
  refine eW H (fun h5 h5l H=>?_) (fun h5 H=>?_)
  ·have h5n:=a8 h5
   refine aP.skip (qS (aP.block (qS (qR (q1 aF (qN ?_))))))
   refine lR 3 (aC.trs_len _) (fun hl10=>?_)
   refine RC (σ:=(List aC)×Int) (fun(v8,v7)=>⟨[(1,.ptr 0 0),(2,.nil),(3,fF v8 0),(4,pN i1),(5,pI v7),(7,pN i1),(8,.ptr 0 0),(9,bV pw.gPackages),(10,pN pw.gPackages.length),(11,pB (decide ((((i1:Nat):Int):Int)<((pw.gPackages.length:Nat):Int))))],⟨[some ⟨26,[bV pw.gPackages]⟩],[⟨45,2,aC.trs (v8),false⟩]⟩⟩) (fun(v8,v7)=>⟨[(1,.ptr 0 0),(2,.nil),(3,fF v8 0),(4,pN i1),(5,pI v7),(7,pN i1),(8,.ptr 0 0),(9,bV pw.gPackages),(10,pN pw.gPackages.length),(11,pB (decide ((((i1:Nat):Int):Int)<((pw.gPackages.length:Nat):Int))))],⟨[some ⟨26,[bV pw.gPackages]⟩],[⟨45,2,aC.trs (v8),false⟩]⟩⟩) (gU H) ?_ ?_
   ·rintro k9 ⟨v8,v7⟩ H
    iterate 2 refine qS ?_
    refine qR (q1 aF (q1 (a5 mB) (q1 (bG BX) (q1 aF (g0 H fun y11 h12 H=>(q1 (yO h12 h5n xW) (q1 (qX oA) (q1 (pZ BW) ?_))))))))
    refine ah6 20 (aH.trs_len _) (fun hl13=>?_)
    refine q1 (eT xV (aH.trs_len _)) (q1 hZ (qN ?_))
    refine bA H (fun h14 H=>?_) (fun h14 H=>?_)
    ·refine aP.skip (qS (aP.block (qR ?_)))
     iterate 3 refine q1 aF ?_
     refine q1 (f6 AE aiC) (q1 (iA ([(aC.mk ((i1:Nat):Int) v7)]:List aC) nJ AE) (dF H fun z15 H=>(q1 (mJ z15 nJ aeH) (q1 aF (qN (qR (q1 aF (q1 ML (q1 aF (qN ?_))))))))))
     exact lwN ⟨_,(aY H:),b0⟩
    refine aP.exit ?_;exact lwB ⟨_,(aY H:),b0⟩
   rintro⟨v8,v7⟩ H
   refine qR (q1 aF (q1 (aV.addI rfl rfl rfl rfl (c:=((i1+1:Nat):Int)) (by omega) (by omega)) (q1 aF (qN ?_))))
   exact iY h5l ⟨_,(aY H:),b0⟩
  refine aP.exit ?_;exact lS ⟨_,H,b0⟩
 rintro v3 H
 refine qS (qR ?_)
 iterate 2 refine q1 aF ?_
 refine qN (aP.ret ?_)
 obtain rfl:_=r:=(aY H:)
 exact bM
def K9(m:aO→Option ((List aC))):Prop:= ∀(pw:aO) (r:(List aC)),m pw=some r→cE Tryz.prog 73 [(aO.pv pw)] (cD r:PV)
def yI(fu:Nat)(pw:aO)(i1:Nat)(v3:List aC)(y6:aK):Nat→((List aC))→Option (LR ((List aC)) (LR ((List aC)) ((List aC)))):=
 fun i9 v11=>gd ((v11).length+(([(aC.mk ((i1:Nat):Int) ((i9:Nat):Int))]:List aC)).length≤68719476736)
 (some (.next (v11++([(aC.mk ((i1:Nat):Int) ((i9:Nat):Int))]:List aC))))
def yK(fu:Nat)(pw:aO)(i1:Nat)(v3:List aC)(y6:aK):Option ((LR ((List aC)) ((List aC)))⊕((List aC))):=
 loopN (yI fu pw i1 v3 y6) (y6.gInstances.length-0) 0 v3
def r8(fu:Nat)(pw:aO):Nat→((List aC))→Option (LR ((List aC)) ((List aC))):=
 fun i1 v3=>lt (a3 pw.gPackages i1) (fun y6=>
 so (yK fu pw i1 v3 y6) (fun v11=>
 some (.next v11)))
def yJ(fu:Nat)(pw:aO):Option (((List aC))⊕((List aC))):=
 loopN (r8 fu pw) (pw.gPackages.length-0) 0 ([])
def mZ(fu:Nat)(pw:aO):Option ((List aC)):=
 so (yJ fu pw) (fun v3=>
 some v3)
theorem yL(fu:Nat):K9 (mZ fu):=by
 intro pw r H
 have H:=fI H
 refine qI Tryz.func73 (fun C hC=>?_)
 refine qS (qR (q1 (jU ([bV pw.gPackages])) (q1 aF (qN (qS (qR (q1 (t2 ([]:List aC) nJ AE) (q1 aF (qN ?_)))))))))
 iterate 2 refine qS ?_
 refine qR (q1 (a5 mB) (q1 (bG BX) (q1 (eT xW (aK.trs_len _)) (q1 aF (qN ?_)))))
 refine lR 9 (aK.trs_len _) (fun hl4=>?_)
 refine cM (σ:=(List aC)) (fun i1 v3=>⟨[(2,.nil),(3,fF v3 0),(9,bV pw.gPackages),(10,pN pw.gPackages.length),(11,pN i1)],⟨[some ⟨26,[bV pw.gPackages]⟩],[⟨45,2,aC.trs (v3),false⟩]⟩⟩) (fun v3=>⟨[(2,.nil),(3,fF v3 0)],⟨[some ⟨26,[bV pw.gPackages]⟩],[⟨45,2,aC.trs (v3),false⟩]⟩⟩) (gU H) ?_ ?_
 ·rintro i1 v3 H
  refine qS (qR (q1 hZ (qN (qS ?_))))
  refine eW H (fun h5 h5l H=>?_) (fun h5 H=>?_)
  ·have h5n:=a8 h5
   refine aP.skip (qS (aP.block (qS (qR (q1 aF (g0 H fun y6 h7 H=>(q1 (yO h7 h5n xW) (q1 (j0 (aK.cs y6) o5) (q1 (iV rP) (q1 aF (q1 (bU tT) (qN (qS ?_)))))))))))))
   refine qR (q1 (a5 oA) (q1 (bG BW) ?_))
   refine ah6 17 (aH.trs_len _) (fun hl8=>?_)
   refine q1 (eT xV (aH.trs_len _)) (q1 aF (qN ?_))
   refine cM (σ:=(List aC)) (fun i9 v11=>⟨[(2,.nil),(3,fF v11 0),(4,pN i1),(5,.ptr 1 0),(9,bV pw.gPackages),(10,pN pw.gPackages.length),(11,pN i1),(12,pB (decide ((((i1:Nat):Int):Int)<((pw.gPackages.length:Nat):Int)))),(13,pN i1),(14,.eptr (aK.cs y6)),(15,(aK.pv y6)),(16,.ptr 1 4),(17,vA y6.gInstances),(18,pN y6.gInstances.length),(19,pN i9)],⟨[some ⟨26,[bV pw.gPackages]⟩,some ⟨131,gH y6⟩],[⟨45,2,aC.trs (v11),false⟩]⟩⟩) (fun v11=>⟨[(2,.nil),(3,fF v11 0),(4,pN i1),(5,.ptr 1 0),(9,bV pw.gPackages),(10,pN pw.gPackages.length),(11,pN i1),(12,pB (decide ((((i1:Nat):Int):Int)<((pw.gPackages.length:Nat):Int)))),(13,pN i1),(14,.eptr (aK.cs y6)),(15,(aK.pv y6)),(16,.ptr 1 4),(17,vA y6.gInstances),(18,pN y6.gInstances.length)],⟨[some ⟨26,[bV pw.gPackages]⟩,some ⟨131,gH y6⟩],[⟨45,2,aC.trs (v11),false⟩]⟩⟩) (gU H) ?_ ?_
   ·rintro i9 v11 H
    refine qS (qR (q1 hZ (qN (qS ?_))))
    refine eW H (fun h12 h12l H=>?_) (fun h12 H=>?_)
    ·have h12n:=a8 h12
     refine aP.skip (qS (aP.block (qS (qR ?_))))
     iterate 2 refine q1 aF ?_
     refine qN (qR ?_)
     iterate 3 refine q1 aF ?_
     refine q1 (f6 AE aiC) (q1 (iA ([(aC.mk ((i1:Nat):Int) ((i9:Nat):Int))]:List aC) nJ AE) (dF H fun z13 H=>(q1 (mJ z13 nJ aeH) (q1 aF (qN (qR (q1 (aV.addI rfl rfl rfl rfl (c:=((i9+1:Nat):Int)) (by omega) (by omega)) (q1 aF (qN ?_)))))))))
     exact iY h12l ⟨_,(aY H:),b0⟩
    refine aP.exit ?_;exact lS ⟨_,H,b0⟩
   rintro v11 H
   refine qR (q1 (aV.addI rfl rfl rfl rfl (c:=((i1+1:Nat):Int)) (by omega) (by omega)) (q1 aF (qN ?_)))
   exact iY h5l ⟨_,(aY H:),b0⟩
  refine aP.exit ?_;exact lS ⟨_,H,b0⟩
 rintro v3 H
 refine qS (qR ?_)
 iterate 2 refine q1 aF ?_
 refine qN (aP.ret ?_)
 obtain rfl:_=r:=(aY H:)
 exact bM
def VN(m:aO→aC→Option (aH×Bool)):Prop:= ∀(pw:aO) (po:aC) (r:aH×Bool),m pw po=some r→cE Tryz.prog 81 [(aO.pv pw),(aC.pv po)] (.tup [(aH.pv r.1),pB r.2]:PV)
def kP(fu:Nat)(pw:aO)(po:aC):Option (aH×Bool):=
 sw (decide ((po.gPackage:Int)<0))
 (some ((aH.mk s_ [] (aA.mk 0 s_ []) [] false false (aA.mk 0 s_ []) []),false))
 (sw (decide ((po.gPackage:Int)≥((pw.gPackages.length:Nat):Int)))
 (some ((aH.mk s_ [] (aA.mk 0 s_ []) [] false false (aA.mk 0 s_ []) []),false))
 (sw (decide ((po.gAt:Int)<0))
 (some ((aH.mk s_ [] (aA.mk 0 s_ []) [] false false (aA.mk 0 s_ []) []),false))
 (gd (0≤po.gPackage∧(po.gPackage).toNat<(pw.gPackages).length)
 (lt (a3 pw.gPackages ((po.gPackage).toNat)) (fun y5=>
 sw (decide ((po.gAt:Int)≥((y5.gInstances.length:Nat):Int)))
 (some ((aH.mk s_ [] (aA.mk 0 s_ []) [] false false (aA.mk 0 s_ []) []),false))
 (gd (0≤po.gAt∧(po.gAt).toNat<(y5.gInstances).length)
 (lt (a3 y5.gInstances ((po.gAt).toNat)) (fun y9=>
 some (y9,true)))))))))
theorem uU(fu:Nat):VN (kP fu):=by
 intro pw po r H
 have H:=fI H
 refine qI Tryz.func81 (fun C hC=>?_)
 refine qS (qR (q1 (jU ([bV pw.gPackages])) (q1 (jU ([pI po.gPackage,pI po.gAt])) (q1 (iV tU) (q1 aF (qN ?_))))))
 iterate 2 refine qS ?_
 rcases kM (decide ((po.gPackage:Int)<0)) with g1|g1
 ·have H:=nR H g1
  refine dW (dI [3] (a5 rZ) (dD [6] (bG jQ) (dI [7] hZ (dI [8] aF ?_))))
  iterate 6 refine CL g1 ?_
  refine dI [9] (bR g1) (dI [16] aF ?_)
  iterate 3 refine CL rfl ?_
  refine dI [17] (bR rfl) (dI [21] aF ?_)
  iterate 11 refine CL rfl ?_
  refine dI [22] (bR rfl) (dN (dV rfl (qS (qR (q1 (f6 tU NS) (q1 (bU rR) (q1 aF (qN (aP.ret ?_)))))))))
  obtain rfl:_=r:=(aY H:)
  exact lB (hr:=⟨⟨_,_,_,rfl,rfl,pA,rfl,rfl⟩,rfl,trivial⟩)
 have H:=nQ H g1
 rcases kM (decide ((po.gPackage:Int)≥((pw.gPackages.length:Nat):Int))) with g2|g2
 ·have H:=nR H g2
  refine dW (dI [3] (a5 rZ) (dD [6] (bG jQ) (dI [7] hZ (dI [8] aF (dI (hg:=aZ g1) [3] (a5 rZ) (dD (hg:=aZ g1) [10] (bG jQ) (dI (hg:=aZ g1) [2] (a5 mB) (dD (hg:=aZ g1) [12] (bG BX) (dI (hg:=aZ g1) [13] (eT xW (aK.trs_len _)) (dI (hg:=aZ g1) [11,14] RG (dI [9,15] (b5 g1) (dI [16] aF ?_))))))))))))
  iterate 3 refine CL g2 ?_
  refine dI [17] (bR g2) (dI [21] aF ?_)
  iterate 11 refine CL rfl ?_
  refine dI [22] (bR rfl) (dN (dV rfl (qS (qR (q1 (f6 tU NS) (q1 (bU rR) (q1 aF (qN (aP.ret ?_)))))))))
  obtain rfl:_=r:=(aY H:)
  exact lB (hr:=⟨⟨_,_,_,rfl,rfl,pA,rfl,rfl⟩,rfl,trivial⟩)
 have H:=nQ H g2
 rcases kM (decide ((po.gAt:Int)<0)) with g3|g3
 ·have H:=nR H g3
  refine dW (dI [3] (a5 rZ) (dD [6] (bG jQ) (dI [7] hZ (dI [8] aF (dI (hg:=aZ g1) [3] (a5 rZ) (dD (hg:=aZ g1) [10] (bG jQ) (dI (hg:=aZ g1) [2] (a5 mB) (dD (hg:=aZ g1) [12] (bG BX) (dI (hg:=aZ g1) [13] (eT xW (aK.trs_len _)) (dI (hg:=aZ g1) [11,14] RG (dI [9,15] (b5 g1) (dI [16] aF (dI (hg:=aZ g2) [3] (a5 IT) ?_)))))))))))))
  refine dD (hg:=aZ g2) [18] (bG jQ) (dI (hg:=aZ g2) [19] hZ (dI [17,20] (b5 g2) (dI [21] aF ?_)))
  iterate 11 refine CL g3 ?_
  refine dI [22] (bR g3) (dN (dV rfl (qS (qR (q1 (f6 tU NS) (q1 (bU rR) (q1 aF (qN (aP.ret ?_)))))))))
  obtain rfl:_=r:=(aY H:)
  exact lB (hr:=⟨⟨_,_,_,rfl,rfl,pA,rfl,rfl⟩,rfl,trivial⟩)
 have H:=nQ H g3
 refine dF H fun z4 H=>(g0 H fun y5 h6 H=>(dW (dI [3] (a5 rZ) (dD [6] (bG jQ) (dI [7] hZ (dI [8] aF (dI (hg:=aZ g1) [3] (a5 rZ) (dD (hg:=aZ g1) [10] (bG jQ) (dI (hg:=aZ g1) [2] (a5 mB) (dD (hg:=aZ g1) [12] (bG BX) (dI (hg:=aZ g1) [13] (eT xW (aK.trs_len _)) (dI (hg:=aZ g1) [11,14] RG (dI [9,15] (b5 g1) ?_)))))))))))))
 refine dI [16] aF (dI (hg:=aZ g2) [3] (a5 IT) (dD (hg:=aZ g2) [18] (bG jQ) (dI (hg:=aZ g2) [19] hZ (dI [17,20] (b5 g2) (dI [21] aF (dI (hg:=aZ g3) [3] (a5 IT) (dD (hg:=aZ g3) [23] (bG jQ) (dI (hg:=aZ g3) [2] (a5 mB) (dD (hg:=aZ g3) [25] (bG BX) (dI (hg:=aZ g3) [3] (a5 rZ) (dD (hg:=aZ g3) [27] (bG jQ) (dI (hg:=aZ g3) [26,28] (rIm h6 z4 xW) (dI (hg:=aZ g3) [29] (qX oA) ?_)))))))))))))
 refine dI (hg:=aZ g3) [30] (pZ BW) (dI (hg:=aZ g3) [31] (eT xV (aH.trs_len _)) (dI (hg:=aZ g3) [24,32] RG (dI [22,33] (b5 g3) (dN ?_))))
 refine bA H (fun h7 H=>?_) (fun h7 H=>?_)
 ·refine qS (qR (q1 (f6 tU NS) (q1 (bU rR) (q1 aF (qN (aP.ret ?_))))))
  obtain rfl:_=r:=(aY H:)
  exact lB (hr:=⟨⟨_,_,_,rfl,rfl,pA,rfl,rfl⟩,rfl,trivial⟩)
 refine aP.skip (qS (dF H fun z8 H=>(g0 H fun y9 h10 H=>(dW (dI [2] (a5 mB) (dD [36] (bG BX) (dI [3] (a5 rZ) (dD [38] (bG jQ) (dI [37,39] (rIm h6 z4 xW) (dI [40] (qX oA) (dI [41] (pZ BW) (dI [3] (a5 IT) (dD [43] (bG jQ) ?_)))))))))))))
 refine dI [42,44] (rIm h10 z8 xV) (dI [45] (j0 (aH.cs y9) pA) (nI [4,46] (bU rR) (dI [] aF (dN (aP.ret ?_)))))
 obtain rfl:_=r:=(aY H:)
 exact lB (hr:=⟨⟨_,_,_,rfl,rfl,pA,rfl,rfl⟩,rfl,trivial⟩)
def UB(m:aO→aC→Option (aH×Bool)):Prop:= ∀(pw:aO) (po:aC) (r:aH×Bool),m pw po=some r→cE Tryz.prog 77 [(aO.pv pw),(aC.pv po)] (.tup [(aH.pv r.1),pB r.2]:PV)
def mT(fu:Nat)(pw:aO)(po:aC):Option (aH×Bool):=
 bd (kZ fu po.gPackage 0 (aQ (((pw.gPackages.length:Nat):Int)-1))) (fun x2=>
 sw (!(x2))
 (some ((aH.mk s_ [] (aA.mk 0 s_ []) [] false false (aA.mk 0 s_ []) []),false))
 (gd (0≤po.gPackage∧(po.gPackage).toNat<(pw.gPackages).length)
 (lt (a3 pw.gPackages ((po.gPackage).toNat)) (fun y5=>
 bd (kZ fu po.gAt 0 (aQ (((y5.gInstances.length:Nat):Int)-1))) (fun x8=>
 sw (!(x8))
 (some ((aH.mk s_ [] (aA.mk 0 s_ []) [] false false (aA.mk 0 s_ []) []),false))
 (gd (0≤po.gAt∧(po.gAt).toNat<(y5.gInstances).length)
 (lt (a3 y5.gInstances ((po.gAt).toNat)) (fun y11=>
 some (y11,true)))))))))
theorem EU(fu:Nat):UB (mT fu):=by
 intro pw po r H
 have H:=fI H
 refine qI Tryz.func77 (fun C hC=>?_)
 refine qS (qR (q1 (jU ([bV pw.gPackages])) (q1 (jU ([pI po.gPackage,pI po.gAt])) (q1 (iV tU) (q1 aF (qN ?_))))))
 iterate 2 refine qS ?_
 refine bO H fun x2 z1 H=>?_
 rcases kM (!(x2)) with g3|g3
 ·have H:=nR H g3
  refine dW (dI [3] (a5 rZ) (dD [6] (bG jQ) (dI [2] (a5 mB) (dD [8] (bG BX) (dI [9] (eT xW (aK.trs_len _)) (dI [10] AF (dI [7,11] (bI Tryz.func108 (tP fu po.gPackage 0 (aQ (((pw.gPackages.length:Nat):Int)-1)) _ z1)) (dI [12] gT (dI [13] aF ?_)))))))))
  iterate 13 refine CL g3 ?_
  refine dI [14] (bR g3) (dN (dV rfl (qS (qR (q1 (f6 tU NS) (q1 (bU rR) (q1 aF (qN (aP.ret ?_)))))))))
  obtain rfl:_=r:=(aY H:)
  exact lB (hr:=⟨⟨_,_,_,rfl,rfl,pA,rfl,rfl⟩,rfl,trivial⟩)
 have H:=nQ H g3
 refine dF H fun z4 H=>(g0 H fun y5 h6 H=>(bO H fun x8 z7 H=>(dW (dI [3] (a5 rZ) (dD [6] (bG jQ) (dI [2] (a5 mB) (dD [8] (bG BX) (dI [9] (eT xW (aK.trs_len _)) (dI [10] AF (dI [7,11] (bI Tryz.func108 (tP fu po.gPackage 0 (aQ (((pw.gPackages.length:Nat):Int)-1)) _ z1)) (dI [12] gT (dI [13] aF (dI (hg:=aZ g3) [3] (a5 IT) ?_)))))))))))))
 refine dD (hg:=aZ g3) [15] (bG jQ) (dI (hg:=aZ g3) [2] (a5 mB) (dD (hg:=aZ g3) [17] (bG BX) (dI (hg:=aZ g3) [3] (a5 rZ) (dD (hg:=aZ g3) [19] (bG jQ) (dI (hg:=aZ g3) [18,20] (rIm h6 z4 xW) (dI (hg:=aZ g3) [21] (qX oA) (dI (hg:=aZ g3) [22] (pZ BW) (dI (hg:=aZ g3) [23] (eT xV (aH.trs_len _)) (dI (hg:=aZ g3) [24] AF (dI (hg:=aZ g3) [16,25] (bI Tryz.func108 (tP fu po.gAt 0 (aQ (((y5.gInstances.length:Nat):Int)-1)) _ z7)) (dI (hg:=aZ g3) [26] gT (dI [14,27] (b5 g3) (dN ?_)))))))))))))
 refine bA H (fun h9 H=>?_) (fun h9 H=>?_)
 ·refine qS (qR (q1 (f6 tU NS) (q1 (bU rR) (q1 aF (qN (aP.ret ?_))))))
  obtain rfl:_=r:=(aY H:)
  exact lB (hr:=⟨⟨_,_,_,rfl,rfl,pA,rfl,rfl⟩,rfl,trivial⟩)
 refine aP.skip (qS (dF H fun z10 H=>(g0 H fun y11 h12 H=>(dW (dI [2] (a5 mB) (dD [30] (bG BX) (dI [3] (a5 rZ) (dD [32] (bG jQ) (dI [31,33] (rIm h6 z4 xW) (dI [34] (qX oA) (dI [35] (pZ BW) (dI [3] (a5 IT) (dD [37] (bG jQ) ?_)))))))))))))
 refine dI [36,38] (rIm h12 z10 xV) (dI [39] (j0 (aH.cs y11) pA) (nI [4,40] (bU rR) (dI [] aF (dN (aP.ret ?_)))))
 obtain rfl:_=r:=(aY H:)
 exact lB (hr:=⟨⟨_,_,_,rfl,rfl,pA,rfl,rfl⟩,rfl,trivial⟩)
def SL(m:(List aC)→(List aC)→Option Bool):Prop:= ∀(pa:List aC) (pb:List aC) (r:Bool),m pa pb=some r→cE Tryz.prog 19 [cD pa,cD pb] (pB r:PV)
def xH(fu:Nat)(pa pb:List aC):Nat→Unit→Option (LR Unit Bool):=
 fun i2 _=>gd (i2<(pb).length)
 (sw (!(decide (((a3 pa i2).gPackage:Int)=(a3 pb i2).gPackage)&&decide (((a3 pa i2).gAt:Int)=(a3 pb i2).gAt)))
 (some (.ret false))
 (some (.next ())))
def EN(fu:Nat)(pa pb:List aC):Option (Bool⊕Unit):=
 loopN (xH fu pa pb) (pa.length-0) 0 ()
def iP(fu:Nat)(pa pb:List aC):Option Bool:=
 sw (!decide ((((pa.length:Nat):Int):Int)=((pb.length:Nat):Int)))
 (some false)
 (so (EN fu pa pb) (fun _=>
 some true))
theorem xI(fu:Nat):SL (iP fu):=by
 intro pa pb r H
 have H:=fI H
 refine qI Tryz.func19 (fun C hC=>?_)
 refine qS (qR (q1 aF (qN ?_)))
 iterate 2 refine qS ?_
 refine qR (q1 aF (q1 (eT nJ (aC.trs_len _)) (q1 aF (q1 (eT nJ (aC.trs_len _)) (q1 MM (qN ?_))))))
 refine bA H (fun h1 H=>?_) (fun h1 H=>?_)
 ·refine qS (qR (q1 aF (qN (aP.ret ?_))))
  obtain rfl:_=r:=(aY H:)
  exact bM
 refine aP.skip ?_
 iterate 2 refine qS ?_
 refine qR (q1 aF (qN ?_))
 refine lR 0 (aC.trs_len _) (fun hl3=>?_)
 refine cM (σ:=Unit) (fun i2 _=>⟨[(0,cD pa),(1,cD pb),(4,pB false),(5,pN i2)],⟨[],[]⟩⟩) (fun _=>⟨[(4,pB false)],⟨[],[]⟩⟩) (gU H) ?_ ?_
 ·rintro i2 ⟨⟩ H
  iterate 2 refine qS ?_
  refine qR ?_
  iterate 2 refine q1 aF ?_
  refine q1 (eT nJ (aC.trs_len _)) (q1 hZ (qN ?_))
  refine eW H (fun h4 h4l H=>?_) (fun h4 H=>?_)
  ·have h4n:=a8 h4
   refine aP.skip (qS (aP.block (qS (dF H fun z5 H=>(dW (dI [0] aF (dI [5] aF (dI [17,18] (iH h4n nJ) (dI [19] (j0 (aC.cs (a3 pa i2)) m5) (dI [1] aF (dI [5] aF (dI [21,22] (iH z5 nJ) (dI [23] (j0 (aC.cs (a3 pb i2)) m5) ?_)))))))))))))
   refine dI [20,24] (aV.neqP rfl rfl rfl rfl M7 M8) (dN ?_)
   refine bA H (fun h6 H=>?_) (fun h6 H=>?_)
   ·refine qS (qR (q1 aF (qN (aP.ret ?_))))
    obtain rfl:_=r:=(rG (aY H):)
    exact bM
   refine aP.skip (qR (q1 aF (q1 (aV.addI rfl rfl rfl rfl (c:=((i2+1:Nat):Int)) (by omega) (by omega)) (q1 aF (qN ?_)))))
   exact iY h4l ⟨_,(aY H:),b0⟩
  refine aP.exit ?_;exact lS ⟨_,H,b0⟩
 rintro⟨⟩ H
 refine qS (qR (q1 aF (qN (aP.ret ?_))))
 obtain rfl:_=r:=(aY H:)
 exact bM
def ah5(m:(List UInt8)→Option Bool):Prop:= ∀(pcode:List UInt8) (r:Bool),m pcode=some r→cE Tryz.prog 10 [rU pcode] (pB r:PV)
def Y5(fu:Nat)(pcode:List UInt8):Option Bool:=
 some (decide ((((pcode.length:Nat):Int):Int)>1048576))
theorem agI(fu:Nat):ah5 (Y5 fu):=by
 intro pcode r H
 have H:=fI H
 refine qI Tryz.func10 (fun C hC=>?_)
 refine qS (qR (q1 aF (qN (qS (qR (q1 aF (q1 (eT VI (gB _)) (q1 IB (q1 aF (qN (aP.ret ?_)))))))))))
 obtain rfl:_=r:=(aY H:)
 exact bM
end
end Go.Proofs.YtpioomclpaiomaaGreat.W

namespace Go.Proofs.YtpioomclpaiomaaGreat
set_option linter.unusedSimpArgs false
set_option linter.unusedVariables false
open Go.RowKit
theorem hL: ∀(a b:List Tr),Tr.bulkL (a++b)=Tr.bulkL a+Tr.bulkL b
 | [],b=>by simp [Tr.bulkL]
 |t::a,b=>by simp [Tr.bulkL,hL a b,Nat.add_assoc]
theorem agZ:Tr.bulkAll (aW [])=0:=rfl
theorem afX(a:ByteArray)(l:List ByteArray):Tr.bulkAll (aW (a::l))=a.size+Tr.bulkAll (aW l):=by simp [aW,Tr.bulkAll,Tr.bulkL,Tr.bulk]
theorem aA.bk_mk(v0:Int)(v1:ByteArray)(v2:List aA):Tr.bulkL (aA.tr (.mk v0 v1 v2))=v1.size+(v2.length+Tr.bulkAll (aA.trs v2)):=by
 simp only [aA.tr,hL,Tr.bulkL,Tr.bulk,bC,f8,fC,aA.trs_len]
 first|done|omega
theorem aA.bks_nil:Tr.bulkAll (aA.trs [])=0:=by simp [aA.trs_map,Tr.bulkAll]
theorem aA.bks_cons(a:aA)(l:List aA):Tr.bulkAll (aA.trs (a::l))=Tr.bulkL (aA.tr a)+Tr.bulkAll (aA.trs l):=by simp [aA.trs_map,Tr.bulkAll]
theorem aB.bk_mk(v0:ByteArray)(v1:List aB):Tr.bulkL (aB.tr (.mk v0 v1))=v0.size+(v1.length+Tr.bulkAll (aB.trs v1)):=by
 simp only [aB.tr,hL,Tr.bulkL,Tr.bulk,bC,f8,fC,aB.trs_len]
 first|done|omega
theorem aB.bks_nil:Tr.bulkAll (aB.trs [])=0:=by simp [aB.trs_map,Tr.bulkAll]
theorem aB.bks_cons(a:aB)(l:List aB):Tr.bulkAll (aB.trs (a::l))=Tr.bulkL (aB.tr a)+Tr.bulkAll (aB.trs l):=by simp [aB.trs_map,Tr.bulkAll]
theorem aG.bk_mk(v0:Int)(v1:ByteArray)(v2:ByteArray)(v3:Int)(v4:aA)(v5:List aG)(v6:List bJ):Tr.bulkL (aG.tr (.mk v0 v1 v2 v3 v4 v5 v6))=v1.size+v2.size+Tr.bulkL (aA.tr v4)+(v5.length+Tr.bulkAll (aG.trs v5))+(v6.length+Tr.bulkAll (bJ.trs v6)):=by
 simp only [aG.tr,hL,Tr.bulkL,Tr.bulk,bC,f8,fC,aG.trs_len,bJ.trs_len]
 first|done|omega
theorem aG.bks_nil:Tr.bulkAll (aG.trs [])=0:=by simp [aG.trs_map,Tr.bulkAll]
theorem aG.bks_cons(a:aG)(l:List aG):Tr.bulkAll (aG.trs (a::l))=Tr.bulkL (aG.tr a)+Tr.bulkAll (aG.trs l):=by simp [aG.trs_map,Tr.bulkAll]
theorem bJ.bk_mk(v0:ByteArray)(v1:List ByteArray)(v2:aG):Tr.bulkL (bJ.tr (.mk v0 v1 v2))=v0.size+(v1.length+Tr.bulkAll (aW v1))+Tr.bulkL (aG.tr v2):=by
 simp only [bJ.tr,hL,Tr.bulkL,Tr.bulk,bC,f8,fC]
 first|done|omega
theorem bJ.bks_nil:Tr.bulkAll (bJ.trs [])=0:=by simp [bJ.trs_map,Tr.bulkAll]
theorem bJ.bks_cons(a:bJ)(l:List bJ):Tr.bulkAll (bJ.trs (a::l))=Tr.bulkL (bJ.tr a)+Tr.bulkAll (bJ.trs l):=by simp [bJ.trs_map,Tr.bulkAll]
theorem aJ.bk_mk(v0:ByteArray)(v1:aA):Tr.bulkL (aJ.tr (.mk v0 v1))=v0.size+Tr.bulkL (aA.tr v1):=by
 simp only [aJ.tr,hL,Tr.bulkL,Tr.bulk,bC,f8,fC]
 first|done|omega
theorem aJ.bks_nil:Tr.bulkAll (aJ.trs [])=0:=by simp [aJ.trs_map,Tr.bulkAll]
theorem aJ.bks_cons(a:aJ)(l:List aJ):Tr.bulkAll (aJ.trs (a::l))=Tr.bulkL (aJ.tr a)+Tr.bulkAll (aJ.trs l):=by simp [aJ.trs_map,Tr.bulkAll]
theorem aR.bk_mk(v0:ByteArray)(v1:aA):Tr.bulkL (aR.tr (.mk v0 v1))=v0.size+Tr.bulkL (aA.tr v1):=by
 simp only [aR.tr,hL,Tr.bulkL,Tr.bulk,bC,f8,fC]
 first|done|omega
theorem aR.bks_nil:Tr.bulkAll (aR.trs [])=0:=by simp [aR.trs_map,Tr.bulkAll]
theorem aR.bks_cons(a:aR)(l:List aR):Tr.bulkAll (aR.trs (a::l))=Tr.bulkL (aR.tr a)+Tr.bulkAll (aR.trs l):=by simp [aR.trs_map,Tr.bulkAll]
theorem aN.bk_mk(v0:ByteArray)(v1:List ByteArray)(v2:aG):Tr.bulkL (aN.tr (.mk v0 v1 v2))=v0.size+(v1.length+Tr.bulkAll (aW v1))+Tr.bulkL (aG.tr v2):=by
 simp only [aN.tr,hL,Tr.bulkL,Tr.bulk,bC,f8,fC]
 first|done|omega
theorem aN.bks_nil:Tr.bulkAll (aN.trs [])=0:=by simp [aN.trs_map,Tr.bulkAll]
theorem aN.bks_cons(a:aN)(l:List aN):Tr.bulkAll (aN.trs (a::l))=Tr.bulkL (aN.tr a)+Tr.bulkAll (aN.trs l):=by simp [aN.trs_map,Tr.bulkAll]
theorem aD.bk_mk(v0:ByteArray)(v1:List aA):Tr.bulkL (aD.tr (.mk v0 v1))=v0.size+(v1.length+Tr.bulkAll (aA.trs v1)):=by
 simp only [aD.tr,hL,Tr.bulkL,Tr.bulk,bC,f8,fC,aA.trs_len]
 first|done|omega
theorem aD.bks_nil:Tr.bulkAll (aD.trs [])=0:=by simp [aD.trs_map,Tr.bulkAll]
theorem aD.bks_cons(a:aD)(l:List aD):Tr.bulkAll (aD.trs (a::l))=Tr.bulkL (aD.tr a)+Tr.bulkAll (aD.trs l):=by simp [aD.trs_map,Tr.bulkAll]
theorem aE.bk_mk(v0:ByteArray)(v1:List aA)(v2:aA)(v3:Bool)(v4:List ByteArray)(v5:aG):Tr.bulkL (aE.tr (.mk v0 v1 v2 v3 v4 v5))=v0.size+(v1.length+Tr.bulkAll (aA.trs v1))+Tr.bulkL (aA.tr v2)+(v4.length+Tr.bulkAll (aW v4))+Tr.bulkL (aG.tr v5):=by
 simp only [aE.tr,hL,Tr.bulkL,Tr.bulk,bC,f8,fC,aA.trs_len]
 first|done|omega
theorem aE.bks_nil:Tr.bulkAll (aE.trs [])=0:=by simp [aE.trs_map,Tr.bulkAll]
theorem aE.bks_cons(a:aE)(l:List aE):Tr.bulkAll (aE.trs (a::l))=Tr.bulkL (aE.tr a)+Tr.bulkAll (aE.trs l):=by simp [aE.trs_map,Tr.bulkAll]
theorem aT.bk_mk(v0:ByteArray)(v1:List ByteArray)(v2:Bool)(v3:Bool)(v4:List aE):Tr.bulkL (aT.tr (.mk v0 v1 v2 v3 v4))=v0.size+(v1.length+Tr.bulkAll (aW v1))+(v4.length+Tr.bulkAll (aE.trs v4)):=by
 simp only [aT.tr,hL,Tr.bulkL,Tr.bulk,bC,f8,fC,aE.trs_len]
 first|done|omega
theorem aT.bks_nil:Tr.bulkAll (aT.trs [])=0:=by simp [aT.trs_map,Tr.bulkAll]
theorem aT.bks_cons(a:aT)(l:List aT):Tr.bulkAll (aT.trs (a::l))=Tr.bulkL (aT.tr a)+Tr.bulkAll (aT.trs l):=by simp [aT.trs_map,Tr.bulkAll]
theorem aL.bk_mk(v0:ByteArray)(v1:List ByteArray)(v2:List aD):Tr.bulkL (aL.tr (.mk v0 v1 v2))=v0.size+(v1.length+Tr.bulkAll (aW v1))+(v2.length+Tr.bulkAll (aD.trs v2)):=by
 simp only [aL.tr,hL,Tr.bulkL,Tr.bulk,bC,f8,fC,aD.trs_len]
 first|done|omega
theorem aL.bks_nil:Tr.bulkAll (aL.trs [])=0:=by simp [aL.trs_map,Tr.bulkAll]
theorem aL.bks_cons(a:aL)(l:List aL):Tr.bulkAll (aL.trs (a::l))=Tr.bulkL (aL.tr a)+Tr.bulkAll (aL.trs l):=by simp [aL.trs_map,Tr.bulkAll]
theorem aH.bk_mk(v0:ByteArray)(v1:List ByteArray)(v2:aA)(v3:List aJ)(v4:Bool)(v5:Bool)(v6:aA)(v7:List aN):Tr.bulkL (aH.tr (.mk v0 v1 v2 v3 v4 v5 v6 v7))=v0.size+(v1.length+Tr.bulkAll (aW v1))+Tr.bulkL (aA.tr v2)+(v3.length+Tr.bulkAll (aJ.trs v3))+Tr.bulkL (aA.tr v6)+(v7.length+Tr.bulkAll (aN.trs v7)):=by
 simp only [aH.tr,hL,Tr.bulkL,Tr.bulk,bC,f8,fC,aJ.trs_len,aN.trs_len]
 first|done|omega
theorem aH.bks_nil:Tr.bulkAll (aH.trs [])=0:=by simp [aH.trs_map,Tr.bulkAll]
theorem aH.bks_cons(a:aH)(l:List aH):Tr.bulkAll (aH.trs (a::l))=Tr.bulkL (aH.tr a)+Tr.bulkAll (aH.trs l):=by simp [aH.trs_map,Tr.bulkAll]
theorem aI.bk_mk(v0:ByteArray)(v1:List ByteArray)(v2:List aJ)(v3:List aR)(v4:aA)(v5:aG):Tr.bulkL (aI.tr (.mk v0 v1 v2 v3 v4 v5))=v0.size+(v1.length+Tr.bulkAll (aW v1))+(v2.length+Tr.bulkAll (aJ.trs v2))+(v3.length+Tr.bulkAll (aR.trs v3))+Tr.bulkL (aA.tr v4)+Tr.bulkL (aG.tr v5):=by
 simp only [aI.tr,hL,Tr.bulkL,Tr.bulk,bC,f8,fC,aJ.trs_len,aR.trs_len]
 first|done|omega
theorem aI.bks_nil:Tr.bulkAll (aI.trs [])=0:=by simp [aI.trs_map,Tr.bulkAll]
theorem aI.bks_cons(a:aI)(l:List aI):Tr.bulkAll (aI.trs (a::l))=Tr.bulkL (aI.tr a)+Tr.bulkAll (aI.trs l):=by simp [aI.trs_map,Tr.bulkAll]
theorem aK.bk_mk(v0:ByteArray)(v1:List ByteArray)(v2:List aT)(v3:List aL)(v4:List aH)(v5:List aI):Tr.bulkL (aK.tr (.mk v0 v1 v2 v3 v4 v5))=v0.size+(v1.length+Tr.bulkAll (aW v1))+(v2.length+Tr.bulkAll (aT.trs v2))+(v3.length+Tr.bulkAll (aL.trs v3))+(v4.length+Tr.bulkAll (aH.trs v4))+(v5.length+Tr.bulkAll (aI.trs v5)):=by
 simp only [aK.tr,hL,Tr.bulkL,Tr.bulk,bC,f8,fC,aT.trs_len,aL.trs_len,aH.trs_len,aI.trs_len]
 first|done|omega
theorem aK.bks_nil:Tr.bulkAll (aK.trs [])=0:=by simp [aK.trs_map,Tr.bulkAll]
theorem aK.bks_cons(a:aK)(l:List aK):Tr.bulkAll (aK.trs (a::l))=Tr.bulkL (aK.tr a)+Tr.bulkAll (aK.trs l):=by simp [aK.trs_map,Tr.bulkAll]
theorem aO.bk_mk(v0:List aK):Tr.bulkL (aO.tr (.mk v0))=(v0.length+Tr.bulkAll (aK.trs v0)):=by
 simp only [aO.tr,hL,Tr.bulkL,Tr.bulk,bC,f8,fC,aK.trs_len]
 first|done|omega
end Go.Proofs.YtpioomclpaiomaaGreat

namespace Go.Proofs.YtpioomclpaiomaaGreat
set_option linter.unusedSimpArgs false
set_option linter.unusedVariables false
open Go.RowKit Go.WalkArith Go.IntWalk
def Ok{α:Type}(o:Option α)(P:α→Prop):Prop:= ∃a,o=some a∧P a
theorem Ok.some{α:Type}{P:α→Prop}{a:α}(h:P a):Ok (Option.some a) P:=⟨a,rfl,h⟩
theorem Ok.mono{α:Type}{P Q:α→Prop}{o:Option α}(h:Ok o P)(k: ∀a,P a→Q a):Ok o Q:=by
 obtain⟨a,e,h⟩:=h
 exact⟨a,e,k a h⟩
theorem Ok.bd{α β:Type}{o:Option α}{f:α→Option β}{Q:α→Prop}{P:β→Prop}(h:Ok o Q)(k: ∀a,Q a→Ok (f a) P):Ok (bd o f) P:=by
 obtain⟨a,rfl,h⟩:=h
 exact k a h
theorem Ok.sw{α:Type}{c:Bool}{a b:Option α}{P:α→Prop}(ht:c=true→Ok a P)(hf:c=false→Ok b P):Ok (sw c a b) P:=by
 cases c
 ·exact hf rfl
 ·exact ht rfl
theorem Ok.gd{α:Type}{g:Prop}{a:Option α}{P:α→Prop}(h:g)(k:Ok a P):Ok (gd g a) P:=by
 rw [uG h rfl]
 exact k
theorem Ok.so{σ β:Type}{o:Option (β⊕σ)}{f:σ→Option β}{Q:β⊕σ→Prop}{P:β→Prop}(h:Ok o Q)(k1: ∀x,Q (.inl x)→P x)(k2: ∀s,Q (.inr s)→Ok (f s) P):Ok (so o f) P:=by
 obtain⟨a,rfl,h⟩:=h
 cases a with
 |inl x=>exact⟨x,rfl,k1 x h⟩
 |inr s=>exact k2 s h
theorem Ok.lt{α β:Type}{x:α}{f:α→Option β}{P:β→Prop}(k: ∀y,y=x→Ok (f y) P):Ok (lt x f) P:=k x rfl
theorem DS.pick_mem(d:DS){l:List ByteArray}(h:0<l.length):d.pick l∈l:=by
 rw [DS.pick_eq (d.below_lt h)]
 exact List.getElem_mem _
theorem DS.pick_size(d:DS){l:List ByteArray}{k:Nat}(h:0<l.length)(hs: ∀v∈l,v.size≤k):(d.pick l).size≤k:=hs _ (d.pick_mem h)
def PS{σ β:Type}(Q:β→Prop)(E:σ→Prop):β⊕σ→Prop
 | .inl x=>Q x
 | .inr s=>E s
def PL{σ β:Type}(Q:β→Prop)(N E:σ→Prop):LR σ β→Prop
 | .next s=>N s
 | .brk s=>E s
 | .ret x=>Q x
theorem Ok.gdk{α:Type}{g:Prop}{a:Option α}{P:α→Prop}(h:g)(k:g→Ok a P):Ok (Go.Proofs.YtpioomclpaiomaaGreat.gd g a) P:=Ok.gd h (k h)
theorem Ok.sok{σ β:Type}{o:Option (β⊕σ)}{f:σ→Option β}{P:β→Prop}{E:σ→Prop}(h:Ok o (PS P E))(k: ∀s,E s→Ok (f s) P):Ok (Go.Proofs.YtpioomclpaiomaaGreat.so o f) P:=Ok.so h (fun _ hx=>hx) k
theorem Ok.loopN{σ β:Type}{f:Nat→σ→Option (LR σ β)}{n:Nat}{Q:β→Prop}{E:σ→Prop}(I:Nat→σ→Prop)(hE: ∀i s,n≤i→I i s→E s)(hs: ∀i s,i<n→I i s→Ok (f i s) (PL Q (I (i+1)) E)):
 ∀(k i:Nat) (s:σ),n-i=k→I i s→Ok (Go.Proofs.YtpioomclpaiomaaGreat.loopN f (n-i) i s) (PS Q E)
 |0,i,s,hk,hi=>by rw [CT (by omega)];exact Ok.some (hE i s (by omega) hi)
 |k+1,i,s,hk,hi=>by
  have hlt:i<n:=by omega
  obtain⟨r,hr,hp⟩:=hs i s hlt hi
  cases r with
  |next s'=>rw [zO hlt hr];exact Ok.loopN I hE hs k (i+1) s' (by omega) hp
  |brk s'=>rw [ac6 hlt hr];exact Ok.some hp
  |ret x=>rw [I8 hlt hr];exact Ok.some hp
theorem Ok.loopN0{σ β:Type}{f:Nat→σ→Option (LR σ β)}{n i:Nat}{s:σ}{Q:β→Prop}{E:σ→Prop}(I:Nat→σ→Prop)(h0:I i s)(hE: ∀i s,n≤i→I i s→E s)(hs: ∀i s,i<n→I i s→Ok (f i s) (PL Q (I (i+1)) E)):Ok (Go.Proofs.YtpioomclpaiomaaGreat.loopN f (n-i) i s) (PS Q E):=
 Ok.loopN I hE hs (n-i) i s rfl h0
theorem Ok.loopW{σ β:Type}{f:σ→Option (LR σ β)}{Q:β→Prop}{E:σ→Prop}(I:σ→Prop)(μ:σ→Nat)(hs: ∀s,I s→Ok (f s) (PL Q (fun s'=>I s'∧μ s'<μ s) E)):
 ∀(k:Nat) (s:σ),μ s<k→I s→Ok (Go.Proofs.YtpioomclpaiomaaGreat.loopW f k s) (PS Q E)
 |0,s,hk,_=>absurd hk (Nat.not_lt_zero _)
 |k+1,s,hk,hi=>by
  obtain⟨r,hr,hp⟩:=hs s hi
  unfold Go.Proofs.YtpioomclpaiomaaGreat.loopW
  rw [hr]
  cases r with
  |next s'=>exact Ok.loopW I μ hs k s' (by have:=hp.2;omega) hp.1
  |brk s'=>exact Ok.some hp
  |ret x=>exact Ok.some hp
theorem bZ.ge(k:Nat):bZ fun fu=>k≤fu:=⟨k,fun _ h=>h⟩
end Go.Proofs.YtpioomclpaiomaaGreat

namespace Go.Proofs.YtpioomclpaiomaaGreat
set_option linter.unusedSimpArgs false
set_option linter.unusedVariables false
open Go.RowKit Go.WalkArith Go.IntWalk
class Wt (α:Type) where
 wtOf:α→Nat
def wt{α:Type}[Wt α](x:α):Nat:=Wt.wtOf x
def wl{α:Type}[Wt α]:List α→Nat
 | []=>0
 |a::l=>wt a+1+wl l
instance:Wt ByteArray:=⟨ByteArray.size⟩
theorem a6(b:ByteArray):wt b=b.size:=rfl
theorem CF(l:List ByteArray):wl l=l.length+Tr.bulkAll (aW l):=by
 induction l with
 |nil=>rw [agZ];rfl
 |cons a l ih=>rw [afX];simp only [wl,List.length_cons,a6];omega
section
variable {α:Type} [Wt α]
theorem aU:wl ([]:List α)=0∧([]:List α).length=0:=⟨rfl,rfl⟩
theorem ag1(a:α)(l:List α):wl (a::l)=wt a+1+wl l:=rfl
theorem bY(a b:List α):wl (a++b)=wl a+wl b∧(a++b).length=a.length+b.length:=by
 refine⟨?_,List.length_append⟩
 induction a with
 |nil=>simp [wl]
 |cons x a ih=>simp only [List.cons_append,wl];omega
theorem cA(a:α):wl [a]=wt a+1∧ [a].length=1:=⟨rfl,rfl⟩
theorem jO(a b:α):wl [a,b]=wt a+wt b+2∧ [a,b].length=2:=⟨by simp only [wl];omega,rfl⟩
theorem BO(a b c:α):wl [a,b,c]=wt a+wt b+wt c+3∧ [a,b,c].length=3:=⟨by simp only [wl];omega,rfl⟩
theorem ajU(a b c d:α):wl [a,b,c,d]=wt a+wt b+wt c+wt d+4∧ [a,b,c,d].length=4:=⟨by simp only [wl];omega,rfl⟩
theorem ai0(a b c d e:α):wl [a,b,c,d,e]=wt a+wt b+wt c+wt d+wt e+5∧ [a,b,c,d,e].length=5:=⟨by simp only [wl];omega,rfl⟩
theorem ai1(a b c d e f g:α):wl [a,b,c,d,e,f,g]=wt a+wt b+wt c+wt d+wt e+wt f+wt g+7∧ [a,b,c,d,e,f,g].length=7:=⟨by simp only [wl];omega,rfl⟩
theorem aX(l:List α):l.length≤wl l:=by
 induction l with
 |nil=>simp
 |cons a l ih=>simp only [wl,List.length_cons];omega
theorem CE(k:Nat)(l:List α):wl (l.take k)+wl (l.drop k)=wl l:=by
 have:=(bY (l.take k) (l.drop k)).1
 rw [List.take_append_drop] at this
 omega
theorem mU(l:List α)(k:Nat):wl (l.take k)≤wl l:=by have:=CE k l;omega
theorem ag2(k:Nat)(l:List α):wl (l.drop k)≤wl l:=by have:=CE k l;omega
theorem MS(a b:Nat)(l:List α):wl (List.drop a (List.take b l))≤wl l∧(List.drop a (List.take b l)).length=min b l.length-a:=by
 have h1:=ag2 a (l.take b)
 have h2:=mU l b
 exact⟨by omega,by simp⟩
theorem af2{l:List α}{x:α}(h:x∈l):wt x+1≤wl l:=by
 induction l with
 |nil=>simp at h
 |cons a l ih=>
  simp only [wl]
  rcases List.mem_cons.1 h with rfl|h
  ·omega
  ·have:=ih h;omega
theorem UV(l:List α)(a b:Nat):a≤b→wl (l.take a)≤wl (l.take b):=fun h=>by
 have:=mU (l.take b) a
 rwa [List.take_take,Nat.min_eq_left h] at this
theorem aiA(L:List α)(b:Nat):1≤b→wl (List.drop (1:Int).toNat (List.take b L))+wl (List.take 1 L)≤wl (List.take b L):=fun h=>by
 have:=CE 1 (L.take b)
 rw [List.take_take,Nat.min_eq_left h] at this
 show wl (List.drop 1 _)+_≤_
 omega
variable [Inhabited α]
theorem cN(l:List α)(i:Nat):i<l.length→wt (a3 l i)+1≤wl l:=fun h=>af2 (kL h)
theorem mV(l:List α)(i:Nat)(h:i<l.length):wl (l.take (i+1))=wl (l.take i)+wt (a3 l i)+1:=by
 rw [af1 h,(bY _ _).1,(cA _).1]
 omega
theorem EW(l:List α)(i:Nat):i<l.length→wl (l.take (i+1))=wl (l.take i)+wt (a3 l i)+1:=mV l i
end
theorem eJ(E:Int): -9223372036854775808≤E∧E≤9223372036854775807→aQ E=E:=fun h=>by
 unfold aQ IntKind.wrap
 simp [IntKind.bits,IntKind.signed]
 omega
theorem zD(b:ByteArray)(i j:Nat):(b.extract i j).size=min j b.size-i:=by simp [ByteArray.size_extract]
theorem eQ(a b:ByteArray):(a++b).size=a.size+b.size:=ByteArray.size_append
theorem aeV(l:List UInt8):(bytesStr l).size=l.length:=by simp [bytesStr,ByteArray.size]
theorem A5{b:ByteArray}(h: ¬b=⟨#[]⟩):0<b.size:=by
 rcases Nat.eq_zero_or_pos b.size with h0|h0
 ·refine absurd ?_ h
  obtain⟨a⟩:=b
  have h1:a.size=0:=h0
  rw [Array.eq_empty_of_size_eq_zero h1]
 ·exact h0
theorem bP{p:Prop}(h:p:=by first|omega|(dsimp only;omega)|trivial|(dsimp only;trivial)):p:=h
theorem Ok.next{σ β:Type}{N E:σ→Prop}{Q:β→Prop}{s:σ}(h:N s):Ok (Option.some (LR.next s)) (PL Q N E):=⟨_,rfl,h⟩
theorem Ok.brk{σ β:Type}{N E:σ→Prop}{Q:β→Prop}{s:σ}(h:E s):Ok (Option.some (LR.brk s)) (PL Q N E):=⟨_,rfl,h⟩
theorem Ok.ret{σ β:Type}{N E:σ→Prop}{Q:β→Prop}{x:β}(h:Q x):Ok (Option.some (LR.ret (σ:=σ) x)) (PL Q N E):=⟨_,rfl,h⟩
theorem Ok.inl{σ β:Type}{E:σ→Prop}{Q:β→Prop}{x:β}(h:Q x):Ok (Option.some (Sum.inl (β:=σ) x)) (PS Q E):=⟨_,rfl,h⟩
theorem Ok.inr{σ β:Type}{E:σ→Prop}{Q:β→Prop}{s:σ}(h:E s):Ok (Option.some (Sum.inr (α:=β) s)) (PS Q E):=⟨_,rfl,h⟩
theorem Ok.swd{α:Type}{p:Prop}[Decidable p]{a b:Option α}{P:α→Prop}(ht:p→Ok a P)(hf: ¬p→Ok b P):Ok (Go.Proofs.YtpioomclpaiomaaGreat.sw (decide p) a b) P:=Ok.sw (fun h=>ht (of_decide_eq_true h)) (fun h=>hf (of_decide_eq_false h))
theorem Ok.swn{α:Type}{p:Prop}[Decidable p]{a b:Option α}{P:α→Prop}(ht: ¬p→Ok a P)(hf:p→Ok b P):Ok (Go.Proofs.YtpioomclpaiomaaGreat.sw (!decide p) a b) P:=Ok.sw (fun h=>ht (by simpa using h)) (fun h=>hf (by simpa using h))
theorem Ok.swb{α:Type}{x:Bool}{a b:Option α}{P:α→Prop}(ht:x=false→Ok a P)(hf:x=true→Ok b P):Ok (Go.Proofs.YtpioomclpaiomaaGreat.sw (!x) a b) P:=Ok.sw (fun h=>ht (by simpa using h)) (fun h=>hf (by simpa using h))
theorem Ok.loop0{σ β:Type}{f:Nat→σ→Option (LR σ β)}{n i:Nat}{s:σ}{Q:β→Prop}{E:σ→Prop}(I:Nat→σ→Prop)(h0:I i s)(hE: ∀i s,n≤i→I i s→E s)(hs: ∀i s,i<n→I i s→Ok (f i s) (PL Q (I (i+1)) E)):Ok (Go.Proofs.YtpioomclpaiomaaGreat.loopN f (n-i) i s) (PS Q E):=Ok.loopN0 I h0 hE hs
theorem Ok.loop1{σ β:Type}{f:Nat→σ→Option (LR σ β)}{n i:Nat}{s:σ}{Q:β→Prop}(hs: ∀i s,i<n→Ok (f i s) (PL Q (fun _=>True) (fun _=>True))):Ok (Go.Proofs.YtpioomclpaiomaaGreat.loopN f (n-i) i s) (PS Q (fun _=>True)):=Ok.loopN0 (fun _ _=>True) trivial (fun _ _ _ _=>trivial) (fun i s hi _=>hs i s hi)
theorem oG{α:Type}{g:Prop}{a:Option α}{P:α→Prop}(k:g→Ok a P)(h:g:=by first|omega|trivial):Ok (Go.Proofs.YtpioomclpaiomaaGreat.gd g a) P:=Ok.gdk h k
theorem oD{α:Type}{p:Prop}[Decidable p]{a b:Option α}{P:α→Prop}(ht:p→Ok a P)(hf: ¬p→Ok b P):Ok (Go.Proofs.YtpioomclpaiomaaGreat.sw (decide p) a b) P:=Ok.swd ht hf
theorem oN{α:Type}{p:Prop}[Decidable p]{a b:Option α}{P:α→Prop}(ht: ¬p→Ok a P)(hf:p→Ok b P):Ok (Go.Proofs.YtpioomclpaiomaaGreat.sw (!decide p) a b) P:=Ok.swn ht hf
theorem oW{α:Type}{x:Bool}{a b:Option α}{P:α→Prop}(ht:x=false→Ok a P)(hf:x=true→Ok b P):Ok (Go.Proofs.YtpioomclpaiomaaGreat.sw (!x) a b) P:=Ok.swb ht hf
theorem oC{α:Type}{c:Bool}{a b:Option α}{P:α→Prop}(ht:c=true→Ok a P)(hf:c=false→Ok b P):Ok (Go.Proofs.YtpioomclpaiomaaGreat.sw c a b) P:=Ok.sw ht hf
theorem oB{α β:Type}{o:Option α}{f:α→Option β}{Q:α→Prop}{P:β→Prop}(h:Ok o Q)(k: ∀a,Q a→Ok (f a) P):Ok (Go.Proofs.YtpioomclpaiomaaGreat.bd o f) P:=Ok.bd h k
theorem KR{α β:Type}{o:Option α}{f:α→Option β}{Q1 Q2:α→Prop}{P:β→Prop}(h:Ok o (fun r=>Q1 r∧Q2 r))(k: ∀a,Q1 a→Q2 a→Ok (f a) P):Ok (Go.Proofs.YtpioomclpaiomaaGreat.bd o f) P:=Ok.bd h fun a q=>k a q.1 q.2
theorem sJ{A B β:Type}{o:Option (A×B)}{f:A×B→Option β}{Q:A×B→Prop}{P:β→Prop}(h:Ok o Q)(k: ∀a b,Q (a,b)→Ok (f (a,b)) P):Ok (Go.Proofs.YtpioomclpaiomaaGreat.bd o f) P:=Ok.bd h fun _ q=>k _ _ q
theorem oB4{A B C D β:Type}{o:Option (A×B×C×D)}{f:A×B×C×D→Option β}{Q:A×B×C×D→Prop}{P:β→Prop}(h:Ok o Q)(k: ∀a b c d,Q (a,b,c,d)→Ok (f (a,b,c,d)) P):Ok (Go.Proofs.YtpioomclpaiomaaGreat.bd o f) P:=Ok.bd h fun _ q=>k _ _ _ _ q
theorem oB6{A B C D E F β:Type}{o:Option (A×B×C×D×E×F)}{f:A×B×C×D×E×F→Option β}{Q:A×B×C×D×E×F→Prop}{P:β→Prop}(h:Ok o Q)(k: ∀a b c d e g,Q (a,b,c,d,e,g)→Ok (f (a,b,c,d,e,g)) P):Ok (Go.Proofs.YtpioomclpaiomaaGreat.bd o f) P:=Ok.bd h fun _ q=>k _ _ _ _ _ _ q
theorem oS{α:Type}{P:α→Prop}{a:α}(h:P a:=by first|trivial|omega|(dsimp only;omega)):Ok (Option.some a) P:=⟨a,rfl,h⟩
theorem nN{σ β:Type}{N E:σ→Prop}{Q:β→Prop}{s:σ}(h:N s:=by first|trivial|omega|(dsimp only;omega)):Ok (Option.some (LR.next s)) (PL Q N E):=⟨_,rfl,h⟩
theorem oK{σ β:Type}{N E:σ→Prop}{Q:β→Prop}{s:σ}(h:E s:=by first|trivial|omega|(dsimp only;omega)):Ok (Option.some (LR.brk s)) (PL Q N E):=⟨_,rfl,h⟩
theorem oR{σ β:Type}{N E:σ→Prop}{Q:β→Prop}{x:β}(h:Q x:=by first|trivial|omega|(dsimp only;omega)):Ok (Option.some (LR.ret (σ:=σ) x)) (PL Q N E):=⟨_,rfl,h⟩
theorem oL{σ β:Type}{E:σ→Prop}{Q:β→Prop}{x:β}(h:Q x:=by first|trivial|omega|(dsimp only;omega)):Ok (Option.some (Sum.inl (β:=σ) x)) (PS Q E):=⟨_,rfl,h⟩
theorem oI{σ β:Type}{E:σ→Prop}{Q:β→Prop}{s:σ}(h:E s:=by first|trivial|omega|(dsimp only;omega)):Ok (Option.some (Sum.inr (α:=β) s)) (PS Q E):=⟨_,rfl,h⟩
theorem AP{σ β:Type}{o:Option (β⊕σ)}{f:σ→Option β}{P:β→Prop}(h:Ok o (PS P fun _=>True))(k: ∀s,True→Ok (f s) P):Ok (Go.Proofs.YtpioomclpaiomaaGreat.so o f) P:=Ok.sok h k
theorem oEN{σ β:Type}{n i0:Nat}{s0:σ}{F:Nat→σ→Option (LR σ β)}{f:σ→Option β}{P:β→Prop}(hs: ∀i s,i<n→Ok (F i s) (PL P (fun _=>True) (fun _=>True)))(k: ∀s,True→Ok (f s) P):Ok (Go.Proofs.YtpioomclpaiomaaGreat.so (Go.Proofs.YtpioomclpaiomaaGreat.loopN F (n-i0) i0 s0) f) P:=Ok.sok (Ok.loop1 hs) k
theorem I9{A B β:Type}[Wt A][Wt B][Inhabited A]{F:Nat→List B→Option (LR (List B) β)}{f:List B→Option β}{i0:Nat}{v0:List B}{Q:β→Prop}(L:List A)(c:Nat)
 (hs: ∀i v,i<L.length→wl v+c*wl (List.take i0 L)≤wl v0+c*wl (List.take i L)→wl (L.take (i+1))=wl (L.take i)+wt (a3 L i)+1→wl (L.take (i+1))≤wl L→
  Ok (F i v) (PL Q (fun v=>wl v+c*wl (List.take i0 L)≤wl v0+c*wl (List.take (i+1) L)) (fun v=>wl v+c*wl (List.take i0 L)≤wl v0+c*wl L)))
 (k: ∀v,wl v+c*wl (List.take i0 L)≤wl v0+c*wl L→Ok (f v) Q):Ok (Go.Proofs.YtpioomclpaiomaaGreat.so (Go.Proofs.YtpioomclpaiomaaGreat.loopN F (L.length-i0) i0 v0) f) Q:=
 Ok.sok (Ok.loopN0 (fun i v=>wl v+c*wl (List.take i0 L)≤wl v0+c*wl (List.take i L)) (Nat.le_refl _) (fun i v _ h=>Nat.le_trans h (Nat.add_le_add_left (Nat.mul_le_mul_left _ (mU L i)) _)) (fun i v hi h=>hs i v hi h (mV L i hi) (mU L _))) k
theorem agK{A B β:Type}[Wt A][Wt B][Inhabited A]{F:Nat→List B→Option (LR (List B) β)}{f:List B→Option β}{i0:Nat}{Q:β→Prop}{PA:B→Prop}(L:List A)(c:Nat)
 (hs: ∀i v,i<L.length→wl v+c*wl (List.take i0 L)≤wl ([]:List B)+c*wl (List.take i L)→(∀a∈v,PA a)→wl (L.take (i+1))=wl (L.take i)+wt (a3 L i)+1→wl (L.take (i+1))≤wl L→
  Ok (F i v) (PL Q (fun v=>wl v+c*wl (List.take i0 L)≤wl ([]:List B)+c*wl (List.take (i+1) L)∧ ∀a∈v,PA a) (fun v=>wl v+c*wl (List.take i0 L)≤wl ([]:List B)+c*wl L∧ ∀a∈v,PA a)))
 (k: ∀v,(wl v+c*wl (List.take i0 L)≤wl ([]:List B)+c*wl L∧ ∀a∈v,PA a)→Ok (f v) Q):Ok (Go.Proofs.YtpioomclpaiomaaGreat.so (Go.Proofs.YtpioomclpaiomaaGreat.loopN F (L.length-i0) i0 []) f) Q:=
 Ok.sok (Ok.loopN0 (fun i v=>wl v+c*wl (List.take i0 L)≤wl ([]:List B)+c*wl (List.take i L)∧ ∀a∈v,PA a) ⟨Nat.le_refl _,by simp⟩ (fun i v _ h=>⟨Nat.le_trans h.1 (Nat.add_le_add_left (Nat.mul_le_mul_left _ (mU L i)) _),h.2⟩) (fun i v hi h=>hs i v hi h.1 h.2 (mV L i hi) (mU L _))) k
instance:Wt aA:=⟨fun x=>Tr.bulkL (aA.tr x)⟩
instance:Wt aB:=⟨fun x=>Tr.bulkL (aB.tr x)⟩
instance:Wt aG:=⟨fun x=>Tr.bulkL (aG.tr x)⟩
instance:Wt bJ:=⟨fun x=>Tr.bulkL (bJ.tr x)⟩
instance:Wt aJ:=⟨fun x=>Tr.bulkL (aJ.tr x)⟩
instance:Wt aR:=⟨fun x=>Tr.bulkL (aR.tr x)⟩
instance:Wt aN:=⟨fun x=>Tr.bulkL (aN.tr x)⟩
instance:Wt aD:=⟨fun x=>Tr.bulkL (aD.tr x)⟩
instance:Wt aE:=⟨fun x=>Tr.bulkL (aE.tr x)⟩
instance:Wt aT:=⟨fun x=>Tr.bulkL (aT.tr x)⟩
instance:Wt aL:=⟨fun x=>Tr.bulkL (aL.tr x)⟩
instance:Wt aH:=⟨fun x=>Tr.bulkL (aH.tr x)⟩
instance:Wt aI:=⟨fun x=>Tr.bulkL (aI.tr x)⟩
instance:Wt aK:=⟨fun x=>Tr.bulkL (aK.tr x)⟩
instance:Wt aO:=⟨fun x=>Tr.bulkL (aO.tr x)⟩
theorem aA.wl_bulk(l:List aA):wl l=l.length+Tr.bulkAll (aA.trs l):=by
 induction l with
 |nil=>rw [aA.bks_nil];rfl
 |cons a l ih=>
  rw [aA.bks_cons]
  simp only [wl,List.length_cons,ih]
  show Tr.bulkL (aA.tr a)+1+_=_
  omega
theorem aB.wl_bulk(l:List aB):wl l=l.length+Tr.bulkAll (aB.trs l):=by
 induction l with
 |nil=>rw [aB.bks_nil];rfl
 |cons a l ih=>
  rw [aB.bks_cons]
  simp only [wl,List.length_cons,ih]
  show Tr.bulkL (aB.tr a)+1+_=_
  omega
theorem aG.wl_bulk(l:List aG):wl l=l.length+Tr.bulkAll (aG.trs l):=by
 induction l with
 |nil=>rw [aG.bks_nil];rfl
 |cons a l ih=>
  rw [aG.bks_cons]
  simp only [wl,List.length_cons,ih]
  show Tr.bulkL (aG.tr a)+1+_=_
  omega
theorem bJ.wl_bulk(l:List bJ):wl l=l.length+Tr.bulkAll (bJ.trs l):=by
 induction l with
 |nil=>rw [bJ.bks_nil];rfl
 |cons a l ih=>
  rw [bJ.bks_cons]
  simp only [wl,List.length_cons,ih]
  show Tr.bulkL (bJ.tr a)+1+_=_
  omega
theorem aJ.wl_bulk(l:List aJ):wl l=l.length+Tr.bulkAll (aJ.trs l):=by
 induction l with
 |nil=>rw [aJ.bks_nil];rfl
 |cons a l ih=>
  rw [aJ.bks_cons]
  simp only [wl,List.length_cons,ih]
  show Tr.bulkL (aJ.tr a)+1+_=_
  omega
theorem aR.wl_bulk(l:List aR):wl l=l.length+Tr.bulkAll (aR.trs l):=by
 induction l with
 |nil=>rw [aR.bks_nil];rfl
 |cons a l ih=>
  rw [aR.bks_cons]
  simp only [wl,List.length_cons,ih]
  show Tr.bulkL (aR.tr a)+1+_=_
  omega
theorem aN.wl_bulk(l:List aN):wl l=l.length+Tr.bulkAll (aN.trs l):=by
 induction l with
 |nil=>rw [aN.bks_nil];rfl
 |cons a l ih=>
  rw [aN.bks_cons]
  simp only [wl,List.length_cons,ih]
  show Tr.bulkL (aN.tr a)+1+_=_
  omega
theorem aD.wl_bulk(l:List aD):wl l=l.length+Tr.bulkAll (aD.trs l):=by
 induction l with
 |nil=>rw [aD.bks_nil];rfl
 |cons a l ih=>
  rw [aD.bks_cons]
  simp only [wl,List.length_cons,ih]
  show Tr.bulkL (aD.tr a)+1+_=_
  omega
theorem aE.wl_bulk(l:List aE):wl l=l.length+Tr.bulkAll (aE.trs l):=by
 induction l with
 |nil=>rw [aE.bks_nil];rfl
 |cons a l ih=>
  rw [aE.bks_cons]
  simp only [wl,List.length_cons,ih]
  show Tr.bulkL (aE.tr a)+1+_=_
  omega
theorem aT.wl_bulk(l:List aT):wl l=l.length+Tr.bulkAll (aT.trs l):=by
 induction l with
 |nil=>rw [aT.bks_nil];rfl
 |cons a l ih=>
  rw [aT.bks_cons]
  simp only [wl,List.length_cons,ih]
  show Tr.bulkL (aT.tr a)+1+_=_
  omega
theorem aL.wl_bulk(l:List aL):wl l=l.length+Tr.bulkAll (aL.trs l):=by
 induction l with
 |nil=>rw [aL.bks_nil];rfl
 |cons a l ih=>
  rw [aL.bks_cons]
  simp only [wl,List.length_cons,ih]
  show Tr.bulkL (aL.tr a)+1+_=_
  omega
theorem aH.wl_bulk(l:List aH):wl l=l.length+Tr.bulkAll (aH.trs l):=by
 induction l with
 |nil=>rw [aH.bks_nil];rfl
 |cons a l ih=>
  rw [aH.bks_cons]
  simp only [wl,List.length_cons,ih]
  show Tr.bulkL (aH.tr a)+1+_=_
  omega
theorem aI.wl_bulk(l:List aI):wl l=l.length+Tr.bulkAll (aI.trs l):=by
 induction l with
 |nil=>rw [aI.bks_nil];rfl
 |cons a l ih=>
  rw [aI.bks_cons]
  simp only [wl,List.length_cons,ih]
  show Tr.bulkL (aI.tr a)+1+_=_
  omega
theorem aK.wl_bulk(l:List aK):wl l=l.length+Tr.bulkAll (aK.trs l):=by
 induction l with
 |nil=>rw [aK.bks_nil];rfl
 |cons a l ih=>
  rw [aK.bks_cons]
  simp only [wl,List.length_cons,ih]
  show Tr.bulkL (aK.tr a)+1+_=_
  omega
theorem aA.wt_mk(v0:Int)(v1:ByteArray)(v2:List aA):wt (aA.mk v0 v1 v2)=v1.size+wl v2:=by
 show Tr.bulkL (aA.tr (.mk v0 v1 v2))=_
 rw [aA.bk_mk]
 simp only [aA.wl_bulk]
 try rfl
theorem aA.wt_eq(x:aA):wt x=x.gName.size+wl x.gArgs:=by
 obtain⟨v0,v1,v2⟩:=x
 exact aA.wt_mk v0 v1 v2
theorem aB.wt_mk(v0:ByteArray)(v1:List aB):wt (aB.mk v0 v1)=v0.size+wl v1:=by
 show Tr.bulkL (aB.tr (.mk v0 v1))=_
 rw [aB.bk_mk]
 simp only [aB.wl_bulk]
 try rfl
theorem aB.wt_eq(x:aB):wt x=x.gAtom.size+wl x.gList:=by
 obtain⟨v0,v1⟩:=x
 exact aB.wt_mk v0 v1
theorem aG.wt_mk(v0:Int)(v1:ByteArray)(v2:ByteArray)(v3:Int)(v4:aA)(v5:List aG)(v6:List bJ):wt (aG.mk v0 v1 v2 v3 v4 v5 v6)=v1.size+v2.size+wt v4+wl v5+wl v6:=by
 show Tr.bulkL (aG.tr (.mk v0 v1 v2 v3 v4 v5 v6))=_
 rw [aG.bk_mk]
 simp only [aG.wl_bulk,bJ.wl_bulk]
 try rfl
theorem aG.wt_eq(x:aG):wt x=x.gTrait.size+x.gName.size+wt x.gType+wl x.gArgs+wl x.gArms:=by
 obtain⟨v0,v1,v2,v3,v4,v5,v6⟩:=x
 exact aG.wt_mk v0 v1 v2 v3 v4 v5 v6
theorem bJ.wt_mk(v0:ByteArray)(v1:List ByteArray)(v2:aG):wt (bJ.mk v0 v1 v2)=v0.size+wl v1+wt v2:=by
 show Tr.bulkL (bJ.tr (.mk v0 v1 v2))=_
 rw [bJ.bk_mk]
 simp only [CF]
 try rfl
theorem bJ.wt_eq(x:bJ):wt x=x.gConstructor.size+wl x.gVars+wt x.gBody:=by
 obtain⟨v0,v1,v2⟩:=x
 exact bJ.wt_mk v0 v1 v2
theorem aJ.wt_mk(v0:ByteArray)(v1:aA):wt (aJ.mk v0 v1)=v0.size+wt v1:=by
 show Tr.bulkL (aJ.tr (.mk v0 v1))=_
 rw [aJ.bk_mk]
 try rfl
theorem aJ.wt_eq(x:aJ):wt x=x.gTrait.size+wt x.gType:=by
 obtain⟨v0,v1⟩:=x
 exact aJ.wt_mk v0 v1
theorem aR.wt_mk(v0:ByteArray)(v1:aA):wt (aR.mk v0 v1)=v0.size+wt v1:=by
 show Tr.bulkL (aR.tr (.mk v0 v1))=_
 rw [aR.bk_mk]
 try rfl
theorem aR.wt_eq(x:aR):wt x=x.gName.size+wt x.gType:=by
 obtain⟨v0,v1⟩:=x
 exact aR.wt_mk v0 v1
theorem aN.wt_mk(v0:ByteArray)(v1:List ByteArray)(v2:aG):wt (aN.mk v0 v1 v2)=v0.size+wl v1+wt v2:=by
 show Tr.bulkL (aN.tr (.mk v0 v1 v2))=_
 rw [aN.bk_mk]
 simp only [CF]
 try rfl
theorem aN.wt_eq(x:aN):wt x=x.gName.size+wl x.gVars+wt x.gBody:=by
 obtain⟨v0,v1,v2⟩:=x
 exact aN.wt_mk v0 v1 v2
theorem aD.wt_mk(v0:ByteArray)(v1:List aA):wt (aD.mk v0 v1)=v0.size+wl v1:=by
 show Tr.bulkL (aD.tr (.mk v0 v1))=_
 rw [aD.bk_mk]
 simp only [aA.wl_bulk]
 try rfl
theorem aD.wt_eq(x:aD):wt x=x.gName.size+wl x.gFields:=by
 obtain⟨v0,v1⟩:=x
 exact aD.wt_mk v0 v1
theorem aE.wt_mk(v0:ByteArray)(v1:List aA)(v2:aA)(v3:Bool)(v4:List ByteArray)(v5:aG):wt (aE.mk v0 v1 v2 v3 v4 v5)=v0.size+wl v1+wt v2+wl v4+wt v5:=by
 show Tr.bulkL (aE.tr (.mk v0 v1 v2 v3 v4 v5))=_
 rw [aE.bk_mk]
 simp only [aA.wl_bulk,CF]
 try rfl
theorem aE.wt_eq(x:aE):wt x=x.gName.size+wl x.gParams+wt x.gResult+wl x.gVars+wt x.gBody:=by
 obtain⟨v0,v1,v2,v3,v4,v5⟩:=x
 exact aE.wt_mk v0 v1 v2 v3 v4 v5
theorem aT.wt_mk(v0:ByteArray)(v1:List ByteArray)(v2:Bool)(v3:Bool)(v4:List aE):wt (aT.mk v0 v1 v2 v3 v4)=v0.size+wl v1+wl v4:=by
 show Tr.bulkL (aT.tr (.mk v0 v1 v2 v3 v4))=_
 rw [aT.bk_mk]
 simp only [CF,aE.wl_bulk]
 try rfl
theorem aT.wt_eq(x:aT):wt x=x.gName.size+wl x.gSupertraits+wl x.gSignatures:=by
 obtain⟨v0,v1,v2,v3,v4⟩:=x
 exact aT.wt_mk v0 v1 v2 v3 v4
theorem aL.wt_mk(v0:ByteArray)(v1:List ByteArray)(v2:List aD):wt (aL.mk v0 v1 v2)=v0.size+wl v1+wl v2:=by
 show Tr.bulkL (aL.tr (.mk v0 v1 v2))=_
 rw [aL.bk_mk]
 simp only [CF,aD.wl_bulk]
 try rfl
theorem aL.wt_eq(x:aL):wt x=x.gName.size+wl x.gVars+wl x.gConstructors:=by
 obtain⟨v0,v1,v2⟩:=x
 exact aL.wt_mk v0 v1 v2
theorem aH.wt_mk(v0:ByteArray)(v1:List ByteArray)(v2:aA)(v3:List aJ)(v4:Bool)(v5:Bool)(v6:aA)(v7:List aN):wt (aH.mk v0 v1 v2 v3 v4 v5 v6 v7)=v0.size+wl v1+wt v2+wl v3+wt v6+wl v7:=by
 show Tr.bulkL (aH.tr (.mk v0 v1 v2 v3 v4 v5 v6 v7))=_
 rw [aH.bk_mk]
 simp only [CF,aJ.wl_bulk,aN.wl_bulk]
 try rfl
theorem aH.wt_eq(x:aH):wt x=x.gTrait.size+wl x.gVars+wt x.gHead+wl x.gWhere+wt x.gAssoc+wl x.gMethods:=by
 obtain⟨v0,v1,v2,v3,v4,v5,v6,v7⟩:=x
 exact aH.wt_mk v0 v1 v2 v3 v4 v5 v6 v7
theorem aI.wt_mk(v0:ByteArray)(v1:List ByteArray)(v2:List aJ)(v3:List aR)(v4:aA)(v5:aG):wt (aI.mk v0 v1 v2 v3 v4 v5)=v0.size+wl v1+wl v2+wl v3+wt v4+wt v5:=by
 show Tr.bulkL (aI.tr (.mk v0 v1 v2 v3 v4 v5))=_
 rw [aI.bk_mk]
 simp only [CF,aJ.wl_bulk,aR.wl_bulk]
 try rfl
theorem aI.wt_eq(x:aI):wt x=x.gName.size+wl x.gVars+wl x.gWhere+wl x.gParams+wt x.gResult+wt x.gBody:=by
 obtain⟨v0,v1,v2,v3,v4,v5⟩:=x
 exact aI.wt_mk v0 v1 v2 v3 v4 v5
theorem aK.wt_mk(v0:ByteArray)(v1:List ByteArray)(v2:List aT)(v3:List aL)(v4:List aH)(v5:List aI):wt (aK.mk v0 v1 v2 v3 v4 v5)=v0.size+wl v1+wl v2+wl v3+wl v4+wl v5:=by
 show Tr.bulkL (aK.tr (.mk v0 v1 v2 v3 v4 v5))=_
 rw [aK.bk_mk]
 simp only [CF,aT.wl_bulk,aL.wl_bulk,aH.wl_bulk,aI.wl_bulk]
 try rfl
theorem aK.wt_eq(x:aK):wt x=x.gName.size+wl x.gDeps+wl x.gTraits+wl x.gDataTypes+wl x.gInstances+wl x.gFunctions:=by
 obtain⟨v0,v1,v2,v3,v4,v5⟩:=x
 exact aK.wt_mk v0 v1 v2 v3 v4 v5
theorem aO.wt_mk(v0:List aK):wt (aO.mk v0)=wl v0:=by
 show Tr.bulkL (aO.tr (.mk v0))=_
 rw [aO.bk_mk]
 simp only [aK.wl_bulk]
 try rfl
theorem aO.wt_eq(x:aO):wt x=wl x.gPackages:=by
 obtain⟨v0⟩:=x
 exact aO.wt_mk v0
end Go.Proofs.YtpioomclpaiomaaGreat

namespace Go.Proofs.YtpioomclpaiomaaGreat.W
set_option linter.unusedSimpArgs false
set_option linter.unusedVariables false
set_option maxRecDepth 20000
set_option maxHeartbeats 4000000
open Go.RowKit Go.WalkArith Go.IntWalk
def QY(fu:Nat):Prop:= ∀(px:UInt8),Ok (C3 fu px) (fun _=>True)
theorem CQ:bZ QY:=(bZ.ge 2147483648).imp fun fu hfu px=>by
 refine oD (fun g1=>?_) fun g1=>?_
 ·refine oD (fun _=>oS) fun g2=>?_;refine oD (fun g3=>?_) fun g3=>?_
  ·exact oD (fun _=>oS) fun g4=>oD (fun _=>oS) fun g5=>oD (fun _=>oS) fun g6=>oD (fun _=>oS) fun g7=>oD (fun _=>oS) fun g8=>oD (fun _=>oS) fun g9=>oD (fun _=>oS) fun g10=>oS
  exact oD (fun _=>oS) fun g11=>oD (fun _=>oS) fun g12=>oD (fun _=>oS) fun g13=>oD (fun _=>oS) fun g14=>oD (fun _=>oS) fun g15=>oD (fun _=>oS) fun g16=>oS
 refine oD (fun g17=>?_) fun g17=>?_
 ·exact oD (fun _=>oS) fun g18=>oD (fun _=>oS) fun g19=>oD (fun _=>oS) fun g20=>oD (fun _=>oS) fun g21=>oD (fun _=>oS) fun g22=>oD (fun _=>oS) fun g23=>oD (fun _=>oS) fun g24=>oS
 exact oD (fun _=>oS) fun g25=>oD (fun _=>oS) fun g26=>oD (fun _=>oS) fun g27=>oD (fun _=>oS) fun g28=>oD (fun _=>oS) fun g29=>oD (fun _=>oS) fun g30=>oS
def abM(fu:Nat):Prop:= ∀(px plo phi:Int),Ok (kZ fu px plo phi) (fun _=>True)
theorem oJ:bZ abM:=(bZ.ge 2147483648).imp fun fu hfu px plo phi=>by
 exact oD (fun _=>oS) fun g1=>oS
def A3(fu:Nat):Prop:= ∀(ps:ByteArray),ps.size≤1073741824→Ok (vT fu ps) (fun _=>True)
theorem nZ:bZ A3:=(((bZ.ge 2147483648).and CQ).and oJ).imp fun fu ⟨⟨hfu,CQ⟩,oJ⟩ ps hpre=>by
 refine AP ?_ ?_
 ·refine Ok.loop1 ?_;rintro i1 ⟨⟩ hl2
  exact oG fun z4=>oB (CQ (zC ps i1)) fun x6 _=>oW (fun _=>oR) fun g6=>nN
 rintro⟨⟩-
 exact oB (oJ ((ps.size:Nat):Int) 1 12) fun x9 _=>oS
def acM(fu:Nat):Prop:= ∀(px:aB) (pleft:Int),wt px≤1073741824→Ok (nB fu px pleft) (fun _=>True)
def IF(n:Nat)(m:sW):Prop:= ∀(px:aB) (pleft:Int),wt px<n→wt px≤1073741824→Ok (m px pleft) (fun _=>True)
theorem aaR{n fu:Nat}(hfu:2147483648≤fu){r_sl2Left:sW}(h_sl2Left:IF n r_sl2Left):IF (n+1) (J9 fu r_sl2Left):=by
 intro px pleft hm hpre
 refine oEN (fun i1 v2 hl2=>?_) ?_
 ·have:=aB.wt_eq px
  have:=aX px.gList
  refine oD (fun g4=>?_) fun g4=>?_
  ·have:=cN px.gList i1 hl2
   exact oB (h_sl2Left (a3 px.gList i1) v2 bP bP) fun x7 _=>nN
  exact oK
 intro v2 _
 exact oS
theorem adZ(n:Nat):bZ fun fu=>IF n (nB fu):=by
 induction n with
 |zero=>exact .all fun fu=>fun _ _ h=>absurd h (Nat.not_lt_zero _)
 |succ n ih=>exact bZ.succ ((ih.and (bZ.ge 2147483648)).imp fun fu ⟨h,hfu⟩=>fun px pleft=>by rw [nB];exact aaR hfu h px pleft)
theorem I3:bZ acM:=(adZ 8589934592).imp fun fu h px pleft hpre=>h px pleft bP hpre
def acL(fu:Nat):Prop:= ∀(px:aB),wt px≤1073741824→Ok (nA fu px) (fun _=>True)
def IE(n:Nat)(m:sV):Prop:= ∀(px:aB),wt px<n→wt px≤1073741824→Ok (m px) (fun _=>True)
theorem aaN{n fu:Nat}(hfu:2147483648≤fu)(nZ:A3 fu){r_sl2Form:sV}(h_sl2Form:IE n r_sl2Form):IE (n+1) (J8 fu r_sl2Form):=by
 intro px hm hpre
 have:=aB.wt_eq px
 have:s_.size=0:=rfl
 refine oN (fun g1=>?_) fun g1=>?_
 ·have:=A5 g1
  exact oB (nZ px.gAtom bP) fun x3 _=>oC (fun _=>oS) fun g3=>oS
 refine AP ?_ ?_
 ·refine Ok.loop1 ?_;rintro i5 ⟨⟩ hl5
  have:=aX px.gList
  have:=cN px.gList i5 hl5
  exact oB (h_sl2Form (a3 px.gList i5) bP bP) fun x9 _=>oW (fun _=>oR) fun g8=>nN
 rintro⟨⟩-
 exact oS
theorem adY(n:Nat):bZ fun fu=>IE n (nA fu):=by
 induction n with
 |zero=>exact .all fun fu=>fun _ h=>absurd h (Nat.not_lt_zero _)
 |succ n ih=>exact bZ.succ ((ih.and ((bZ.ge 2147483648).and nZ)).imp fun fu ⟨h,⟨hfu,nZ⟩⟩=>fun px=>by rw [nA];exact aaN hfu nZ h px)
theorem I2:bZ acL:=(adY 8589934592).imp fun fu h px hpre=>h px bP hpre
def MZ(fu:Nat):Prop:= ∀(pa pb:Int),Ok (H4 fu pa pb) (fun _=>True)
theorem pG:bZ MZ:=(bZ.ge 2147483648).imp fun fu hfu pa pb=>by
 exact oD (fun _=>oS) fun g1=>oS
def PO(fu:Nat):Prop:= ∀(px:aB),wt px≤1073741824→Ok (gW fu px) (fun _=>True)
def w8(n:Nat)(m:lJ):Prop:= ∀(px:aB),wt px<n→wt px≤1073741824→Ok (m px) (fun _=>True)
theorem OE{n fu:Nat}(hfu:2147483648≤fu)(pG:MZ fu){r_sSExprDepth:lJ}(h_sSExprDepth:w8 n r_sSExprDepth):w8 (n+1) (xO fu r_sSExprDepth):=by
 intro px hm hpre
 have:=aB.wt_eq px
 have:s_.size=0:=rfl
 refine oN (fun _=>oS) fun g1=>?_;refine oEN (fun i2 v3 hl3=>?_) ?_
 ·have:=aX px.gList
  have:=cN px.gList i2 hl3
  exact oB (h_sSExprDepth (a3 px.gList i2) bP bP) fun x7 _=>oB (pG v3 x7) fun x9 _=>nN
 intro v3 _
 exact oS
theorem QF(n:Nat):bZ fun fu=>w8 n (gW fu):=by
 induction n with
 |zero=>exact .all fun fu=>fun _ h=>absurd h (Nat.not_lt_zero _)
 |succ n ih=>exact bZ.succ ((ih.and ((bZ.ge 2147483648).and pG)).imp fun fu ⟨h,⟨hfu,pG⟩⟩=>fun px=>by rw [gW];exact OE hfu pG h px)
theorem xG:bZ PO:=(QF 8589934592).imp fun fu h px hpre=>h px bP hpre
def K0(fu:Nat):Prop:= ∀(px:aB),wt px≤1073741824→Ok (gK fu px) (fun _=>True)
theorem cI:bZ K0:=((((bZ.ge 2147483648).and I3).and I2).and xG).imp fun fu ⟨⟨⟨hfu,I3⟩,I2⟩,xG⟩ px hpre=>by
 refine oB (I3 px 900 bP) fun x2 _=>?_;refine oD (fun g2=>?_) fun g2=>?_
 ·refine oB (I2 px bP) fun x5 _=>?_;refine oC (fun g4=>?_) fun g4=>?_
  ·exact oB (xG px bP) fun x8 _=>oS
  exact oS
 exact oS
def zB(fu:Nat):Prop:= ∀(plist:List aB),wl plist≤1073741824→Ok (vY fu plist) (fun r=>wl r.1≤wl plist)
theorem gL:bZ zB:=(bZ.ge 2147483648).imp fun fu hfu plist hpre=>by
 have:=(aU:wl ([]:List ByteArray)=0∧_)
 refine I9 plist 1 (fun i1 v3 hl2 hI3 _ _=>?_) ?_
 ·have:=aX plist
  have:=cN plist i1 hl2
  have:=aB.wt_eq (a3 plist i1)
  have:s_.size=0:=rfl
  refine oD (fun _=>oR) fun g4=>?_
  have:=A5 g4
  have:=aX (v3)
  have:=cA ((a3 plist i1).gAtom)
  have:=a6 ((a3 plist i1).gAtom)
  refine oG fun z5=>?_
  have:=bY v3 ([((a3 plist i1).gAtom)]:List ByteArray)
  exact nN
 intro v3 h1
 exact oS
def CI(fu:Nat):Prop:= ∀(ps:ByteArray),Ok (b9 fu ps) (fun r=>wt r=ps.size)
theorem bL:bZ CI:=(bZ.ge 2147483648).imp fun fu hfu ps=>by
 have:=(aU:wl ([]:List aB)=0∧_)
 have:=aB.wt_mk ps []
 exact oS
def FE(fu:Nat):Prop:= ∀(plist:List ByteArray),wl plist≤1073741824→Ok (AA fu plist) (fun r=>wl r≤wl plist)
theorem lG:bZ FE:=((bZ.ge 2147483648).and bL).imp fun fu ⟨hfu,bL⟩ plist hpre=>by
 have:=(aU:wl ([]:List aB)=0∧_)
 refine I9 plist 1 (fun i1 v3 hl2 hI3 _ _=>?_) ?_
 ·have:=aX plist
  have:=cN plist i1 hl2
  have:=a6 (a3 plist i1)
  refine oB (bL (a3 plist i1)) fun x7 h4=>?_
  have:=aX (v3)
  have:=cA x7
  refine oG fun z5=>?_
  have:=bY v3 ([x7]:List aB)
  exact nN
 intro v3 h1
 exact oS
def QZ(fu:Nat):Prop:= ∀(plist:List aB),wl plist≤1073741824→Ok (kK fu plist) (fun r=>wt r=wl plist)
theorem eG:bZ QZ:=(bZ.ge 2147483648).imp fun fu hfu plist hpre=>by
 have:=(aU:wl ([]:List aB)=0∧_)
 have:=aX (plist)
 refine oG fun z1=>?_
 have:s_.size=0:=rfl
 have:=bY ([]:List aB) plist
 have:=aB.wt_mk s_ (([])++plist)
 exact oS
def PK(fu:Nat):Prop:= ∀(pa pb:aB),wt pa≤1073741824→Ok (fA fu pa pb) (fun _=>True)
def w7(n:Nat)(m:lI):Prop:= ∀(pa pb:aB),wt pa<n→wt pa≤1073741824→Ok (m pa pb) (fun _=>True)
theorem NZ{n fu:Nat}(hfu:2147483648≤fu){r_sEqualSExpr:lI}(h_sEqualSExpr:w7 n r_sEqualSExpr):w7 (n+1) (xJ fu r_sEqualSExpr):=by
 intro pa pb hm hpre
 have:=aB.wt_eq pa
 have:=aB.wt_eq pb
 refine oN (fun _=>oS) fun g1=>?_
 have:=aX pa.gList
 have:=aX pb.gList
 refine oN (fun _=>oS) fun g2=>?_;refine AP ?_ ?_
 ·refine Ok.loop1 ?_;rintro i3 ⟨⟩ hl4
  have:=aX (pb.gList)
  refine oG fun z6=>?_
  have:=cN pa.gList i3 hl4
  have:=cN pb.gList i3 z6
  exact oB (h_sEqualSExpr (a3 pa.gList i3) (a3 pb.gList i3) bP bP) fun x8 _=>oW (fun _=>oR) fun g8=>nN
 rintro⟨⟩-
 exact oS
theorem P8(n:Nat):bZ fun fu=>w7 n (fA fu):=by
 induction n with
 |zero=>exact .all fun fu=>fun _ _ h=>absurd h (Nat.not_lt_zero _)
 |succ n ih=>exact bZ.succ ((ih.and (bZ.ge 2147483648)).imp fun fu ⟨h,hfu⟩=>fun pa pb=>by rw [fA];exact NZ hfu h pa pb)
theorem fT:bZ PK:=(P8 8589934592).imp fun fu h pa pb hpre=>h pa pb bP hpre
end Go.Proofs.YtpioomclpaiomaaGreat.W

namespace Go.Proofs.YtpioomclpaiomaaGreat.W
set_option linter.unusedSimpArgs false
set_option linter.unusedVariables false
set_option maxRecDepth 20000
set_option maxHeartbeats 4000000
open Go.RowKit Go.WalkArith Go.IntWalk
def MY(fu:Nat):Prop:= ∀(plist:List ByteArray) (ps:ByteArray),Ok (l7 fu plist ps) (fun _=>True)
theorem dG:bZ MY:=(bZ.ge 2147483648).imp fun fu hfu plist ps=>by
 refine AP ?_ ?_
 ·refine Ok.loop1 ?_;rintro i1 ⟨⟩ hl2
  have:=aX plist
  exact oD (fun _=>oR) fun g4=>nN
 rintro⟨⟩-
 exact oS
def PM(fu:Nat):Prop:= ∀(ps:ByteArray),Ok (xL fu ps) (fun _=>True)
theorem xE:bZ PM:=((bZ.ge 2147483648).and dG).imp fun fu ⟨hfu,dG⟩ ps=>by
 have:fU.size=3:=rfl
 have:fP.size=4:=rfl
 have:hH.size=5:=rfl
 have:uK.size=3:=rfl
 have:zU.size=2:=rfl
 have:AI.size=3:=rfl
 have:uA.size=4:=rfl
 have:AJ.size=3:=rfl
 have:m4.size=6:=rfl
 have:uB.size=4:=rfl
 have:nP.size=4:=rfl
 have:kF.size=5:=rfl
 have:wl ([fU,fP,hH,uK,zU,AI,uA,AJ,m4,uB,nP,kF]:List ByteArray)=58:=rfl
 exact oB (dG ([fU,fP,hH,uK,zU,AI,uA,AJ,m4,uB,nP,kF]:List ByteArray) ps) fun x2 _=>oS
def vE(fu:Nat):Prop:= ∀(ps:ByteArray),Ok (dH fu ps) (fun _=>True)
theorem bF:bZ vE:=(((bZ.ge 2147483648).and oJ).and xE).imp fun fu ⟨⟨hfu,oJ⟩,xE⟩ ps=>by
 refine oB (oJ ((ps.size:Nat):Int) 1 8) fun x2 _=>oW (fun _=>oS) fun g2=>oB (xE ps) fun x5 _=>oC (fun _=>oS) fun g4=>?_;refine AP ?_ ?_
 ·refine Ok.loop1 ?_;rintro i7 ⟨⟩ hl6
  refine oG fun z8=>?_;refine oD (fun g9=>?_) fun g9=>?_
  ·refine oW (fun g10=>?_) fun g10=>?_
   ·exact oD (fun _=>oR) fun g11=>oD (fun _=>oR) fun g12=>oD (fun _=>oR) fun g13=>nN
   exact nN
  exact oD (fun _=>oR) fun g14=>oD (fun _=>oR) fun g15=>oD (fun _=>oR) fun g16=>nN
 rintro⟨⟩-
 exact oS
def M0(fu:Nat):Prop:= ∀(plist:List ByteArray),Ok (AB fu plist) (fun _=>True)
theorem n0:bZ M0:=((bZ.ge 2147483648).and bF).imp fun fu ⟨hfu,bF⟩ plist=>by
 refine AP ?_ ?_
 ·refine Ok.loop1 ?_;rintro i1 ⟨⟩ hl2
  have:=aX plist
  have:=cN plist i1 hl2
  have:=a6 (a3 plist i1)
  exact oB (bF (a3 plist i1)) fun x5 _=>oW (fun _=>oR) fun g5=>nN
 rintro⟨⟩-
 exact oS
def A1(fu:Nat):Prop:= ∀(plist:List ByteArray),Ok (iZ fu plist) (fun _=>True)
theorem eB:bZ A1:=((bZ.ge 2147483648).and dG).imp fun fu ⟨hfu,dG⟩ plist=>by
 refine AP ?_ ?_
 ·refine Ok.loop1 ?_;rintro i1 ⟨⟩ hl2
  have:=aX plist
  refine oG fun z4=>?_
  have:=MS (0:Int).toNat (((i1:Nat):Int):Int).toNat plist
  have:=cN plist i1 hl2
  have:=a6 (a3 plist i1)
  exact oB (dG (List.drop (0:Int).toNat (List.take (((i1:Nat):Int):Int).toNat plist)) (a3 plist i1)) fun x6 _=>oC (fun _=>oR) fun g6=>nN
 rintro⟨⟩-
 exact oS
def M2(fu:Nat):Prop:= ∀(ps:ByteArray),Ok (l9 fu ps) (fun r=>wt r=ps.size)
theorem eR:bZ M2:=(bZ.ge 2147483648).imp fun fu hfu ps=>by
 have:=(aU:wl ([]:List aA)=0∧_)
 have:=aA.wt_mk 1 ps []
 exact oS
def M1(fu:Nat):Prop:= ∀(ps:ByteArray) (pargs:List aA),ps.size+wl pargs≤1073741824→Ok (jR fu ps pargs) (fun r=>wt r=ps.size+wl pargs)
theorem d2:bZ M1:=(bZ.ge 2147483648).imp fun fu hfu ps pargs hpre=>by
 have:=(aU:wl ([]:List aA)=0∧_)
 have:=aX (pargs)
 refine oG fun z1=>?_
 have:=bY ([]:List aA) pargs
 have:=aA.wt_mk 2 ps (([])++pargs)
 exact oS
def R1(fu:Nat):Prop:= ∀(pa0:aA),wt pa0≤67108864→Ok (k7 fu pa0) (fun r=>wt r+1≤8*(wt pa0+1))
def RU(n:Nat)(m:u2):Prop:= ∀(pa0:aA),wt pa0<n→wt pa0≤67108864→Ok (m pa0) (fun r=>wt r+1≤8*(wt pa0+1))
theorem afT{n fu:Nat}(hfu:2147483648≤fu)(bL:CI fu)(eG:QZ fu){r_sl5Sx:u2}(h_sl5Sx:RU n r_sl5Sx):RU (n+1) (UO fu r_sl5Sx):=by
 intro pa0 hm hpre
 refine AP ?_ ?_
 ·have:=aA.wt_eq pa0
  refine oD (fun g2=>?_) fun g2=>?_
  ·have:aeG.size=1:=rfl
   refine oG fun z3=>?_
   have:=eQ aeG pa0.gName
   exact oB (bL (aeG++pa0.gName)) fun x4 h4=>oL
  refine oD (fun g5=>?_) fun g5=>?_
  ·have:uK.size=3:=rfl
   refine oB (bL uK) fun x7 h6=>oB (bL pa0.gName) fun x9 h7=>?_
   have:=jO x7 x9
   exact oB (eG ([x7,x9]:List aB) bP) fun x11 h8=>oL
  refine oD (fun g9=>?_) fun g9=>?_
  ·have:=aX pa0.gArgs
   refine oD (fun g10=>?_) fun g10=>?_
   ·exact oB (bL pa0.gName) fun x15 h11=>oL
   exact oI
  exact oI
 rintro⟨⟩-
 refine Ok.sok (E:=fun v17=>wl v17≤6) ?_ ?_
 ·have:=aA.wt_eq pa0
  refine oD (fun g13=>?_) fun g13=>?_
  ·have:hH.size=5:=rfl
   refine oB (bL hH) fun x20 h14=>?_
   have:=(aU:wl ([]:List aB)=0∧_)
   have:=cA x20
   refine oG fun z15=>?_
   have:=bY ([]:List aB) ([x20]:List aB)
   exact oI
  have:=(aU:wl ([]:List aB)=0∧_)
  exact oI
 intro v17 h12
 have:=aA.wt_eq pa0
 refine oB (bL pa0.gName) fun x23 h16=>?_
 have:=aX (v17)
 have:=cA x23
 refine oG fun z17=>?_
 have:=bY v17 ([x23]:List aB)
 refine I9 pa0.gArgs 8 (fun i25 v27 hl19 hI20 _ _=>?_) ?_
 ·have:=aX pa0.gArgs
  have:=cN pa0.gArgs i25 hl19
  refine oB (h_sl5Sx (a3 pa0.gArgs i25) bP bP) fun x31 h21=>?_
  have:=aX (v27)
  have:=cA x31
  refine oG fun z22=>?_
  have:=bY v27 ([x31]:List aB)
  exact nN
 intro v27 h18
 have:s_.size=0:=rfl
 have:=aB.wt_mk s_ v27
 exact oS
theorem agW(n:Nat):bZ fun fu=>RU n (k7 fu):=by
 induction n with
 |zero=>exact .all fun fu=>fun _ h=>absurd h (Nat.not_lt_zero _)
 |succ n ih=>exact bZ.succ ((ih.and (((bZ.ge 2147483648).and bL).and eG)).imp fun fu ⟨h,⟨⟨hfu,bL⟩,eG⟩⟩=>fun pa0=>by rw [k7];exact afT hfu bL eG h pa0)
theorem gR:bZ R1:=(agW 8589934592).imp fun fu h pa0 hpre=>h pa0 bP hpre
def acQ(fu:Nat):Prop:= ∀(pt:aA) (pleft:Int),wt pt≤1073741824→Ok (nE fu pt pleft) (fun _=>True)
def IH(n:Nat)(m:s3):Prop:= ∀(pt:aA) (pleft:Int),wt pt<n→wt pt≤1073741824→Ok (m pt pleft) (fun _=>True)
theorem aa7{n fu:Nat}(hfu:2147483648≤fu){r_sl4Left:s3}(h_sl4Left:IH n r_sl4Left):IH (n+1) (KB fu r_sl4Left):=by
 intro pt pleft hm hpre
 refine oEN (fun i1 v2 hl2=>?_) ?_
 ·have:=aA.wt_eq pt
  have:=aX pt.gArgs
  refine oD (fun g4=>?_) fun g4=>?_
  ·have:=cN pt.gArgs i1 hl2
   exact oB (h_sl4Left (a3 pt.gArgs i1) v2 bP bP) fun x7 _=>nN
  exact oK
 intro v2 _
 exact oS
theorem ad7(n:Nat):bZ fun fu=>IH n (nE fu):=by
 induction n with
 |zero=>exact .all fun fu=>fun _ _ h=>absurd h (Nat.not_lt_zero _)
 |succ n ih=>exact bZ.succ ((ih.and (bZ.ge 2147483648)).imp fun fu ⟨h,hfu⟩=>fun pt pleft=>by rw [nE];exact aa7 hfu h pt pleft)
theorem I6:bZ acQ:=(ad7 8589934592).imp fun fu h pt pleft hpre=>h pt pleft bP hpre
def RZ(fu:Nat):Prop:= ∀(pt:aA),wt pt≤1073741824→Ok (iU fu pt) (fun _=>True)
def y4(n:Nat)(m:mO):Prop:= ∀(pt:aA),wt pt<n→wt pt≤1073741824→Ok (m pt) (fun _=>True)
theorem QL{n fu:Nat}(hfu:2147483648≤fu)(pG:MZ fu){r_sTypeDepth:mO}(h_sTypeDepth:y4 n r_sTypeDepth):y4 (n+1) (zT fu r_sTypeDepth):=by
 intro pt hm hpre
 refine oEN (fun i1 v2 hl2=>?_) ?_
 ·have:=aA.wt_eq pt
  have:=aX pt.gArgs
  have:=cN pt.gArgs i1 hl2
  refine oB (h_sTypeDepth (a3 pt.gArgs i1) bP bP) fun x6 _=>?_
  have:=eJ (1+x6)
  exact oB (pG v2 (aQ (1+x6))) fun x8 _=>nN
 intro v2 _
 exact oS
theorem SY(n:Nat):bZ fun fu=>y4 n (iU fu):=by
 induction n with
 |zero=>exact .all fun fu=>fun _ h=>absurd h (Nat.not_lt_zero _)
 |succ n ih=>exact bZ.succ ((ih.and ((bZ.ge 2147483648).and pG)).imp fun fu ⟨h,⟨hfu,pG⟩⟩=>fun pt=>by rw [iU];exact QL hfu pG h pt)
theorem zN:bZ RZ:=(SY 8589934592).imp fun fu h pt hpre=>h pt bP hpre
def Q3(fu:Nat):Prop:= ∀(ps:ByteArray),Ok (C8 fu ps) (fun _=>True)
theorem u9:bZ Q3:=(bZ.ge 2147483648).imp fun fu hfu ps=>by
 exact oD (fun _=>oS) fun g1=>oS
def acO(fu:Nat):Prop:= ∀(pa0:aA),wt pa0≤1073741824→Ok (nD fu pa0) (fun _=>True)
def IG(n:Nat)(m:oY):Prop:= ∀(pa0:aA),wt pa0<n→wt pa0≤1073741824→Ok (m pa0) (fun _=>True)
theorem aa3{n fu:Nat}(hfu:2147483648≤fu)(bF:vE fu)(u9:Q3 fu){r_sl4Form:oY}(h_sl4Form:IG n r_sl4Form):IG (n+1) (KA fu r_sl4Form):=by
 intro pa0 hm hpre
 have:=aA.wt_eq pa0
 refine oB (bF pa0.gName) fun x2 _=>?_;refine AP ?_ ?_
 ·refine AP ?_ ?_
  ·exact oD (fun _=>oI) fun g4=>oI
  intro v4 _
  refine oC (fun g5=>?_) fun g5=>?_
  ·exact oC (fun _=>oI) fun g6=>oI
  refine oD (fun g7=>?_) fun g7=>?_
  ·exact oC (fun _=>oI) fun g8=>oI
  refine oD (fun g9=>?_) fun g9=>?_
  ·refine oC (fun g10=>?_) fun g10=>?_
   ·exact oD (fun _=>oI) fun g11=>oB (u9 pa0.gName) fun x14 _=>oC (fun _=>oI) fun g13=>oI
   exact oB (u9 pa0.gName) fun x17 _=>oC (fun _=>oI) fun g15=>oI
  exact oL
 intro v3 _
 refine oEN (fun i19 v20 hl17=>?_) ?_
 ·have:=aX pa0.gArgs
  refine oC (fun g19=>?_) fun g19=>?_
  ·have:=cN pa0.gArgs i19 hl17
   exact oB (h_sl4Form (a3 pa0.gArgs i19) bP bP) fun x25 _=>nN
  exact nN
 intro v20 _
 exact oS
theorem ad5(n:Nat):bZ fun fu=>IG n (nD fu):=by
 induction n with
 |zero=>exact .all fun fu=>fun _ h=>absurd h (Nat.not_lt_zero _)
 |succ n ih=>exact bZ.succ ((ih.and (((bZ.ge 2147483648).and bF).and u9)).imp fun fu ⟨h,⟨⟨hfu,bF⟩,u9⟩⟩=>fun pa0=>by rw [nD];exact aa3 hfu bF u9 h pa0)
theorem I5:bZ acO:=(ad5 8589934592).imp fun fu h pa0 hpre=>h pa0 bP hpre
def A4(fu:Nat):Prop:= ∀(pt:aA),wt pt≤1073741824→Ok (jA fu pt) (fun _=>True)
theorem eC:bZ A4:=((((bZ.ge 2147483648).and I6).and zN).and I5).imp fun fu ⟨⟨⟨hfu,I6⟩,zN⟩,I5⟩ pt hpre=>by
 refine oB (I6 pt 60 bP) fun x2 _=>?_;refine oD (fun g2=>?_) fun g2=>?_
 ·refine oB (zN pt bP) fun x5 _=>?_;refine oD (fun g4=>?_) fun g4=>?_
  ·exact oB (I5 pt bP) fun x8 _=>oS
  exact oS
 exact oS
def GU(fu:Nat):Prop:= ∀(pa pb:aA),wt pa≤1073741824→Ok (eY fu pa pb) (fun _=>True)
def uM(n:Nat)(m:iR):Prop:= ∀(pa pb:aA),2*wt pa+1<n→wt pa≤1073741824→Ok (m pa pb) (fun _=>True)
def CH(n:Nat)(m:nF):Prop:= ∀(pa pb:List aA),2*wl pa<n→wl pa≤1073741824→Ok (m pa pb) (fun _=>True)
theorem QB{n fu:Nat}(hfu:2147483648≤fu){r_sEqualType:iR}(h_sEqualType:uM n r_sEqualType){r_sl4Same:nF}(h_sl4Same:CH n r_sl4Same):uM (n+1) (uX fu r_sEqualType r_sl4Same):=by
 intro pa pb hm hpre
 have:=aA.wt_eq pa
 have:=aA.wt_eq pb
 refine oD (fun g1=>?_) fun g1=>?_
 ·refine oD (fun g2=>?_) fun g2=>?_
  ·exact oB (h_sl4Same pa.gArgs pb.gArgs bP bP) fun x4 _=>oS
  exact oS
 exact oS
theorem abA{n fu:Nat}(hfu:2147483648≤fu){r_sEqualType:iR}(h_sEqualType:uM n r_sEqualType){r_sl4Same:nF}(h_sl4Same:CH n r_sl4Same):CH (n+1) (yY fu r_sEqualType r_sl4Same):=by
 intro pa pb hm hpre
 have:=aX pa
 have:=aX pb
 refine oN (fun _=>oS) fun g1=>?_;refine AP ?_ ?_
 ·refine Ok.loop1 ?_;rintro i2 ⟨⟩ hl3
  have:=aX (pb)
  refine oG fun z5=>?_
  have:=cN pa i2 hl3
  have:=cN pb i2 z5
  exact oB (h_sEqualType (a3 pa i2) (a3 pb i2) bP bP) fun x7 _=>oW (fun _=>oR) fun g7=>nN
 rintro⟨⟩-
 exact oS
theorem SS(n:Nat):bZ fun fu=>uM n (eY fu)∧CH n (jH fu):=by
 induction n with
 |zero=>exact .all fun fu=>⟨fun _ _ h=>absurd h (Nat.not_lt_zero _),fun _ _ h=>absurd h (Nat.not_lt_zero _)⟩
 |succ n ih=>exact bZ.succ ((ih.and (bZ.ge 2147483648)).imp fun fu ⟨h,hfu⟩=>⟨fun pa pb=>by rw [eY];exact QB hfu h.1 h.2 pa pb,fun pa pb=>by rw [jH];exact abA hfu h.1 h.2 pa pb⟩)
theorem rB:bZ GU:=(SS 8589934592).imp fun fu h pa pb hpre=>h.1 pa pb bP hpre
def acS(fu:Nat):Prop:= ∀(pt:aA) (pout:List ByteArray),wt pt+wl pout≤268435456→Ok (nG fu pt pout) (fun r=>wl r≤wl pout+wt pt+1)
def II(n:Nat)(m:qW):Prop:= ∀(pt:aA) (pout:List ByteArray),wt pt<n→wt pt+wl pout≤268435456→Ok (m pt pout) (fun r=>wl r≤wl pout+wt pt+1)
theorem abF{n fu:Nat}(hfu:2147483648≤fu)(dG:MY fu){r_sl4Vars:qW}(h_sl4Vars:II n r_sl4Vars):II (n+1) (KC fu r_sl4Vars):=by
 intro pt pout hm hpre
 have:=aA.wt_eq pt
 refine Ok.sok (E:=fun v2=>wl v2+wl pt.gArgs≤wl pout+wt pt+1) ?_ ?_
 ·refine oD (fun g2=>?_) fun g2=>?_
  ·refine oB (dG pout pt.gName) fun x5 _=>?_;refine oW (fun g4=>?_) fun g4=>?_
   ·have:=aX (pout)
    have:=cA pt.gName
    have:=a6 pt.gName
    refine oG fun z5=>?_
    have:=bY pout ([pt.gName]:List ByteArray)
    exact oI
   exact oI
  exact oI
 intro v2 h1
 refine I9 pt.gArgs 1 (fun i8 v10 hl7 hI8 _ _=>?_) ?_
 ·have:=aX pt.gArgs
  have:=cN pt.gArgs i8 hl7
  exact oB (h_sl4Vars (a3 pt.gArgs i8) v10 bP bP) fun x14 h9=>nN
 intro v10 h6
 exact oS
theorem aeA(n:Nat):bZ fun fu=>II n (nG fu):=by
 induction n with
 |zero=>exact .all fun fu=>fun _ _ h=>absurd h (Nat.not_lt_zero _)
 |succ n ih=>exact bZ.succ ((ih.and ((bZ.ge 2147483648).and dG)).imp fun fu ⟨h,⟨hfu,dG⟩⟩=>fun pt pout=>by rw [nG];exact abF hfu dG h pt pout)
theorem I7:bZ acS:=(aeA 8589934592).imp fun fu h pt pout hpre=>h pt pout bP hpre
def IL(fu:Nat):Prop:= ∀(pt:aA),wt pt≤268435456→Ok (sN fu pt) (fun r=>wl r≤wt pt+1)
theorem sA:bZ IL:=((bZ.ge 2147483648).and I7).imp fun fu ⟨hfu,I7⟩ pt hpre=>by
 have:=(aU:wl ([]:List ByteArray)=0∧_)
 exact oB (I7 pt ([]:List ByteArray) bP) fun x2 h1=>oS
def IK(fu:Nat):Prop:= ∀(pt:aA),wt pt≤1073741824→Ok (eS fu pt) (fun _=>True)
def rX(n:Nat)(m:iI):Prop:= ∀(pt:aA),wt pt<n→wt pt≤1073741824→Ok (m pt) (fun _=>True)
theorem HU{n fu:Nat}(hfu:2147483648≤fu){r_sHasProjection:iI}(h_sHasProjection:rX n r_sHasProjection):rX (n+1) (sM fu r_sHasProjection):=by
 intro pt hm hpre
 refine AP ?_ ?_
 ·refine Ok.loop1 ?_;rintro i1 ⟨⟩ hl2
  have:=aA.wt_eq pt
  have:=aX pt.gArgs
  have:=cN pt.gArgs i1 hl2
  exact oB (h_sHasProjection (a3 pt.gArgs i1) bP bP) fun x5 _=>oC (fun _=>oR) fun g5=>nN
 rintro⟨⟩-
 exact oS
theorem JF(n:Nat):bZ fun fu=>rX n (eS fu):=by
 induction n with
 |zero=>exact .all fun fu=>fun _ h=>absurd h (Nat.not_lt_zero _)
 |succ n ih=>exact bZ.succ ((ih.and (bZ.ge 2147483648)).imp fun fu ⟨h,hfu⟩=>fun pt=>by rw [eS];exact HU hfu h pt)
theorem jZ:bZ IK:=(JF 8589934592).imp fun fu h pt hpre=>h pt bP hpre
def A2(fu:Nat):Prop:= ∀(pt:aA) (pv:ByteArray),wt pt+pv.size≤1073741824→Ok (dO fu pt pv) (fun _=>True)
def nS(n:Nat)(m:eU):Prop:= ∀(pt:aA) (pv:ByteArray),wt pt<n→wt pt+pv.size≤1073741824→Ok (m pt pv) (fun _=>True)
theorem AV{n fu:Nat}(hfu:2147483648≤fu){r_sCountTypeVariable:eU}(h_sCountTypeVariable:nS n r_sCountTypeVariable):nS (n+1) (n4 fu r_sCountTypeVariable):=by
 intro pt pv hm hpre
 refine AP ?_ ?_
 ·refine oD (fun g2=>?_) fun g2=>?_
  ·exact oD (fun _=>oI) fun g3=>oI
  exact oI
 intro v1 _
 refine oEN (fun i4 v5 hl5=>?_) ?_
 ·have:=aA.wt_eq pt
  have:=aX pt.gArgs
  have:=cN pt.gArgs i4 hl5
  exact oB (h_sCountTypeVariable (a3 pt.gArgs i4) pv bP bP) fun x9 _=>nN
 intro v5 _
 exact oS
theorem BT(n:Nat):bZ fun fu=>nS n (dO fu):=by
 induction n with
 |zero=>exact .all fun fu=>fun _ _ h=>absurd h (Nat.not_lt_zero _)
 |succ n ih=>exact bZ.succ ((ih.and (bZ.ge 2147483648)).imp fun fu ⟨h,hfu⟩=>fun pt pv=>by rw [dO];exact AV hfu h pt pv)
theorem nY:bZ A2:=(BT 8589934592).imp fun fu h pt pv hpre=>h pt pv bP hpre
def U1(fu:Nat):Prop:= ∀(pv:ByteArray) (pt:aA),pv.size+wt pt≤1073741824→Ok (BV fu pv pt) (fun _=>True)
theorem BH:bZ U1:=((bZ.ge 2147483648).and nY).imp fun fu ⟨hfu,nY⟩ pv pt hpre=>by
 exact oB (nY pt pv bP) fun x2 _=>oS
end Go.Proofs.YtpioomclpaiomaaGreat.W
