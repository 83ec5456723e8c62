/- Words, rules and walks of several kinds, laid together: MaP3, MaP4, MaP5. No conditions but those that each theorem states. -/
import Derived.Test.YtpioomclpaiomaaGreatQh34fcd349
import Derived.Test.YtpioomclpaiomaaGreatQhbde349b7
import Derived.Test.YtpioomclpaiomaaGreatQhae6a8691
set_option linter.unusedSimpArgs false
set_option linter.unusedVariables false
namespace Go.Proofs.YtpioomclpaiomaaGreat.W
set_option maxRecDepth 100000
set_option maxHeartbeats 40000000
noncomputable section
open Go.RowKit Go.Proofs
set_option linter.unusedSimpArgs false
set_option linter.unusedVariables false
attribute [local irreducible] lt
def ST(m:Int→Option ByteArray):Prop:= ∀(pn:Int) (r:ByteArray),m pn=some r→cE Tryz.prog 281 [pI pn] (pS r:PV)
def EQ(fu:Nat)(pn:Int):(Int×ByteArray)→Option (LR (Int×ByteArray) ByteArray):=
 fun(v2,v3)=>sw (!decide ((v2:Int)=0))
 (sw (decide (((v2).tmod 10:Int)<0))
 (gd ((bytesStr ([(CD (aQ (48+(aQ (0-((v2).tmod 10))))))]:List UInt8)).size+(v3).size≤1099511627776)
 (some (.next ((aQ ((v2).tdiv 10)),((bytesStr ([(CD (aQ (48+(aQ (0-((v2).tmod 10))))))]:List UInt8))++v3)))))
 (gd ((bytesStr ([(CD (aQ (48+((v2).tmod 10))))]:List UInt8)).size+(v3).size≤1099511627776)
 (some (.next ((aQ ((v2).tdiv 10)),((bytesStr ([(CD (aQ (48+((v2).tmod 10))))]:List UInt8))++v3))))))
 (some (.brk (v2,v3)))
def ER(fu:Nat)(pn:Int):Option (ByteArray⊕(Int×ByteArray)):=
 loopW (EQ fu pn) fu (pn,s_)
def mK(fu:Nat)(pn:Int):Option ByteArray:=
 sw (decide ((pn:Int)=0))
 (some s_0)
 (so (ER fu pn) (fun(v2,v3)=>
 sw (decide ((pn:Int)<0))
 (gd ((AY).size+(v3).size≤1099511627776)
 (some (AY++v3)))
 (some v3)))
theorem xK(fu:Nat):ST (mK fu):=by
 intro pn r H
 have H:=fI H
 refine qI Tryz.func281 (fun C hC=>?_)
 refine qS (qR (q1 aF (qN ?_)))
 iterate 2 refine qS ?_
 refine qR (q1 aF (q1 eM (qN ?_)))
 refine bA H (fun h1 H=>?_) (fun h1 H=>?_)
 ·refine qS (qR (q1 aF (qN (aP.ret ?_))))
  obtain rfl:_=r:=(aY H:)
  exact bM
 refine aP.skip (qS (qR (q1 aF (q1 hZ (q1 aF (qN (qS (qR (q1 aF (qN (qS ?_)))))))))))
 refine RC (σ:=Int×ByteArray) (fun(v2,v3)=>⟨[(0,pI v2),(2,pS s_),(3,pB (decide ((pn:Int)<0))),(4,pS v3)],⟨[],[]⟩⟩) (fun(v2,v3)=>⟨[(2,pS s_),(3,pB (decide ((pn:Int)<0))),(4,pS v3)],⟨[],[]⟩⟩) (gU H) ?_ ?_
 ·rintro k4 ⟨v2,v3⟩ H
  iterate 2 refine qS ?_
  refine qR (q1 aF (q1 MM (qN ?_)))
  refine bA H (fun h5 H=>?_) (fun h5 H=>?_)
  ·refine aP.skip (aP.block (qS (qR (q1 aF (q1 (aV.remI (a:=v2) (b:=10) rfl rfl rfl rfl (by decide)) (q1 aF (qN ?_)))))))
   iterate 2 refine qS ?_
   refine qR (q1 aF (q1 hZ (qN ?_)))
   refine bA H (fun h6 H=>?_) (fun h6 H=>?_)
   ·refine qR (q1 aF (q1 AF (q1 aF (qN (qS (qR (q1 aF (q1 ML (q1 (aV.convU8 (a:=aQ (48+(aQ (0-((v2).tmod 10))))) rfl rfl rfl ⟨_,Tryz.underlying3⟩ Tryz.underlying5) (q1 (iA ([(CD (aQ (48+(aQ (0-((v2).tmod 10))))))]:List UInt8) VI zr5) (q1 (aV.bytesStr rfl rfl rfl rfl Tryz.underlying22 Tryz.underlying5 Tryz.underlying9) (q1 aF (dF H fun z7 H=>?_)))))))))))))
    refine q1 (aV.addS rfl rfl rfl rfl (Nat.le_trans z7 (by decide))) (q1 aF (qN (qR (q1 aF (q1 (aV.quoI (a:=v2) (b:=10) rfl rfl rfl rfl (by decide)) (q1 aF (qN ?_)))))))
    exact lwN ⟨_,(aY H:),b0⟩
   refine aP.skip (qS (qR (q1 aF (q1 ML (q1 (aV.convU8 (a:=aQ (48+((v2).tmod 10))) rfl rfl rfl ⟨_,Tryz.underlying3⟩ Tryz.underlying5) (q1 (iA ([(CD (aQ (48+((v2).tmod 10))))]:List UInt8) VI zr5) (q1 (aV.bytesStr rfl rfl rfl rfl Tryz.underlying22 Tryz.underlying5 Tryz.underlying9) (q1 aF (dF H fun z8 H=>(q1 (aV.addS rfl rfl rfl rfl (Nat.le_trans z8 (by decide))) (q1 aF (qN (qR ?_)))))))))))))
   refine q1 aF (q1 (aV.quoI (a:=v2) (b:=10) rfl rfl rfl rfl (by decide)) (q1 aF (qN ?_)))
   exact lwN ⟨_,(aY H:),b0⟩
  refine aP.exit ?_;exact lwB ⟨_,(aY H:),b0⟩
 rintro⟨v2,v3⟩ H
 iterate 2 refine qS ?_
 refine qR (q1 aF (qN ?_))
 refine bA H (fun h9 H=>?_) (fun h9 H=>?_)
 ·refine qS (qR (q1 aF (dF H fun z10 H=>(q1 (aV.addS rfl rfl rfl rfl (Nat.le_trans z10 (by decide))) (q1 aF (qN (aP.ret ?_)))))))
  obtain rfl:_=r:=(aY H:)
  exact bM
 refine aP.skip (qS (qR ?_))
 iterate 2 refine q1 aF ?_
 refine qN (aP.ret ?_)
 obtain rfl:_=r:=(aY H:)
 exact bM
def adV(m:ByteArray→Int→Option (Int×Bool)):Prop:= ∀(ps:ByteArray) (pmost:Int) (r:Int×Bool),m ps pmost=some r→cE Tryz.prog 279 [pS ps,pI pmost] (.tup [pI r.1,pB r.2]:PV)
def OP(fu:Nat)(ps:ByteArray)(pmost:Int):Option ((Int×Bool)⊕ByteArray):=
 sw (decide ((((zC ps 0).toNat:Int):Int)=45))
 (gd ((0:Int)≤1∧(1:Int)≤((ps.size:Nat):Int)∧(((ps.size:Nat):Int):Int)≤((ps.size:Nat):Int))
 (some (.inr (ps.extract (1:Int).toNat (((ps.size:Nat):Int):Int).toNat))))
 (some (.inr ps))
def OR(fu:Nat)(ps:ByteArray)(pmost:Int)(v3:ByteArray):Nat→Int→Option (LR Int (Int×Bool)):=
 fun i8 v9=>gd (i8<(v3).size)
 (sw (decide ((((zC v3 i8).toNat:Int):Int)<48))
 (some (.ret (0,false)))
 (sw (decide ((((zC v3 i8).toNat:Int):Int)>57))
 (some (.ret (0,false)))
 (some (.next (aQ ((aQ (10*v9))+((CD (((zC v3 i8).toNat:Int)-48)).toNat:Int)))))))
def OT(fu:Nat)(ps:ByteArray)(pmost:Int)(v3:ByteArray):Option ((Int×Bool)⊕Int):=
 loopN (OR fu ps pmost v3) (v3.size-0) 0 0
def OQ(fu:Nat)(ps:ByteArray)(pmost:Int)(v3:ByteArray)(v9:Int):Option ((Int×Bool)⊕Int):=
 sw (decide ((((zC ps 0).toNat:Int):Int)=45))
 (some (.inr (aQ (0-v9))))
 (some (.inr v9))
def OS(fu:Nat)(ps:ByteArray)(pmost:Int):Nat→Int→Option (LR Int (Int×Bool)):=
 fun i22 v23=>gd (i22<(ps).size)
 (sw (decide ((((zC ps i22).toNat:Int):Int)<48))
 (some (.ret (0,false)))
 (sw (decide ((((zC ps i22).toNat:Int):Int)>57))
 (some (.ret (0,false)))
 (some (.next (aQ ((aQ (10*v23))+((CD (((zC ps i22).toNat:Int)-48)).toNat:Int)))))))
def OU(fu:Nat)(ps:ByteArray)(pmost:Int):Option ((Int×Bool)⊕Int):=
 loopN (OS fu ps pmost) (ps.size-0) 0 0
def J7(fu:Nat)(ps:ByteArray)(pmost:Int):Option (Int×Bool):=
 sw (decide ((((ps.size:Nat):Int):Int)>0))
 (gd (0<(ps).size)
 (so (OP fu ps pmost) (fun v3=>
 sw (decide ((((v3.size:Nat):Int):Int)<1))
 (some (0,false))
 (sw (decide ((((v3.size:Nat):Int):Int)>pmost))
 (some (0,false))
 (so (OT fu ps pmost v3) (fun v9=>
 so (OQ fu ps pmost v3 v9) (fun v15=>
 bd (mK fu v15) (fun x18=>
 sw (!decide (x18=ps))
 (some (0,false))
 (some (v15,true))))))))))
 (sw (decide ((((ps.size:Nat):Int):Int)<1))
 (some (0,false))
 (sw (decide ((((ps.size:Nat):Int):Int)>pmost))
 (some (0,false))
 (so (OU fu ps pmost) (fun v23=>
 bd (mK fu v23) (fun x30=>
 sw (!decide (x30=ps))
 (some (0,false))
 (some (v23,true)))))))
theorem aaI(fu:Nat):adV (J7 fu):=by
 intro ps pmost r H
 have H:=fI H
 refine qI Tryz.func279 (fun C hC=>?_)
 refine qS (qR ?_)
 iterate 2 refine q1 aF ?_
 refine qN (qS (qR (q1 aF (q1 (aV.lenS rfl rfl rfl Tryz.underlying9) (q1 IB (q1 aF ?_))))))
 refine d9 13 H (fun g1 H=>?_) fun g1 H=>?_
 ·refine qg g1 aF (dF H fun z2 H=>(qg g1 (aV.indexS (k:=0) rfl rfl rfl rfl z2 Tryz.underlying9) (qg g1 eM (q1 (bR g1) (q1 aF (qN (qS (qR ?_))))))))
  iterate 2 refine q1 aF ?_
  refine qN (qS ?_)
  refine o7 (σ:=ByteArray) (fun v3=>⟨[(0,pS ps),(1,pI pmost),(4,pI 0),(5,pB false),(6,pB (decide ((((zC ps 0).toNat:Int):Int)=45))),(7,pS v3)],⟨[],[]⟩⟩) (gU H) (fun H=>?_) ?_
  ·refine qS (qR (q1 aF (qN ?_)))
   refine bA H (fun h4 H=>?_) (fun h4 H=>?_)
   ·refine qR (q1 aF (dF H fun z5 H=>(q1 (aV.sliceS (l:=1) (k:=((ps.size:Nat):Int)) rfl rfl rfl rfl rfl z5 Tryz.underlying9) (q1 aF (qN ?_)))))
    exact dP ⟨_,(aY H:),b0⟩
   refine aP.skip ?_;exact dP ⟨_,(aY H:),b0⟩
  rintro v3 H
  iterate 2 refine qS ?_
  refine qR (q1 aF (q1 (aV.lenS rfl rfl rfl Tryz.underlying9) (q1 hZ (q1 aF ?_))))
  refine d9 25 H (fun g6 H=>?_) fun g6 H=>?_
  ·have g6n:v3.size<1:=by have:=of_decide_eq_true g6;omega
   iterate 4 refine qk g6 ?_
   refine q1 (bR g6) (qN (dV rfl (qS (qR ?_))))
   iterate 2 refine q1 aF ?_
   refine qN (aP.ret ?_)
   obtain rfl:_=r:=(aY H:)
   exact lB
  refine qg g6 aF (qg g6 (aV.lenS rfl rfl rfl Tryz.underlying9) (qg g6 aF (qg g6 IB (q1 (b5 g6) (qN ?_)))))
  refine bA H (fun h7 H=>?_) (fun h7 H=>?_)
  ·refine qS (qR ?_)
   iterate 2 refine q1 aF ?_
   refine qN (aP.ret ?_)
   obtain rfl:_=r:=(aY H:)
   exact lB
  refine aP.skip (qS (qR (q1 aF (qN ?_))))
  iterate 2 refine qS ?_
  refine qR (q1 aF (qN ?_))
  refine szF 7 (fun hl10=>?_)
  refine cM (σ:=Int) (fun i8 v9=>⟨[(0,pS ps),(4,pI 0),(5,pB false),(6,pB (decide ((((zC ps 0).toNat:Int):Int)=45))),(7,pS v3),(8,pI v9),(9,pN i8)],⟨[],[]⟩⟩) (fun v9=>⟨[(0,pS ps),(4,pI 0),(5,pB false),(6,pB (decide ((((zC ps 0).toNat:Int):Int)=45))),(8,pI v9)],⟨[],[]⟩⟩) (gU H) ?_ ?_
  ·rintro i8 v9 H
   iterate 2 refine qS ?_
   refine qR ?_
   iterate 2 refine q1 aF ?_
   refine q1 (aV.lenS rfl rfl rfl Tryz.underlying9) (q1 hZ (qN ?_))
   refine eW H (fun h11 h11l H=>?_) (fun h11 H=>?_)
   ·have h11n:i8<v3.size:=by have:=of_decide_eq_true h11;omega
    refine aP.skip (qS (aP.block ?_))
    iterate 2 refine qS ?_
    refine qR ?_
    iterate 2 refine q1 aF ?_
    refine dF H fun z12 H=>(q1 (aV.indexS (k:=i8) rfl rfl rfl rfl z12 Tryz.underlying9) (q1 hZ (q1 aF ?_)))
    refine d9 41 H (fun g13 H=>?_) fun g13 H=>?_
    ·refine qk g13 ?_
     iterate 3 refine qk g13 ?_
     refine q1 (bR g13) (qN (dV rfl (qS (qR ?_))))
     iterate 2 refine q1 aF ?_
     refine qN (aP.ret ?_)
     obtain rfl:_=r:=(rG (aY H):)
     exact lB
    iterate 2 refine qg g13 aF ?_
    refine qg g13 (aV.indexS (k:=i8) rfl rfl rfl rfl z12 Tryz.underlying9) (qg g13 IB (q1 (b5 g13) (qN ?_)))
    refine bA H (fun h14 H=>?_) (fun h14 H=>?_)
    ·refine qS (qR ?_)
     iterate 2 refine q1 aF ?_
     refine qN (aP.ret ?_)
     obtain rfl:_=r:=(rG (aY H):)
     exact lB
    refine aP.skip (qR (q1 aF (q1 (aV.mulW rfl rfl rfl rfl) ?_)))
    iterate 2 refine q1 aF ?_
    refine q1 (aV.indexS (k:=i8) rfl rfl rfl rfl z12 Tryz.underlying9) (q1 (aV.subU8 rfl rfl rfl rfl) ?_)
    refine q1 (aV.convI rfl rfl rfl ⟨_,Tryz.underlying5⟩ Tryz.underlying3 (by first|omega|(have:=UInt8.toNat_lt (CD (((zC v3 i8).toNat:Int)-48));omega)) (by first|omega|(have:=UInt8.toNat_lt (CD (((zC v3 i8).toNat:Int)-48));omega))) ?_;refine q1 ML (q1 aF (qN (qR (q1 aF (q1 (aV.addI rfl rfl rfl rfl (c:=((i8+1:Nat):Int)) (by omega) (by omega)) (q1 aF (qN ?_)))))))
    exact iY h11l ⟨_,(aY H:),b0⟩
   refine aP.exit ?_;exact lS ⟨_,H,b0⟩
  rintro v9 H
  refine qS ?_;refine o7 (σ:=Int) (fun v15=>⟨[(0,pS ps),(4,pI 0),(5,pB false),(8,pI v15)],⟨[],[]⟩⟩) (gU H) (fun H=>?_) ?_
  ·refine qS (qR (q1 aF (qN ?_)))
   refine bA H (fun h16 H=>?_) (fun h16 H=>?_)
   ·refine qR (q1 aF (q1 AF (q1 aF (qN ?_))))
    exact dP ⟨_,(aY H:),b0⟩
   refine aP.skip ?_;exact dP ⟨_,(aY H:),b0⟩
  rintro v15 H
  iterate 2 refine qS ?_
  refine qR (q1 aF (bO H fun x18 z17 H=>(q1 (bI Tryz.func281 (xK fu v15 _ z17)) (q1 aF (q1 MN (qN ?_))))))
  refine bA H (fun h19 H=>?_) (fun h19 H=>?_)
  ·refine qS (qR ?_)
   iterate 2 refine q1 aF ?_
   refine qN (aP.ret ?_)
   obtain rfl:_=r:=(aY H:)
   exact lB
  refine aP.skip (qS (qR ?_))
  iterate 3 refine q1 aF ?_
  refine qN (aP.ret ?_)
  obtain rfl:_=r:=(aY H:)
  exact lB
 iterate 3 refine qk g1 ?_
 refine q1 (b5 g1) (q1 aF (qN (qS (qR ?_))))
 iterate 2 refine q1 aF ?_
 refine qN ?_
 iterate 2 refine qS ?_
 refine qR (q1 aF (qN (iX rfl (aP.skip ?_))))
 iterate 2 refine qS ?_
 refine qR (q1 aF (q1 (aV.lenS rfl rfl rfl Tryz.underlying9) (q1 hZ (q1 aF ?_))))
 refine d9 25 H (fun g20 H=>?_) fun g20 H=>?_
 ·have g20n:ps.size<1:=by have:=of_decide_eq_true g20;omega
  iterate 4 refine qk g20 ?_
  refine q1 (bR g20) (qN (dV rfl (qS (qR ?_))))
  iterate 2 refine q1 aF ?_
  refine qN (aP.ret ?_)
  obtain rfl:_=r:=(aY H:)
  exact lB
 refine qg g20 aF (qg g20 (aV.lenS rfl rfl rfl Tryz.underlying9) (qg g20 aF (qg g20 IB (q1 (b5 g20) (qN ?_)))))
 refine bA H (fun h21 H=>?_) (fun h21 H=>?_)
 ·refine qS (qR ?_)
  iterate 2 refine q1 aF ?_
  refine qN (aP.ret ?_)
  obtain rfl:_=r:=(aY H:)
  exact lB
 refine aP.skip (qS (qR (q1 aF (qN ?_))))
 iterate 2 refine qS ?_
 refine qR (q1 aF (qN ?_))
 refine szF 0 (fun hl24=>?_)
 refine cM (σ:=Int) (fun i22 v23=>⟨[(0,pS ps),(4,pI 0),(5,pB false),(6,pB false),(7,pS ps),(8,pI v23),(9,pN i22)],⟨[],[]⟩⟩) (fun v23=>⟨[(0,pS ps),(4,pI 0),(5,pB false),(6,pB false),(8,pI v23)],⟨[],[]⟩⟩) (gU H) ?_ ?_
 ·rintro i22 v23 H
  iterate 2 refine qS ?_
  refine qR ?_
  iterate 2 refine q1 aF ?_
  refine q1 (aV.lenS rfl rfl rfl Tryz.underlying9) (q1 hZ (qN ?_))
  refine eW H (fun h25 h25l H=>?_) (fun h25 H=>?_)
  ·have h25n:i22<ps.size:=by have:=of_decide_eq_true h25;omega
   refine aP.skip (qS (aP.block ?_))
   iterate 2 refine qS ?_
   refine qR ?_
   iterate 2 refine q1 aF ?_
   refine dF H fun z26 H=>(q1 (aV.indexS (k:=i22) rfl rfl rfl rfl z26 Tryz.underlying9) (q1 hZ (q1 aF ?_)))
   refine d9 41 H (fun g27 H=>?_) fun g27 H=>?_
   ·refine qk g27 ?_
    iterate 3 refine qk g27 ?_
    refine q1 (bR g27) (qN (dV rfl (qS (qR ?_))))
    iterate 2 refine q1 aF ?_
    refine qN (aP.ret ?_)
    obtain rfl:_=r:=(rG (aY H):)
    exact lB
   iterate 2 refine qg g27 aF ?_
   refine qg g27 (aV.indexS (k:=i22) rfl rfl rfl rfl z26 Tryz.underlying9) (qg g27 IB (q1 (b5 g27) (qN ?_)))
   refine bA H (fun h28 H=>?_) (fun h28 H=>?_)
   ·refine qS (qR ?_)
    iterate 2 refine q1 aF ?_
    refine qN (aP.ret ?_)
    obtain rfl:_=r:=(rG (aY H):)
    exact lB
   refine aP.skip (qR (q1 aF (q1 (aV.mulW rfl rfl rfl rfl) ?_)))
   iterate 2 refine q1 aF ?_
   refine q1 (aV.indexS (k:=i22) rfl rfl rfl rfl z26 Tryz.underlying9) (q1 (aV.subU8 rfl rfl rfl rfl) ?_)
   refine q1 (aV.convI rfl rfl rfl ⟨_,Tryz.underlying5⟩ Tryz.underlying3 (by first|omega|(have:=UInt8.toNat_lt (CD (((zC ps i22).toNat:Int)-48));omega)) (by first|omega|(have:=UInt8.toNat_lt (CD (((zC ps i22).toNat:Int)-48));omega))) ?_;refine q1 ML (q1 aF (qN (qR (q1 aF (q1 (aV.addI rfl rfl rfl rfl (c:=((i22+1:Nat):Int)) (by omega) (by omega)) (q1 aF (qN ?_)))))))
   exact iY h25l ⟨_,(aY H:),b0⟩
  refine aP.exit ?_;exact lS ⟨_,H,b0⟩
 rintro v23 H
 iterate 2 refine qS ?_
 refine qR (q1 aF (qN (iX rfl (aP.skip ?_))))
 iterate 2 refine qS ?_
 refine qR (q1 aF (bO H fun x30 z29 H=>(q1 (bI Tryz.func281 (xK fu v23 _ z29)) (q1 aF (q1 MN (qN ?_))))))
 refine bA H (fun h31 H=>?_) (fun h31 H=>?_)
 ·refine qS (qR ?_)
  iterate 2 refine q1 aF ?_
  refine qN (aP.ret ?_)
  obtain rfl:_=r:=(aY H:)
  exact lB
 refine aP.skip (qS (qR ?_))
 iterate 3 refine q1 aF ?_
 refine qN (aP.ret ?_)
 obtain rfl:_=r:=(aY H:)
 exact lB
def V1(m:ByteArray→Option (Int×Bool)):Prop:= ∀(ps:ByteArray) (r:Int×Bool),m ps=some r→cE Tryz.prog 262 [pS ps] (.tup [pI r.1,pB r.2]:PV)
def wP(fu:Nat)(ps:ByteArray):Option (Int×Bool):=
 bd (J7 fu ps 12) (fun(x2,x3)=>
 some (x2,x3))
theorem SW(fu:Nat):V1 (wP fu):=by
 intro ps r H
 have H:=fI H
 refine qI Tryz.func262 (fun C hC=>?_)
 refine qS (qR ?_)
 iterate 2 refine q1 aF ?_
 refine qN (qS (qR (q1 aF (fK H fun x2 x3 z1 H=>(q1 (bI Tryz.func279 (aaI fu ps 12 _ z1)) ?_)))))
 iterate 2 refine q1 y1 ?_
 iterate 2 refine q1 aF ?_
 refine qN (aP.ret ?_)
 obtain rfl:_=r:=(aY H:)
 exact lB
def adI(m:Int→Option aG):Prop:= ∀(pn:Int) (r:aG),m pn=some r→cE Tryz.prog 159 [pI pn] ((aG.pv r):PV)
def qU(fu:Nat)(pn:Int):Option aG:=
 some (aG.mk 1 s_ s_ pn (aA.mk 0 s_ []) [] [])
theorem sQ(fu:Nat):adI (qU fu):=by
 intro pn r H
 have H:=fI H
 refine qI Tryz.func159 (fun C hC=>?_)
 refine qS (qR (q1 (iV kG) (qN (qS (qR (q1 aF (q1 (f6 kG vS) (q1 (bU pC) (qN (aP.ret ?_))))))))))
 obtain rfl:_=r:=(aY H:)
 exact bM (hr:=⟨⟨_,_,_,rfl,rfl,hP,rfl,rfl⟩,trivial⟩)
def adJ(m:ByteArray→Option aG):Prop:= ∀(ps:ByteArray) (r:aG),m ps=some r→cE Tryz.prog 157 [pS ps] ((aG.pv r):PV)
def sS(fu:Nat)(ps:ByteArray):Option aG:=
 some (aG.mk 3 s_ ps 0 (aA.mk 0 s_ []) [] [])
theorem vW(fu:Nat):adJ (sS fu):=by
 intro ps r H
 have H:=fI H
 refine qI Tryz.func157 (fun C hC=>?_)
 refine qS (qR (q1 (iV kG) (qN (qS (qR (q1 aF (q1 (f6 kG vS) (q1 (bU pC) (qN (aP.ret ?_))))))))))
 obtain rfl:_=r:=(aY H:)
 exact bM (hr:=⟨⟨_,_,_,rfl,rfl,hP,rfl,rfl⟩,trivial⟩)
def afK(m:Int→Int→Option Int):Prop:= ∀(pa:Int) (pb:Int) (r:Int),m pa pb=some r→cE Tryz.prog 261 [pI pa,pI pb] (pI r:PV)
def n6(fu:Nat)(pa pb:Int):Option Int:=
 sw (decide ((pa:Int)<pb))
 (some pa)
 (some pb)
theorem oU(fu:Nat):afK (n6 fu):=by
 intro pa pb r H
 have H:=fI H
 refine qI Tryz.func261 (fun C hC=>?_)
 refine qS (qR (q1 aF (qN ?_)))
 iterate 2 refine qS ?_
 refine qR ?_
 iterate 2 refine q1 aF ?_
 refine q1 hZ (qN ?_)
 refine bA H (fun h1 H=>?_) (fun h1 H=>?_)
 ·refine qS (qR ?_)
  iterate 2 refine q1 aF ?_
  refine qN (aP.ret ?_)
  obtain rfl:_=r:=(aY H:)
  exact bM
 refine aP.skip (qS (qR ?_))
 iterate 2 refine q1 aF ?_
 refine qN (aP.ret ?_)
 obtain rfl:_=r:=(aY H:)
 exact bM
abbrev gM:=aB→Option aG
abbrev fR:=(List aB)→Option ((List aG))
abbrev iL:=aB→Option bJ
def sT(m:gM):Prop:= ∀(pa0:aB) (r:aG),m pa0=some r→cE Tryz.prog 247 [(aB.pv pa0)] ((aG.pv r):PV)
def tO(m:fR):Prop:= ∀(plist:List aB) (r:(List aG)),m plist=some r→cE Tryz.prog 263 [a9 plist] (gQ r:PV)
def yU(m:iL):Prop:= ∀(px:aB) (r:bJ),m px=some r→cE Tryz.prog 264 [(aB.pv px)] ((bJ.pv r):PV)
def W3(fu:Nat)(r_sl12Expr:gM)(r_sl12Exprs:fR)(r_sl12Arm:iL)(pa0 y15 y18:aB)(x67:Int)(x70:List aG):Nat→((List bJ))→Option (LR ((List bJ)) aG):=
 fun i71 v73=>bd (r_sl12Arm (a3 pa0.gList i71)) (fun x77=>
 gd ((v73).length+(([x77]:List bJ)).length≤68719476736)
 (some (.next (v73++([x77]:List bJ)))))
def W4(fu:Nat)(r_sl12Expr:gM)(r_sl12Exprs:fR)(r_sl12Arm:iL)(pa0 y15 y18:aB)(x67:Int)(x70:List aG):Option (aG⊕((List bJ))):=
 loopN (W3 fu r_sl12Expr r_sl12Exprs r_sl12Arm pa0 y15 y18 x67 x70) (pa0.gList.length-2) 2 ([])
def GF(fu:Nat)(r_sl12Expr:gM)(r_sl12Exprs:fR)(r_sl12Arm:iL)(pa0:aB):Option aG:=
 sw (!decide (pa0.gAtom=s_))
 (bd (wP fu pa0.gAtom) (fun(x3,x4)=>
 sw (x4)
 (bd (qU fu x3) (fun x7=>
 some x7))
 (sw (decide (pa0.gAtom=nP))
 (some (aG.mk 2 s_ s_ 1 (aA.mk 0 s_ []) [] []))
 (sw (decide (pa0.gAtom=kF))
 (some (aG.mk 2 s_ s_ 0 (aA.mk 0 s_ []) [] []))
 (bd (sS fu pa0.gAtom) (fun x11=>
 some x11))))))
 (gd (([]:List aB).length+(pa0.gList).length≤68719476736)
 (gd ((([])++pa0.gList).length+(([(aB.mk s_ []),(aB.mk s_ []),(aB.mk s_ [])]:List aB)).length≤68719476736)
 (gd (1<((([])++pa0.gList)++([(aB.mk s_ []),(aB.mk s_ []),(aB.mk s_ [])]:List aB)).length)
 (lt (a3 ((([])++pa0.gList)++([(aB.mk s_ []),(aB.mk s_ []),(aB.mk s_ [])]:List aB)) 1) (fun y15=>
 gd (0<((([])++pa0.gList)++([(aB.mk s_ []),(aB.mk s_ []),(aB.mk s_ [])]:List aB)).length)
 (lt (a3 ((([])++pa0.gList)++([(aB.mk s_ []),(aB.mk s_ []),(aB.mk s_ [])]:List aB)) 0) (fun y18=>
 sw (decide (y18.gAtom=JX))
 (bd (n6 fu 2 ((pa0.gList.length:Nat):Int)) (fun x22=>
 gd ((0:Int)≤x22∧(x22:Int)≤((pa0.gList.length:Nat):Int)∧(((pa0.gList.length:Nat):Int):Int)≤((pa0.gList.length:Nat):Int))
 (bd (r_sl12Exprs (List.drop (x22:Int).toNat (List.take (((pa0.gList.length:Nat):Int):Int).toNat pa0.gList))) (fun x25=>
 some (aG.mk 4 s_ y15.gAtom 0 (aA.mk 0 s_ []) x25 [])))))
 (sw (decide (y18.gAtom=m4))
 (gd (2<((([])++pa0.gList)++([(aB.mk s_ []),(aB.mk s_ []),(aB.mk s_ [])]:List aB)).length)
 (lt (a3 ((([])++pa0.gList)++([(aB.mk s_ []),(aB.mk s_ []),(aB.mk s_ [])]:List aB)) 2) (fun y28=>
 bd (n6 fu 3 ((pa0.gList.length:Nat):Int)) (fun x31=>
 gd ((0:Int)≤x31∧(x31:Int)≤((pa0.gList.length:Nat):Int)∧(((pa0.gList.length:Nat):Int):Int)≤((pa0.gList.length:Nat):Int))
 (bd (r_sl12Exprs (List.drop (x31:Int).toNat (List.take (((pa0.gList.length:Nat):Int):Int).toNat pa0.gList))) (fun x34=>
 some (aG.mk 5 y15.gAtom y28.gAtom 0 (aA.mk 0 s_ []) x34 [])))))))
 (sw (decide (y18.gAtom=AJ))
 (bd (n6 fu 2 ((pa0.gList.length:Nat):Int)) (fun x37=>
 gd ((0:Int)≤x37∧(x37:Int)≤((pa0.gList.length:Nat):Int)∧(((pa0.gList.length:Nat):Int):Int)≤((pa0.gList.length:Nat):Int))
 (bd (r_sl12Exprs (List.drop (x37:Int).toNat (List.take (((pa0.gList.length:Nat):Int):Int).toNat pa0.gList))) (fun x40=>
 some (aG.mk 6 s_ y15.gAtom 0 (aA.mk 0 s_ []) x40 [])))))
 (sw (decide (y18.gAtom=AI))
 (bd (n6 fu 2 ((pa0.gList.length:Nat):Int)) (fun x43=>
 gd ((0:Int)≤x43∧(x43:Int)≤((pa0.gList.length:Nat):Int)∧(((pa0.gList.length:Nat):Int):Int)≤((pa0.gList.length:Nat):Int))
 (bd (r_sl12Exprs (List.drop (x43:Int).toNat (List.take (((pa0.gList.length:Nat):Int):Int).toNat pa0.gList))) (fun x46=>
 some (aG.mk 8 s_ y15.gAtom 0 (aA.mk 0 s_ []) x46 [])))))
 (sw (decide (y18.gAtom=zU))
 (gd ((0:Int)≤1∧(1:Int)≤((pa0.gList.length:Nat):Int)∧(((pa0.gList.length:Nat):Int):Int)≤((pa0.gList.length:Nat):Int))
 (bd (r_sl12Exprs (List.drop (1:Int).toNat (List.take (((pa0.gList.length:Nat):Int):Int).toNat pa0.gList))) (fun x50=>
 some (aG.mk 9 s_ s_ 0 (aA.mk 0 s_ []) x50 []))))
 (sw (decide (y18.gAtom=uB))
 (bd (n6 fu 2 ((pa0.gList.length:Nat):Int)) (fun x53=>
 gd ((0:Int)≤x53∧(x53:Int)≤((pa0.gList.length:Nat):Int)∧(((pa0.gList.length:Nat):Int):Int)≤((pa0.gList.length:Nat):Int))
 (bd (r_sl12Exprs (List.drop (x53:Int).toNat (List.take (((pa0.gList.length:Nat):Int):Int).toNat pa0.gList))) (fun x56=>
 some (aG.mk 11 y15.gAtom s_ 0 (aA.mk 0 s_ []) x56 [])))))
 (sw (decide (y18.gAtom=RI))
 (bd (k8 fu y15) (fun x59=>
 bd (n6 fu 2 ((pa0.gList.length:Nat):Int)) (fun x61=>
 gd ((0:Int)≤x61∧(x61:Int)≤((pa0.gList.length:Nat):Int)∧(((pa0.gList.length:Nat):Int):Int)≤((pa0.gList.length:Nat):Int))
 (bd (r_sl12Exprs (List.drop (x61:Int).toNat (List.take (((pa0.gList.length:Nat):Int):Int).toNat pa0.gList))) (fun x64=>
 some (aG.mk 12 s_ s_ 0 x59 x64 []))))))
 (sw (decide (y18.gAtom=uA))
 (bd (n6 fu 2 ((pa0.gList.length:Nat):Int)) (fun x67=>
 gd ((0:Int)≤1∧(1:Int)≤x67∧(x67:Int)≤((pa0.gList.length:Nat):Int))
 (bd (r_sl12Exprs (List.drop (1:Int).toNat (List.take (x67:Int).toNat pa0.gList))) (fun x70=>
 so (W4 fu r_sl12Expr r_sl12Exprs r_sl12Arm pa0 y15 y18 x67 x70) (fun v73=>
 some (aG.mk 7 s_ s_ 0 (aA.mk 0 s_ []) x70 v73))))))
 (bd (n6 fu 1 ((pa0.gList.length:Nat):Int)) (fun x80=>
 gd ((0:Int)≤x80∧(x80:Int)≤((pa0.gList.length:Nat):Int)∧(((pa0.gList.length:Nat):Int):Int)≤((pa0.gList.length:Nat):Int))
 (bd (r_sl12Exprs (List.drop (x80:Int).toNat (List.take (((pa0.gList.length:Nat):Int):Int).toNat pa0.gList))) (fun x83=>
 some (aG.mk 10 s_ y18.gAtom 0 (aA.mk 0 s_ []) x83 [])))))))))))))))))))
theorem QS(fu:Nat)(r_sl12Expr:gM)(r_sl12Exprs:fR)(r_sl12Arm:iL)(h_sl12Expr:sT r_sl12Expr)(h_sl12Exprs:tO r_sl12Exprs)(h_sl12Arm:yU r_sl12Arm):sT (GF fu r_sl12Expr r_sl12Exprs r_sl12Arm):=by
 intro pa0 r H
 have H:=fI H
 refine qI Tryz.func247 (fun C hC=>?_)
 refine qS (qR (q1 (jU ([pS pa0.gAtom,a9 pa0.gList])) (q1 (iV kG) (qN ?_))))
 iterate 2 refine qS ?_
 refine qR (q1 (a5 e6) (q1 (bG fB) (q1 MN (qN ?_))))
 refine bA H (fun h1 H=>?_) (fun h1 H=>?_)
 ·refine qS (qR (q1 (a5 e6) (q1 (bG fB) (fK H fun x3 x4 z2 H=>(q1 (bI Tryz.func262 (SW fu pa0.gAtom _ z2)) (q1 aF ?_))))))
  iterate 2 refine q1 y1 ?_
  iterate 2 refine q1 aF ?_
  refine qN (qS (aP.block (qS (qR ?_))))
  iterate 2 refine q1 aF ?_
  refine qN ?_;refine bA H (fun h5 H=>?_) (fun h5 H=>?_)
  ·refine qS (qR (q1 aF (bO H fun x7 z6 H=>(q1 (bI Tryz.func159 (sQ fu x3 _ z6)) (q1 (bU pC) (qN (aP.ret ?_)))))))
   obtain rfl:_=r:=(aY H:)
   exact bM (hr:=⟨⟨_,_,_,rfl,rfl,hP,rfl,rfl⟩,trivial⟩)
  refine qS (qR (q1 (a5 e6) (q1 (bG fB) (q1 GS (q1 aF (qN ?_))))))
  refine bA H (fun h8 H=>?_) (fun h8 H=>?_)
  ·refine qS (qR (q1 (f6 kG vS) (q1 (bU pC) (qN (aP.ret ?_)))))
   obtain rfl:_=r:=(aY H:)
   exact bM (hr:=⟨⟨_,_,_,rfl,rfl,hP,rfl,rfl⟩,trivial⟩)
  refine qS (qR (q1 (a5 e6) (q1 (bG fB) (q1 GS (q1 aF (qN ?_))))))
  refine bA H (fun h9 H=>?_) (fun h9 H=>?_)
  ·refine qS (qR (q1 (f6 kG vS) (q1 (bU pC) (qN (aP.ret ?_)))))
   obtain rfl:_=r:=(aY H:)
   exact bM (hr:=⟨⟨_,_,_,rfl,rfl,hP,rfl,rfl⟩,trivial⟩)
  refine aP.skip (qS (qR (q1 (a5 e6) (q1 (bG fB) (bO H fun x11 z10 H=>(q1 (bI Tryz.func157 (vW fu pa0.gAtom _ z10)) (q1 (bU pC) (qN (aP.ret ?_)))))))))
  obtain rfl:_=r:=(aY H:)
  exact bM (hr:=⟨⟨_,_,_,rfl,rfl,hP,rfl,rfl⟩,trivial⟩)
 refine aP.skip (qS (qR (q1 (t2 ([]:List aB) bE b6) (q1 (a5 bD) (q1 (bG cQ) (dF H fun z12 H=>(q1 (mJ z12 bE o6) ?_)))))))
 iterate 3 refine q1 (f6 b6 l3) ?_
 refine q1 (iA ([(aB.mk s_ []),(aB.mk s_ []),(aB.mk s_ [])]:List aB) bE b6) (dF H fun z13 H=>(q1 (mJ z13 bE o6) (q1 aF (qN (qS (qR (q1 (a5 bD) (q1 (bG cQ) (q1 (eT bE (aB.trs_len _)) (q1 aF (qN (qS (qR ?_)))))))))))))
 refine q1 aF (dF H fun z14 H=>(g0 H fun y15 h16 H=>(q1 (yO h16 z14 bE) (q1 (qX e6) (q1 (pZ fB) (q1 aF (qN ?_)))))))
 iterate 2 refine qS ?_
 refine qR (q1 aF (dF H fun z17 H=>(g0 H fun y18 h19 H=>(q1 (yO h19 z17 bE) (q1 (qX e6) (q1 (pZ fB) (qN (aP.block (qS (qR (q1 GS (q1 aF (qN ?_)))))))))))))
 refine bA H (fun h20 H=>?_) (fun h20 H=>?_)
 ·refine qS (bO H fun x22 z21 H=>(dF H fun z23 H=>(bO H fun x25 z24 H=>(dW (dI [7] aF (dI [1] (a5 bD) (dD [59] (bG cQ) (dI [6] aF (dI [61] (bI Tryz.func261 (oU fu 2 ((pa0.gList.length:Nat):Int) _ z21)) ?_)))))))))
  refine dI [60,62] (aV.congrP (aV.sliceR (es:=aB.trs (pa0.gList)) (l:=x22) (k:=((pa0.gList.length:Nat):Int)) rfl rfl rfl rfl rfl (by rw [aB.trs_len];exact rfl) (by rw [aB.trs_len];exact z23) bE) (aB.trs_part _ _ _)) ?_;refine dI [63] (bI Tryz.func263 (h_sl12Exprs (List.drop (x22:Int).toNat (List.take (((pa0.gList.length:Nat):Int):Int).toNat pa0.gList)) _ z24)) (dI [58,64] (f6 kG vS) (nI [2,65] (bU pC) (dN (aP.ret ?_))))
  obtain rfl:_=r:=(aY H:)
  exact bM (hr:=⟨⟨_,_,_,rfl,rfl,hP,rfl,rfl⟩,trivial⟩)
 refine qS (qR (q1 GS (q1 aF (qN ?_))))
 refine bA H (fun h26 H=>?_) (fun h26 H=>?_)
 ·refine qS (dF H fun z27 H=>(g0 H fun y28 h29 H=>(bO H fun x31 z30 H=>(dF H fun z32 H=>(bO H fun x34 z33 H=>(dW (dI [7] aF (dI [5] aF (dI [69] (yO h29 z27 bE) (dI [70] (qX e6) (dI [71] (pZ fB) (dI [1] (a5 bD) (dD [73] (bG cQ) ?_)))))))))))))
  refine dI [6] aF (dI [75] (bI Tryz.func261 (oU fu 3 ((pa0.gList.length:Nat):Int) _ z30)) ?_)
  refine dI [74,76] (aV.congrP (aV.sliceR (es:=aB.trs (pa0.gList)) (l:=x31) (k:=((pa0.gList.length:Nat):Int)) rfl rfl rfl rfl rfl (by rw [aB.trs_len];exact rfl) (by rw [aB.trs_len];exact z32) bE) (aB.trs_part _ _ _)) ?_;refine dI [77] (bI Tryz.func263 (h_sl12Exprs (List.drop (x31:Int).toNat (List.take (((pa0.gList.length:Nat):Int):Int).toNat pa0.gList)) _ z33)) (dI [68,72,78] (f6 kG vS) (nI [2,79] (bU pC) (dN (aP.ret ?_))))
  obtain rfl:_=r:=(aY H:)
  exact bM (hr:=⟨⟨_,_,_,rfl,rfl,hP,rfl,rfl⟩,trivial⟩)
 refine qS (qR (q1 GS (q1 aF (qN ?_))))
 refine bA H (fun h35 H=>?_) (fun h35 H=>?_)
 ·refine qS (bO H fun x37 z36 H=>(dF H fun z38 H=>(bO H fun x40 z39 H=>(dW (dI [7] aF (dI [1] (a5 bD) (dD [83] (bG cQ) (dI [6] aF (dI [85] (bI Tryz.func261 (oU fu 2 ((pa0.gList.length:Nat):Int) _ z36)) ?_)))))))))
  refine dI [84,86] (aV.congrP (aV.sliceR (es:=aB.trs (pa0.gList)) (l:=x37) (k:=((pa0.gList.length:Nat):Int)) rfl rfl rfl rfl rfl (by rw [aB.trs_len];exact rfl) (by rw [aB.trs_len];exact z38) bE) (aB.trs_part _ _ _)) ?_;refine dI [87] (bI Tryz.func263 (h_sl12Exprs (List.drop (x37:Int).toNat (List.take (((pa0.gList.length:Nat):Int):Int).toNat pa0.gList)) _ z39)) (dI [82,88] (f6 kG vS) (nI [2,89] (bU pC) (dN (aP.ret ?_))))
  obtain rfl:_=r:=(aY H:)
  exact bM (hr:=⟨⟨_,_,_,rfl,rfl,hP,rfl,rfl⟩,trivial⟩)
 refine qS (qR (q1 GS (q1 aF (qN ?_))))
 refine bA H (fun h41 H=>?_) (fun h41 H=>?_)
 ·refine qS (bO H fun x43 z42 H=>(dF H fun z44 H=>(bO H fun x46 z45 H=>(dW (dI [7] aF (dI [1] (a5 bD) (dD [93] (bG cQ) (dI [6] aF (dI [95] (bI Tryz.func261 (oU fu 2 ((pa0.gList.length:Nat):Int) _ z42)) ?_)))))))))
  refine dI [94,96] (aV.congrP (aV.sliceR (es:=aB.trs (pa0.gList)) (l:=x43) (k:=((pa0.gList.length:Nat):Int)) rfl rfl rfl rfl rfl (by rw [aB.trs_len];exact rfl) (by rw [aB.trs_len];exact z44) bE) (aB.trs_part _ _ _)) ?_;refine dI [97] (bI Tryz.func263 (h_sl12Exprs (List.drop (x43:Int).toNat (List.take (((pa0.gList.length:Nat):Int):Int).toNat pa0.gList)) _ z45)) (dI [92,98] (f6 kG vS) (nI [2,99] (bU pC) (dN (aP.ret ?_))))
  obtain rfl:_=r:=(aY H:)
  exact bM (hr:=⟨⟨_,_,_,rfl,rfl,hP,rfl,rfl⟩,trivial⟩)
 refine qS (qR (q1 GS (q1 aF (qN ?_))))
 refine bA H (fun h47 H=>?_) (fun h47 H=>?_)
 ·refine qS (qR (q1 (a5 bD) (q1 (bG cQ) (dF H fun z48 H=>?_))))
  refine q1 (aV.congrP (aV.sliceR (es:=aB.trs (pa0.gList)) (l:=1) (k:=((pa0.gList.length:Nat):Int)) rfl rfl rfl rfl rfl (by rw [aB.trs_len];exact rfl) (by rw [aB.trs_len];exact z48) bE) (aB.trs_part _ _ _)) ?_;refine bO H fun x50 z49 H=>(q1 (bI Tryz.func263 (h_sl12Exprs (List.drop (1:Int).toNat (List.take (((pa0.gList.length:Nat):Int):Int).toNat pa0.gList)) _ z49)) (q1 (f6 kG vS) (q1 (bU pC) (qN (aP.ret ?_)))))
  obtain rfl:_=r:=(aY H:)
  exact bM (hr:=⟨⟨_,_,_,rfl,rfl,hP,rfl,rfl⟩,trivial⟩)
 refine qS (qR (q1 GS (q1 aF (qN ?_))))
 refine bA H (fun h51 H=>?_) (fun h51 H=>?_)
 ·refine qS (bO H fun x53 z52 H=>(dF H fun z54 H=>(bO H fun x56 z55 H=>(dW (dI [7] aF (dI [1] (a5 bD) (dD [110] (bG cQ) (dI [6] aF (dI [112] (bI Tryz.func261 (oU fu 2 ((pa0.gList.length:Nat):Int) _ z52)) ?_)))))))))
  refine dI [111,113] (aV.congrP (aV.sliceR (es:=aB.trs (pa0.gList)) (l:=x53) (k:=((pa0.gList.length:Nat):Int)) rfl rfl rfl rfl rfl (by rw [aB.trs_len];exact rfl) (by rw [aB.trs_len];exact z54) bE) (aB.trs_part _ _ _)) ?_;refine dI [114] (bI Tryz.func263 (h_sl12Exprs (List.drop (x53:Int).toNat (List.take (((pa0.gList.length:Nat):Int):Int).toNat pa0.gList)) _ z55)) (dI [109,115] (f6 kG vS) (nI [2,116] (bU pC) (dN (aP.ret ?_))))
  obtain rfl:_=r:=(aY H:)
  exact bM (hr:=⟨⟨_,_,_,rfl,rfl,hP,rfl,rfl⟩,trivial⟩)
 refine qS (qR (q1 GS (q1 aF (qN ?_))))
 refine bA H (fun h57 H=>?_) (fun h57 H=>?_)
 ·refine qS (bO H fun x59 z58 H=>(bO H fun x61 z60 H=>(dF H fun z62 H=>(bO H fun x64 z63 H=>(dW (dI [5] aF (dI [119] (yO h16 z14 bE) (dI [120] (j0 (aB.cs y15) bN) (dI [121] (bI Tryz.func246 (tS fu y15 _ z58)) (dI [1] (a5 bD) (dD [123] (bG cQ) (dI [6] aF (dI [125] (bI Tryz.func261 (oU fu 2 ((pa0.gList.length:Nat):Int) _ z60)) ?_)))))))))))))
  refine dI [124,126] (aV.congrP (aV.sliceR (es:=aB.trs (pa0.gList)) (l:=x61) (k:=((pa0.gList.length:Nat):Int)) rfl rfl rfl rfl rfl (by rw [aB.trs_len];exact rfl) (by rw [aB.trs_len];exact z62) bE) (aB.trs_part _ _ _)) ?_;refine dI [127] (bI Tryz.func263 (h_sl12Exprs (List.drop (x61:Int).toNat (List.take (((pa0.gList.length:Nat):Int):Int).toNat pa0.gList)) _ z63)) (dI [122,128] (f6 kG vS) (nI [2,129] (bU pC) (dN (aP.ret ?_))))
  obtain rfl:_=r:=(aY H:)
  exact bM (hr:=⟨⟨_,_,_,rfl,rfl,hP,rfl,rfl⟩,trivial⟩)
 refine qS (qR (q1 GS (q1 aF (qN ?_))))
 refine bA H (fun h65 H=>?_) (fun h65 H=>?_)
 ·refine qS (bO H fun x67 z66 H=>(dF H fun z68 H=>(bO H fun x70 z69 H=>(dW (dI [1] (a5 bD) (dB [132] 0 1 (vC cQ) (dI [6] aF (dI [134] (bI Tryz.func261 (oU fu 2 ((pa0.gList.length:Nat):Int) _ z66)) ?_))))))))
  refine dI [133,135] (aV.congrP (aV.sliceR (es:=aB.trs (pa0.gList)) (l:=1) (k:=x67) rfl rfl rfl rfl rfl (by rw [aB.trs_len];exact rfl) (by rw [aB.trs_len];exact z68) bE) (aB.trs_part _ _ _)) ?_;refine dI [136] (bI Tryz.func263 (h_sl12Exprs (List.drop (1:Int).toNat (List.take (x67:Int).toNat pa0.gList)) _ z69)) (dI [137] (f6 kG vS) (dE [] (iV kG) (nI [8,138] (bU pC) (dN ?_))))
  iterate 2 refine qS ?_
  refine qR (q1 aF (qN (aP.wk (Wk.regBox (k:=2) (j:=8) 92 11 (by decide) rfl rfl) ?_)))
  refine lR 38 (aB.trs_len _) (fun hl74=>?_)
  refine cM (σ:=(List bJ)) (fun i71 v73=>⟨[(1,.ptr 0 0),(2,.ptr 1 0),(5,dY ((([])++pa0.gList)++([(aB.mk s_ []),(aB.mk s_ []),(aB.mk s_ [])]:List aB)) 0),(6,pN pa0.gList.length),(8,.ptr 2 0),(9,pN i71)],⟨[some ⟨237,[pS pa0.gAtom,a9 pa0.gList]⟩,some ⟨87,[pI 0,pS s_,pS s_,pI 0,pI 0,pS s_,.nil,.nil,.nil]⟩,some ⟨87,[pI 7,pS s_,pS s_,pI 0,pI 0,pS s_,.nil,gQ x70,ahV v73 1]⟩],[⟨237,2,aB.trs ((([])++pa0.gList)++([(aB.mk s_ []),(aB.mk s_ []),(aB.mk s_ [])]:List aB)),false⟩,⟨92,11,bJ.trs (v73),false⟩]⟩⟩) (fun v73=>⟨[(1,.ptr 0 0),(2,.ptr 1 0),(5,dY ((([])++pa0.gList)++([(aB.mk s_ []),(aB.mk s_ []),(aB.mk s_ [])]:List aB)) 0),(6,pN pa0.gList.length),(8,.ptr 2 0)],⟨[some ⟨237,[pS pa0.gAtom,a9 pa0.gList]⟩,some ⟨87,[pI 0,pS s_,pS s_,pI 0,pI 0,pS s_,.nil,.nil,.nil]⟩,some ⟨87,[pI 7,pS s_,pS s_,pI 0,pI 0,pS s_,.nil,gQ x70,ahV v73 1]⟩],[⟨237,2,aB.trs ((([])++pa0.gList)++([(aB.mk s_ []),(aB.mk s_ []),(aB.mk s_ [])]:List aB)),false⟩,⟨92,11,bJ.trs (v73),false⟩]⟩⟩) (gU H) ?_ ?_
  ·rintro i71 v73 H
   iterate 2 refine qS ?_
   refine qR ?_
   iterate 2 refine q1 aF ?_
   refine q1 hZ (qN ?_)
   refine eW H (fun h75 h75l H=>?_) (fun h75 H=>?_)
   ·have h75n:=a8 h75
    refine aP.skip (qS (aP.block (bO H fun x77 z76 H=>(dF H fun z78 H=>(dW (dI [8] (a5 gS) (dD [144] (bG rN) (dI [1] (a5 bD) (dD [146] (bG cQ) (dI [9] aF (dI [147,148] (iH h75n bE) (dI [149] (j0 (aB.cs (a3 pa0.gList i71)) bN) (dI [150] (bI Tryz.func264 (h_sl12Arm (a3 pa0.gList i71) _ z76)) ?_)))))))))))))
    refine dI [151] (iA ([x77]:List bJ) pP UY) (dE [145,152] (mJ z78 pP aj4) (dI [8] (a5 gS) (nI [154,153] (bU aj2) (dN (qR (q1 aF (q1 (aV.addI rfl rfl rfl rfl (c:=((i71+1:Nat):Int)) (by omega) (by omega)) (q1 aF (qN ?_)))))))))
    exact iY h75l ⟨_,(aY H:),b0⟩
   refine aP.exit ?_;exact lS ⟨_,H,b0⟩
  rintro v73 H
  refine qS (qR (q1 (cV [pI 7,pS s_,pS s_,pI 0,pI 0,pS s_,.nil,gQ x70,ahV v73 1] hP) (q1 (bU pC) (qN (aP.ret ?_)))))
  obtain rfl:_=r:=(aY H:)
  exact bM (hr:=⟨⟨_,_,_,rfl,rfl,hP,rfl,rfl⟩,trivial⟩)
 refine aP.skip (qS (bO H fun x80 z79 H=>(dF H fun z81 H=>(bO H fun x83 z82 H=>(dW (dI [5] aF (dI [156] (yO h19 z17 bE) (dI [157] (qX e6) (dI [158] (pZ fB) (dI [1] (a5 bD) (dD [160] (bG cQ) (dI [6] aF (dI [162] (bI Tryz.func261 (oU fu 1 ((pa0.gList.length:Nat):Int) _ z79)) ?_)))))))))))))
 refine dI [161,163] (aV.congrP (aV.sliceR (es:=aB.trs (pa0.gList)) (l:=x80) (k:=((pa0.gList.length:Nat):Int)) rfl rfl rfl rfl rfl (by rw [aB.trs_len];exact rfl) (by rw [aB.trs_len];exact z81) bE) (aB.trs_part _ _ _)) ?_;refine dI [164] (bI Tryz.func263 (h_sl12Exprs (List.drop (x80:Int).toNat (List.take (((pa0.gList.length:Nat):Int):Int).toNat pa0.gList)) _ z82)) (dI [159,165] (f6 kG vS) (nI [2,166] (bU pC) (dN (aP.ret ?_))))
 obtain rfl:_=r:=(aY H:)
 exact bM (hr:=⟨⟨_,_,_,rfl,rfl,hP,rfl,rfl⟩,trivial⟩)
def S7(fu:Nat)(r_sl12Expr:gM)(r_sl12Exprs:fR)(r_sl12Arm:iL)(plist:List aB):Nat→((List aG))→Option (LR ((List aG)) ((List aG))):=
 fun i1 v3=>bd (r_sl12Expr (a3 plist i1)) (fun x7=>
 gd ((v3).length+(([x7]:List aG)).length≤68719476736)
 (some (.next (v3++([x7]:List aG)))))
def S8(fu:Nat)(r_sl12Expr:gM)(r_sl12Exprs:fR)(r_sl12Arm:iL)(plist:List aB):Option (((List aG))⊕((List aG))):=
 loopN (S7 fu r_sl12Expr r_sl12Exprs r_sl12Arm plist) (plist.length-0) 0 ([])
def B3(fu:Nat)(r_sl12Expr:gM)(r_sl12Exprs:fR)(r_sl12Arm:iL)(plist:List aB):Option ((List aG)):=
 so (S8 fu r_sl12Expr r_sl12Exprs r_sl12Arm plist) (fun v3=>
 some v3)
theorem OK(fu:Nat)(r_sl12Expr:gM)(r_sl12Exprs:fR)(r_sl12Arm:iL)(h_sl12Expr:sT r_sl12Expr)(h_sl12Exprs:tO r_sl12Exprs)(h_sl12Arm:yU r_sl12Arm):tO (B3 fu r_sl12Expr r_sl12Exprs r_sl12Arm):=by
 intro plist r H
 have H:=fI H
 refine qI Tryz.func263 (fun C hC=>?_)
 refine qS (qR (q1 aF (qN (qS (qR (q1 (t2 ([]:List aG) nK kG) (q1 aF (qN ?_))))))))
 iterate 2 refine qS ?_
 refine qR (q1 aF (qN ?_))
 refine lR 0 (aB.trs_len _) (fun hl4=>?_)
 refine cM (σ:=(List aG)) (fun i1 v3=>⟨[(0,a9 plist),(2,.nil),(3,ag4 v3 0),(4,pN i1)],⟨[],[⟨87,9,aG.trs (v3),false⟩]⟩⟩) (fun v3=>⟨[(2,.nil),(3,ag4 v3 0)],⟨[],[⟨87,9,aG.trs (v3),false⟩]⟩⟩) (gU H) ?_ ?_
 ·rintro i1 v3 H
  iterate 2 refine qS ?_
  refine qR ?_
  iterate 2 refine q1 aF ?_
  refine q1 (eT bE (aB.trs_len _)) (q1 hZ (qN ?_))
  refine eW H (fun h5 h5l H=>?_) (fun h5 H=>?_)
  ·have h5n:=a8 h5
   refine aP.skip (qS (aP.block (qR ?_)))
   iterate 3 refine q1 aF ?_
   refine q1 (iH h5n bE) (q1 (j0 (aB.cs (a3 plist i1)) bN) (bO H fun x7 z6 H=>(q1 (bI Tryz.func247 (h_sl12Expr (a3 plist i1) _ z6)) (q1 (iA ([x7]:List aG) nK kG) (dF H fun z8 H=>(q1 (mJ z8 nK ajP) (q1 aF (qN (qR (q1 aF (q1 (aV.addI rfl rfl rfl rfl (c:=((i1+1:Nat):Int)) (by omega) (by omega)) (q1 aF (qN ?_)))))))))))))
   exact iY h5l ⟨_,(aY H:),b0⟩
  refine aP.exit ?_;exact lS ⟨_,H,b0⟩
 rintro v3 H
 refine qS (qR ?_)
 iterate 2 refine q1 aF ?_
 refine qN (aP.ret ?_)
 obtain rfl:_=r:=(aY H:)
 exact bM
def J1(fu:Nat)(r_sl12Expr:gM)(r_sl12Exprs:fR)(r_sl12Arm:iL)(px:aB):Option bJ:=
 sw (decide ((((px.gList.length:Nat):Int):Int)<2))
 (some (bJ.mk s_ [] (aG.mk 0 s_ s_ 0 (aA.mk 0 s_ []) [] [])))
 (gd ((0:Int)≤1∧(1:Int)≤aQ (((px.gList.length:Nat):Int)-1)∧(aQ (((px.gList.length:Nat):Int)-1):Int)≤((px.gList.length:Nat):Int))
 (bd (vY fu (List.drop (1:Int).toNat (List.take (aQ (((px.gList.length:Nat):Int)-1):Int).toNat px.gList))) (fun(x4,x5)=>
 gd (0<(px.gList).length)
 (gd (0≤aQ (((px.gList.length:Nat):Int)-1)∧(aQ (((px.gList.length:Nat):Int)-1)).toNat<(px.gList).length)
 (lt (a3 px.gList ((aQ (((px.gList.length:Nat):Int)-1)).toNat)) (fun y8=>
 bd (r_sl12Expr y8) (fun x11=>
 some (bJ.mk ((a3 px.gList 0).gAtom) x4 x11))))))))
theorem S5(fu:Nat)(r_sl12Expr:gM)(r_sl12Exprs:fR)(r_sl12Arm:iL)(h_sl12Expr:sT r_sl12Expr)(h_sl12Exprs:tO r_sl12Exprs)(h_sl12Arm:yU r_sl12Arm):yU (J1 fu r_sl12Expr r_sl12Exprs r_sl12Arm):=by
 intro px r H
 have H:=fI H
 refine qI Tryz.func264 (fun C hC=>?_)
 refine qS (qR (q1 (jU ([pS px.gAtom,a9 px.gList])) (q1 (iV UY) (qN (qS (qR (q1 (a5 bD) (q1 (bG cQ) (q1 (eT bE (aB.trs_len _)) (q1 aF (qN ?_)))))))))))
 iterate 2 refine qS ?_
 refine qR (q1 aF (q1 hZ (qN ?_)))
 refine bA H (fun h1 H=>?_) (fun h1 H=>?_)
 ·have h1n:px.gList.length<2:=by have:=of_decide_eq_true h1;omega
  refine qS (qR (q1 (f6 UY agN) (q1 (bU ag0) (qN (aP.ret ?_)))))
  obtain rfl:_=r:=(aY H:)
  exact bM (hr:=⟨⟨_,_,_,rfl,rfl,agS,rfl,rfl⟩,trivial⟩)
 refine aP.skip (qS (qR (q1 (a5 bD) (q1 (bG cQ) (q1 aF (q1 AF (dF H fun z2 H=>?_)))))))
 refine q1 (aV.congrP (aV.sliceR (es:=aB.trs (px.gList)) (l:=1) (k:=aQ (((px.gList.length:Nat):Int)-1)) rfl rfl rfl rfl rfl (by rw [aB.trs_len];exact rfl) (by rw [aB.trs_len];exact z2) bE) (aB.trs_part _ _ _)) ?_;refine fK H fun x4 x5 z3 H=>(q1 (bI Tryz.func218 (CB fu (List.drop (1:Int).toNat (List.take (aQ (((px.gList.length:Nat):Int)-1):Int).toNat px.gList)) _ z3)) (q1 aF ?_))
 iterate 2 refine q1 y1 ?_
 iterate 2 refine q1 aF ?_
 refine qN (qS (dF H fun z6 H=>(dF H fun z7 H=>(g0 H fun y8 h9 H=>(bO H fun x11 z10 H=>(dW (dI [1] (a5 bD) (dD [21] (bG cQ) (dI [22] (iH z6 bE) (dI [23] (qX e6) (dI [24] (pZ fB) (dI [4] aF (dI [1] (a5 bD) ?_)))))))))))))
 refine dD [27] (bG cQ) (dI [3] aF (dI [29] AF (dI [28,30] (rIm h9 z7 bE) (dI [31] (j0 (aB.cs y8) bN) (dI [32] (bI Tryz.func247 (h_sl12Expr y8 _ z10)) (dI [25,26,33] (f6 UY agN) (nI [2,34] (bU ag0) (dN (aP.ret ?_)))))))))
 obtain rfl:_=r:=(aY H:)
 exact bM (hr:=⟨⟨_,_,_,rfl,rfl,agS,rfl,rfl⟩,trivial⟩)
mutual
def gA:Nat→aB→Option aG
 |0,_=>none
 |fu+1,pa0=>GF fu (gA fu) (jB fu) (l6 fu) pa0
def jB:Nat→(List aB)→Option ((List aG))
 |0,_=>none
 |fu+1,plist=>B3 fu (gA fu) (jB fu) (l6 fu) plist
def l6:Nat→aB→Option bJ
 |0,_=>none
 |fu+1,px=>J1 fu (gA fu) (jB fu) (l6 fu) px
end
theorem S6(fu:Nat):sT (gA fu)∧tO (jB fu)∧yU (l6 fu):=by
 induction fu with
 |zero=>exact⟨(fun pa0 r H=>by simp only [gA] at H;cases H),(fun plist r H=>by simp only [jB] at H;cases H),(fun px r H=>by simp only [l6] at H;cases H)⟩
 |succ fu ih=>exact⟨(fun pa0 r H=>by simp only [gA] at H;exact QS fu (gA fu) (jB fu) (l6 fu) ih.1 ih.2.1 ih.2.2 pa0 r H),(fun plist r H=>by simp only [jB] at H;exact OK fu (gA fu) (jB fu) (l6 fu) ih.1 ih.2.1 ih.2.2 plist r H),(fun px r H=>by simp only [l6] at H;exact S5 fu (gA fu) (jB fu) (l6 fu) ih.1 ih.2.1 ih.2.2 px r H)⟩
theorem BZ(fu:Nat):sT (gA fu):=(S6 fu).1
abbrev m6:=aG→Option aB
abbrev jL:=(List aB)→(List aG)→Option aB
def B4(m:m6):Prop:= ∀(pa0:aG) (r:aB),m pa0=some r→cE Tryz.prog 270 [(aG.pv pa0)] ((aB.pv r):PV)
def zZ(m:jL):Prop:= ∀(phead:List aB) (plist:List aG) (r:aB),m phead plist=some r→cY Tryz.prog 282 [dY phead 0,gQ plist] ⟨[],[⟨237,2,aB.trs (phead),false⟩]⟩ (fun q t=>q=(.agg [pS r.gAtom,dY r.gList 0]:PV)∧t=⟨[],[⟨237,2,aB.trs (r.gList),false⟩]⟩)
def adK(fu:Nat)(r_sl12Sx:m6)(r_sl12Args:jL)(pa0:aG)(x68 x70:aB):Nat→((List aB))→Option (LR ((List aB)) aB):=
 fun i71 v73=>lt (a3 pa0.gArms i71) (fun y76=>
 bd (b9 fu y76.gConstructor) (fun x79=>
 bd (AA fu y76.gVars) (fun x81=>
 gd ((([x79]:List aB)).length+(x81).length≤68719476736)
 (bd (r_sl12Sx y76.gBody) (fun x84=>
 gd ((([x79]:List aB)++x81).length+(([x84]:List aB)).length≤68719476736)
 (gd ((v73).length+(([(aB.mk s_ ((([x79]:List aB)++x81)++([x84]:List aB)))]:List aB)).length≤68719476736)
 (some (.next (v73++([(aB.mk s_ ((([x79]:List aB)++x81)++([x84]:List aB)))]:List aB))))))))))
def adL(fu:Nat)(r_sl12Sx:m6)(r_sl12Args:jL)(pa0:aG)(x68 x70:aB):Option (aB⊕((List aB))):=
 loopN (adK fu r_sl12Sx r_sl12Args pa0 x68 x70) (pa0.gArms.length-0) 0 x70.gList
def OL(fu:Nat)(r_sl12Sx:m6)(r_sl12Args:jL)(pa0:aG):Option aB:=
 sw (decide ((pa0.gKind:Int)=1))
 (bd (mK fu pa0.gN) (fun x3=>
 bd (b9 fu x3) (fun x5=>
 some x5)))
 (sw (decide ((pa0.gKind:Int)=2))
 (gd (0≤pa0.gN∧(pa0.gN).toNat<(([kF,nP]:List ByteArray)).length)
 (bd (b9 fu (a3 ([kF,nP]:List ByteArray) ((pa0.gN).toNat))) (fun x9=>
 some x9)))
 (sw (decide ((pa0.gKind:Int)=3))
 (bd (b9 fu pa0.gName) (fun x12=>
 some x12))
 (sw (decide ((pa0.gKind:Int)=4))
 (bd (b9 fu JX) (fun x15=>
 bd (b9 fu pa0.gName) (fun x17=>
 bd (r_sl12Args ([x15,x17]:List aB) pa0.gArgs) (fun x19=>
 some (aB.mk x19.gAtom x19.gList)))))
 (sw (decide ((pa0.gKind:Int)=5))
 (bd (b9 fu m4) (fun x22=>
 bd (b9 fu pa0.gTrait) (fun x24=>
 bd (b9 fu pa0.gName) (fun x26=>
 bd (r_sl12Args ([x22,x24,x26]:List aB) pa0.gArgs) (fun x28=>
 some (aB.mk x28.gAtom x28.gList))))))
 (sw (decide ((pa0.gKind:Int)=6))
 (bd (b9 fu AJ) (fun x31=>
 bd (b9 fu pa0.gName) (fun x33=>
 bd (r_sl12Args ([x31,x33]:List aB) pa0.gArgs) (fun x35=>
 some (aB.mk x35.gAtom x35.gList)))))
 (sw (decide ((pa0.gKind:Int)=8))
 (bd (b9 fu AI) (fun x38=>
 bd (b9 fu pa0.gName) (fun x40=>
 bd (r_sl12Args ([x38,x40]:List aB) pa0.gArgs) (fun x42=>
 some (aB.mk x42.gAtom x42.gList)))))
 (sw (decide ((pa0.gKind:Int)=9))
 (bd (b9 fu zU) (fun x45=>
 bd (r_sl12Args ([x45]:List aB) pa0.gArgs) (fun x47=>
 some (aB.mk x47.gAtom x47.gList))))
 (sw (decide ((pa0.gKind:Int)=10))
 (bd (b9 fu pa0.gName) (fun x50=>
 bd (r_sl12Args ([x50]:List aB) pa0.gArgs) (fun x52=>
 some (aB.mk x52.gAtom x52.gList))))
 (sw (decide ((pa0.gKind:Int)=11))
 (bd (b9 fu uB) (fun x55=>
 bd (b9 fu pa0.gTrait) (fun x57=>
 bd (r_sl12Args ([x55,x57]:List aB) pa0.gArgs) (fun x59=>
 some (aB.mk x59.gAtom x59.gList)))))
 (sw (decide ((pa0.gKind:Int)=12))
 (bd (b9 fu RI) (fun x62=>
 bd (k7 fu pa0.gType) (fun x64=>
 bd (r_sl12Args ([x62,x64]:List aB) pa0.gArgs) (fun x66=>
 some (aB.mk x66.gAtom x66.gList)))))
 (bd (b9 fu uA) (fun x68=>
 bd (r_sl12Args ([x68]:List aB) pa0.gArgs) (fun x70=>
 so (adL fu r_sl12Sx r_sl12Args pa0 x68 x70) (fun v73=>
 some (aB.mk x70.gAtom v73)))))))))))))))
theorem W6(fu:Nat)(r_sl12Sx:m6)(r_sl12Args:jL)(h_sl12Sx:B4 r_sl12Sx)(h_sl12Args:zZ r_sl12Args):B4 (OL fu r_sl12Sx r_sl12Args):=by
 intro pa0 r H
 have H:=fI H
 refine qI Tryz.func270 (fun C hC=>?_)
 refine qS (qR (q1 (jU (gY pa0)) (q1 (iV b6) (qN ?_))))
 iterate 2 refine qS ?_
 refine qR (q1 (a5 pQ) (q1 (bG jQ) (qN (aP.block (qS (qR (q1 eM (q1 aF (qN ?_)))))))))
 refine bA H (fun h1 H=>?_) (fun h1 H=>?_)
 ·refine qS (qR (q1 (a5 BD) (q1 (bG jQ) (bO H fun x3 z2 H=>(q1 (bI Tryz.func281 (xK fu pa0.gN _ z2)) (bO H fun x5 z4 H=>(q1 (bI Tryz.func266 (bW fu x3 _ z4)) (q1 (bU eA) (qN (aP.ret ?_))))))))))
  obtain rfl:_=r:=(aY H:)
  exact bM (hr:=⟨⟨_,_,_,rfl,rfl,bN,rfl,rfl⟩,trivial⟩)
 refine qS (qR (q1 eM (q1 aF (qN ?_))))
 refine bA H (fun h6 H=>?_) (fun h6 H=>?_)
 ·refine qS (qR (q1 (iA ([kF,nP]:List ByteArray) b3 lA) (q1 (a5 BD) (q1 (bG jQ) (dF H fun z7 H=>(q1 (rIy z7 b3) (q1 (pZ fB) (bO H fun x9 z8 H=>(q1 (bI Tryz.func266 (bW fu (a3 ([kF,nP]:List ByteArray) ((pa0.gN).toNat)) _ z8)) (q1 (bU eA) (qN (aP.ret ?_))))))))))))
  obtain rfl:_=r:=(aY H:)
  exact bM (hr:=⟨⟨_,_,_,rfl,rfl,bN,rfl,rfl⟩,trivial⟩)
 refine qS (qR (q1 eM (q1 aF (qN ?_))))
 refine bA H (fun h10 H=>?_) (fun h10 H=>?_)
 ·refine qS (qR (q1 (a5 nU) (q1 (bG fB) (bO H fun x12 z11 H=>(q1 (bI Tryz.func266 (bW fu pa0.gName _ z11)) (q1 (bU eA) (qN (aP.ret ?_))))))))
  obtain rfl:_=r:=(aY H:)
  exact bM (hr:=⟨⟨_,_,_,rfl,rfl,bN,rfl,rfl⟩,trivial⟩)
 refine qS (qR (q1 eM (q1 aF (qN ?_))))
 refine bA H (fun h13 H=>?_) (fun h13 H=>?_)
 ·refine qS (bO H fun x15 z14 H=>(bO H fun x17 z16 H=>(bO H fun x19 z18 H=>(dW (dI [] (bI Tryz.func266 (bW fu JX _ z14)) (dI [1] (a5 nU) (dD [31] (bG fB) (dI [32] (bI Tryz.func266 (bW fu pa0.gName _ z16)) (dE [30,33] (t2 ([x15,x17]:List aB) bE b6) (dI [1] (a5 jJ) (dB [35] 0 1 (vC uD) (dE [34,36] (f7 [] [0] Tryz.func282 (h_sl12Args ([x15,x17]:List aB) pa0.gArgs _ z18)) (nI [2,37] (bU eA) ?_)))))))))))))
  refine dN (aP.ret ?_)
  obtain rfl:_=r:=(aY H:)
  exact bM (hr:=⟨⟨_,_,_,rfl,rfl,bN,rfl,rfl⟩,trivial⟩)
 refine qS (qR (q1 eM (q1 aF (qN ?_))))
 refine bA H (fun h20 H=>?_) (fun h20 H=>?_)
 ·refine qS (bO H fun x22 z21 H=>(bO H fun x24 z23 H=>(bO H fun x26 z25 H=>(bO H fun x28 z27 H=>(dW (dI [] (bI Tryz.func266 (bW fu m4 _ z21)) (dI [1] (a5 IX) (dD [41] (bG fB) (dI [42] (bI Tryz.func266 (bW fu pa0.gTrait _ z23)) (dI [1] (a5 nU) (dD [44] (bG fB) (dI [45] (bI Tryz.func266 (bW fu pa0.gName _ z25)) (dE [40,43,46] (t2 ([x22,x24,x26]:List aB) bE b6) ?_)))))))))))))
  refine dI [1] (a5 jJ) (dB [48] 0 1 (vC uD) (dE [47,49] (f7 [] [0] Tryz.func282 (h_sl12Args ([x22,x24,x26]:List aB) pa0.gArgs _ z27)) (nI [2,50] (bU eA) (dN (aP.ret ?_)))))
  obtain rfl:_=r:=(aY H:)
  exact bM (hr:=⟨⟨_,_,_,rfl,rfl,bN,rfl,rfl⟩,trivial⟩)
 refine qS (qR (q1 eM (q1 aF (qN ?_))))
 refine bA H (fun h29 H=>?_) (fun h29 H=>?_)
 ·refine qS (bO H fun x31 z30 H=>(bO H fun x33 z32 H=>(bO H fun x35 z34 H=>(dW (dI [] (bI Tryz.func266 (bW fu AJ _ z30)) (dI [1] (a5 nU) (dD [54] (bG fB) (dI [55] (bI Tryz.func266 (bW fu pa0.gName _ z32)) (dE [53,56] (t2 ([x31,x33]:List aB) bE b6) (dI [1] (a5 jJ) (dB [58] 0 1 (vC uD) (dE [57,59] (f7 [] [0] Tryz.func282 (h_sl12Args ([x31,x33]:List aB) pa0.gArgs _ z34)) (nI [2,60] (bU eA) ?_)))))))))))))
  refine dN (aP.ret ?_)
  obtain rfl:_=r:=(aY H:)
  exact bM (hr:=⟨⟨_,_,_,rfl,rfl,bN,rfl,rfl⟩,trivial⟩)
 refine qS (qR (q1 eM (q1 aF (qN ?_))))
 refine bA H (fun h36 H=>?_) (fun h36 H=>?_)
 ·refine qS (bO H fun x38 z37 H=>(bO H fun x40 z39 H=>(bO H fun x42 z41 H=>(dW (dI [] (bI Tryz.func266 (bW fu AI _ z37)) (dI [1] (a5 nU) (dD [64] (bG fB) (dI [65] (bI Tryz.func266 (bW fu pa0.gName _ z39)) (dE [63,66] (t2 ([x38,x40]:List aB) bE b6) (dI [1] (a5 jJ) (dB [68] 0 1 (vC uD) (dE [67,69] (f7 [] [0] Tryz.func282 (h_sl12Args ([x38,x40]:List aB) pa0.gArgs _ z41)) (nI [2,70] (bU eA) ?_)))))))))))))
  refine dN (aP.ret ?_)
  obtain rfl:_=r:=(aY H:)
  exact bM (hr:=⟨⟨_,_,_,rfl,rfl,bN,rfl,rfl⟩,trivial⟩)
 refine qS (qR (q1 eM (q1 aF (qN ?_))))
 refine bA H (fun h43 H=>?_) (fun h43 H=>?_)
 ·refine qS (bO H fun x45 z44 H=>(bO H fun x47 z46 H=>(dW (dI [] (bI Tryz.func266 (bW fu zU _ z44)) (dE [73] (t2 ([x45]:List aB) bE b6) (dI [1] (a5 jJ) (dB [75] 0 1 (vC uD) (dE [74,76] (f7 [] [0] Tryz.func282 (h_sl12Args ([x45]:List aB) pa0.gArgs _ z46)) (nI [2,77] (bU eA) (dN (aP.ret ?_)))))))))))
  obtain rfl:_=r:=(aY H:)
  exact bM (hr:=⟨⟨_,_,_,rfl,rfl,bN,rfl,rfl⟩,trivial⟩)
 refine qS (qR (q1 eM (q1 aF (qN ?_))))
 refine bA H (fun h48 H=>?_) (fun h48 H=>?_)
 ·refine qS (bO H fun x50 z49 H=>(bO H fun x52 z51 H=>(dW (dI [1] (a5 nU) (dD [80] (bG fB) (dI [81] (bI Tryz.func266 (bW fu pa0.gName _ z49)) (dE [82] (t2 ([x50]:List aB) bE b6) (dI [1] (a5 jJ) (dB [84] 0 1 (vC uD) (dE [83,85] (f7 [] [0] Tryz.func282 (h_sl12Args ([x50]:List aB) pa0.gArgs _ z51)) (nI [2,86] (bU eA) (dN (aP.ret ?_)))))))))))))
  obtain rfl:_=r:=(aY H:)
  exact bM (hr:=⟨⟨_,_,_,rfl,rfl,bN,rfl,rfl⟩,trivial⟩)
 refine qS (qR (q1 eM (q1 aF (qN ?_))))
 refine bA H (fun h53 H=>?_) (fun h53 H=>?_)
 ·refine qS (bO H fun x55 z54 H=>(bO H fun x57 z56 H=>(bO H fun x59 z58 H=>(dW (dI [] (bI Tryz.func266 (bW fu uB _ z54)) (dI [1] (a5 IX) (dD [90] (bG fB) (dI [91] (bI Tryz.func266 (bW fu pa0.gTrait _ z56)) (dE [89,92] (t2 ([x55,x57]:List aB) bE b6) (dI [1] (a5 jJ) (dB [94] 0 1 (vC uD) (dE [93,95] (f7 [] [0] Tryz.func282 (h_sl12Args ([x55,x57]:List aB) pa0.gArgs _ z58)) (nI [2,96] (bU eA) ?_)))))))))))))
  refine dN (aP.ret ?_)
  obtain rfl:_=r:=(aY H:)
  exact bM (hr:=⟨⟨_,_,_,rfl,rfl,bN,rfl,rfl⟩,trivial⟩)
 refine qS (qR (q1 eM (q1 aF (qN ?_))))
 refine bA H (fun h60 H=>?_) (fun h60 H=>?_)
 ·refine qS (bO H fun x62 z61 H=>(bO H fun x64 z63 H=>(bO H fun x66 z65 H=>(dW (dI [] (bI Tryz.func266 (bW fu RI _ z61)) (dI [1] (a5 vJ) (dD [100] (cV [pI pa0.gType.gKind,pS pa0.gType.gName,a4 pa0.gType.gArgs] cH) (dI [101] (bI Tryz.func269 (tR fu pa0.gType _ z63)) (dE [99,102] (t2 ([x62,x64]:List aB) bE b6) (dI [1] (a5 jJ) (dB [104] 0 1 (vC uD) (dE [103,105] (f7 [] [0] Tryz.func282 (h_sl12Args ([x62,x64]:List aB) pa0.gArgs _ z65)) (nI [2,106] (bU eA) ?_)))))))))))))
  refine dN (aP.ret ?_)
  obtain rfl:_=r:=(aY H:)
  exact bM (hr:=⟨⟨_,_,_,rfl,rfl,bN,rfl,rfl⟩,trivial⟩)
 refine aP.skip (qS (bO H fun x68 z67 H=>(bO H fun x70 z69 H=>(dWa (dI [] (bI Tryz.func266 (bW fu uA _ z67)) ?_)))))
 refine dEz [107] (fun _ z=>by cases z<;>exact t2 ([x68]:List aB) bE b6) ?_;refine dI [1] (a5 jJ) (dBz [109] 0 1 (vC uD) ?_)
 refine dEz [108,110] (fun _ z=>by cases z<;>exact f7 [] [0] Tryz.func282 (h_sl12Args ([x68]:List aB) pa0.gArgs _ z69)) ?_;refine dA (fun _ st h=>vAl h b6) (dZ 3 [3,111] (bU eA) (dN ?_))
 iterate 2 refine qS ?_
 refine qR (q1 aF (qN ?_))
 refine aP.fact (cO 0 8 rfl rfl rfl (bJ.trs_len _)) (fun hl74=>?_)
 refine cM (σ:=(List aB)) (fun i71 v73=>⟨[(1,.ptr 0 0),(2,.ptr 1 0),(3,.ptr 2 0),(4,pN i71)],⟨[some ⟨87,gY pa0⟩,some ⟨237,[pS s_,.nil]⟩,some ⟨237,[pS x70.gAtom,dY v73 0]⟩],[⟨237,2,aB.trs (v73),false⟩]⟩⟩) (fun v73=>⟨[(2,.ptr 1 0),(3,.ptr 2 0)],⟨[some ⟨87,gY pa0⟩,some ⟨237,[pS s_,.nil]⟩,some ⟨237,[pS x70.gAtom,dY v73 0]⟩],[⟨237,2,aB.trs (v73),false⟩]⟩⟩) (gU H) ?_ ?_
 ·rintro i71 v73 H
  iterate 2 refine qS ?_
  refine qR (q1 aF (q1 (a5 gS) (q1 (bG rN) (q1 (eT pP (bJ.trs_len _)) (q1 hZ (qN ?_))))))
  refine eW H (fun h75 h75l H=>?_) (fun h75 H=>?_)
  ·have h75n:=a8 h75
   refine aP.skip (qS (aP.block (qS (qR (q1 (a5 gS) (q1 (bG rN) (q1 aF (g0 H fun y76 h77 H=>(q1 (yO h77 h75n pP) (q1 (j0 (bJ.cs y76) agS) (q1 (iV UY) (q1 (bU ag0) (qN ?_)))))))))))))
   refine qS (bO H fun x79 z78 H=>(bO H fun x81 z80 H=>(dF H fun z82 H=>(dW (dI [5] (a5 BE) (dD [124] (bG fB) (dI [125] (bI Tryz.func266 (bW fu y76.gConstructor _ z78)) (dE [126] (t2 ([x79]:List aB) bE b6) (dI [5] (a5 BF) (dB [128] 0 1 (vC lK) (dI [129] (bI Tryz.func280 (KW fu y76.gVars _ z80)) (dE [127,130] (mJ z82 bE o6) (dI [131] aF ?_)))))))))))))
   refine dN (bO H fun x84 z83 H=>(dF H fun z85 H=>(dF H fun z86 H=>(dW (dI [3] (a5 bD) (dB [132] 0 1 (vC cQ) (dI [6] aF (dI [5] (a5 IY) (dD [135] (cV [pI y76.gBody.gKind,pS y76.gBody.gTrait,pS y76.gBody.gName,pI y76.gBody.gN,pI y76.gBody.gType.gKind,pS y76.gBody.gType.gName,a4 y76.gBody.gType.gArgs,gQ y76.gBody.gArgs,oM y76.gBody.gArms] hP) (dI [136] (bI Tryz.func270 (h_sl12Sx y76.gBody _ z83)) (dI [137] (iA ([x84]:List aB) bE b6) (dE [134,138] (mJ z85 bE o6) (dI [139] (f6 b6 l3) ?_)))))))))))))
   refine dI [140] (iA ([(aB.mk s_ ((([x79]:List aB)++x81)++([x84]:List aB)))]:List aB) bE b6) (dE [133,141] (mJ z86 bE o6) (dI [3] (a5 bD) (nI [143,142] (bU w5) (dN (qR (q1 aF (q1 (aV.addI rfl rfl rfl rfl (c:=((i71+1:Nat):Int)) (by omega) (by omega)) (q1 aF (qN ?_)))))))))
   exact iY h75l ⟨_,(aY H:),b0⟩
  refine aP.exit ?_;exact lS ⟨_,H,b0⟩
 rintro v73 H
 refine qS (qR (q1 (cV [pS x70.gAtom,dY v73 0] bN) (q1 (bU eA) (qN (aP.ret ?_)))))
 obtain rfl:_=r:=(aY H:)
 exact bM (hr:=⟨⟨_,_,_,rfl,rfl,bN,rfl,rfl⟩,trivial⟩)
def W0(fu:Nat)(r_sl12Sx:m6)(r_sl12Args:jL)(phead:List aB)(plist:List aG):Nat→((List aB))→Option (LR ((List aB)) aB):=
 fun i1 v3=>lt (a3 plist i1) (fun y6=>
 bd (r_sl12Sx y6) (fun x9=>
 gd ((v3).length+(([x9]:List aB)).length≤68719476736)
 (some (.next (v3++([x9]:List aB))))))
def W1(fu:Nat)(r_sl12Sx:m6)(r_sl12Args:jL)(phead:List aB)(plist:List aG):Option (aB⊕((List aB))):=
 loopN (W0 fu r_sl12Sx r_sl12Args phead plist) (plist.length-0) 0 phead
def GE(fu:Nat)(r_sl12Sx:m6)(r_sl12Args:jL)(phead:List aB)(plist:List aG):Option aB:=
 so (W1 fu r_sl12Sx r_sl12Args phead plist) (fun v3=>
 some (aB.mk s_ v3))
theorem QR(fu:Nat)(r_sl12Sx:m6)(r_sl12Args:jL)(h_sl12Sx:B4 r_sl12Sx)(h_sl12Args:zZ r_sl12Args):zZ (GE fu r_sl12Sx r_sl12Args):=by
 intro phead plist r H
 have H:=fI H
 refine qI Tryz.func282 (fun C hC=>?_)
 refine qS (qR (q1 (iV b6) (qN (qS (qR (q1 aF (q1 (f6 b6 l3) (q1 (iV b6) (q1 (bU eA) (qN ?_))))))))))
 iterate 2 refine qS ?_
 refine qR (q1 aF (qN ?_))
 refine lR 1 (aG.trs_len _) (fun hl4=>?_)
 refine cM (σ:=(List aB)) (fun i1 v3=>⟨[(1,gQ plist),(4,.ptr 0 0),(5,.ptr 1 0),(6,pN i1)],⟨[some ⟨237,[pS s_,.nil]⟩,some ⟨237,[pS s_,dY v3 0]⟩],[⟨237,2,aB.trs (v3),false⟩]⟩⟩) (fun v3=>⟨[(4,.ptr 0 0),(5,.ptr 1 0)],⟨[some ⟨237,[pS s_,.nil]⟩,some ⟨237,[pS s_,dY v3 0]⟩],[⟨237,2,aB.trs (v3),false⟩]⟩⟩) (gU H) ?_ ?_
 ·rintro i1 v3 H
  iterate 2 refine qS ?_
  refine qR ?_
  iterate 2 refine q1 aF ?_
  refine q1 (eT nK (aG.trs_len _)) (q1 hZ (qN ?_))
  refine eW H (fun h5 h5l H=>?_) (fun h5 H=>?_)
  ·have h5n:=a8 h5
   refine aP.skip (qS (aP.block (g0 H fun y6 h7 H=>(bO H fun x9 z8 H=>(dF H fun z10 H=>(dW (dI [5] (a5 bD) (dD [15] (bG cQ) (dI [1] aF (dI [6] aF (dI [17,18] (yO h7 h5n nK) (dI [19] (j0 (aG.cs y6) hP) (dI [20] (bI Tryz.func270 (h_sl12Sx y6 _ z8)) ?_)))))))))))))
   refine dI [21] (iA ([x9]:List aB) bE b6) (dE [16,22] (mJ z10 bE o6) (dI [5] (a5 bD) (nI [24,23] (bU w5) (dN (qR (q1 aF (q1 (aV.addI rfl rfl rfl rfl (c:=((i1+1:Nat):Int)) (by omega) (by omega)) (q1 aF (qN ?_)))))))))
   exact iY h5l ⟨_,(aY H:),b0⟩
  refine aP.exit ?_;exact lS ⟨_,H,b0⟩
 rintro v3 H
 refine qS (qR (q1 (cV [pS s_,dY v3 0] bN) (q1 (bU eA) (qN (aP.ret ?_)))))
 obtain rfl:_=r:=(aY H:)
 exact bM (hr:=⟨⟨_,_,_,rfl,rfl,bN,rfl,rfl⟩,trivial⟩)
mutual
def kV:Nat→aG→Option aB
 |0,_=>none
 |fu+1,pa0=>OL fu (kV fu) (mQ fu) pa0
def mQ:Nat→(List aB)→(List aG)→Option aB
 |0,_,_=>none
 |fu+1,phead,plist=>GE fu (kV fu) (mQ fu) phead plist
end
theorem ZW(fu:Nat):B4 (kV fu)∧zZ (mQ fu):=by
 induction fu with
 |zero=>exact⟨(fun pa0 r H=>by simp only [kV] at H;cases H),(fun phead plist r H=>by simp only [mQ] at H;cases H)⟩
 |succ fu ih=>exact⟨(fun pa0 r H=>by simp only [kV] at H;exact W6 fu (kV fu) (mQ fu) ih.1 ih.2 pa0 r H),(fun phead plist r H=>by simp only [mQ] at H;exact QR fu (kV fu) (mQ fu) ih.1 ih.2 phead plist r H)⟩
theorem J2(fu:Nat):B4 (kV fu):=(ZW fu).1
end
end Go.Proofs.YtpioomclpaiomaaGreat.W

namespace Go.Proofs.YtpioomclpaiomaaGreat.W
set_option maxRecDepth 100000
set_option maxHeartbeats 40000000
noncomputable section
open Go.RowKit Go.Proofs
set_option linter.unusedSimpArgs false
set_option linter.unusedVariables false
attribute [local irreducible] lt
abbrev mP:=aG→Int→Option Int
def zY(m:mP):Prop:= ∀(pe:aG) (pleft:Int) (r:Int),m pe pleft=some r→cE Tryz.prog 293 [(aG.pv pe),pI pleft] (pI r:PV)
def WR(fu:Nat)(r_sl11Left:mP)(pe:aG)(pleft:Int):Nat→Int→Option (LR Int Int):=
 fun i1 v2=>sw (decide ((v2:Int)≥0))
 (lt (a3 pe.gArgs i1) (fun y6=>
 bd (r_sl11Left y6 v2) (fun x9=>
 some (.next x9))))
 (some (.brk v2))
def WU(fu:Nat)(r_sl11Left:mP)(pe:aG)(pleft:Int):Option (Int⊕Int):=
 loopN (WR fu r_sl11Left pe pleft) (pe.gArgs.length-0) 0 (aQ (pleft-1))
def WT(fu:Nat)(r_sl11Left:mP)(pe:aG)(pleft v2:Int):Nat→Int→Option (LR Int Int):=
 fun i10 v11=>sw (decide ((v11:Int)≥0))
 (lt (a3 pe.gArms i10) (fun y15=>
 bd (r_sl11Left y15.gBody v11) (fun x18=>
 some (.next x18))))
 (some (.brk v11))
def WV(fu:Nat)(r_sl11Left:mP)(pe:aG)(pleft v2:Int):Option (Int⊕Int):=
 loopN (WT fu r_sl11Left pe pleft v2) (pe.gArms.length-0) 0 v2
def GC(fu:Nat)(r_sl11Left:mP)(pe:aG)(pleft:Int):Option Int:=
 so (WU fu r_sl11Left pe pleft) (fun v2=>
 so (WV fu r_sl11Left pe pleft v2) (fun v11=>
 some v11))
theorem QQ(fu:Nat)(r_sl11Left:mP)(h_sl11Left:zY r_sl11Left):zY (GC fu r_sl11Left):=by
 intro pe pleft r H
 have H:=fI H
 refine qI Tryz.func293 (fun C hC=>?_)
 refine qS (qR (q1 (jU (gY pe)) (q1 aF (qN (qS (qR (q1 aF (q1 AF (q1 aF (qN ?_))))))))))
 iterate 2 refine qS ?_
 refine qR (q1 aF (qN ?_))
 refine aP.fact (cO 0 7 rfl rfl rfl (aG.trs_len _)) (fun hl3=>?_)
 refine cM (σ:=Int) (fun i1 v2=>⟨[(1,pI v2),(2,.ptr 0 0),(4,pI 0),(5,pN i1)],⟨[some ⟨87,gY pe⟩],[]⟩⟩) (fun v2=>⟨[(1,pI v2),(2,.ptr 0 0),(4,pI 0)],⟨[some ⟨87,gY pe⟩],[]⟩⟩) (gU H) ?_ ?_
 ·rintro i1 v2 H
  iterate 2 refine qS ?_
  refine qR (q1 aF (q1 (a5 jJ) (q1 (bG uD) (q1 (eT nK (aG.trs_len _)) (q1 hZ (q1 aF ?_))))))
  refine AL.splitB 14 rfl (fun g4=>?_) (fun g4=>?_)
  ·have g4l:=sH g4
   have H:=lnT g4l H
   have g4n:=a8 g4
   refine qg g4 aF (qg g4 RG (q1 (bR g4) (qN ?_)))
   refine bA H (fun h5 H=>?_) (fun h5 H=>?_)
   ·refine aP.skip (qS (aP.block (qR (q1 (a5 jJ) (q1 (bG uD) (q1 aF (g0 H fun y6 h7 H=>(q1 (yO h7 g4n nK) (q1 (j0 (aG.cs y6) hP) (q1 aF (bO H fun x9 z8 H=>(q1 (bI Tryz.func293 (h_sl11Left y6 v2 _ z8)) (q1 aF ?_)))))))))))))
    refine qN (qR (q1 aF (q1 (aV.addI rfl rfl rfl rfl (c:=((i1+1:Nat):Int)) (by omega) (by omega)) (q1 aF (qN ?_)))))
    exact iY g4l ⟨_,(aY H:),b0⟩
   refine aP.exit ?_;exact lpB ⟨_,(aY H:),b0⟩
  have H:=lnE (sG g4) H
  iterate 2 refine qk g4 ?_
  refine q1 (b5 g4) (qN (iX rfl (aP.exit ?_)))
  exact lS ⟨_,H,b0⟩
 rintro v2 H
 iterate 2 refine qS ?_
 refine qR (q1 aF (qN ?_))
 refine aP.fact (cO 0 8 rfl rfl rfl (bJ.trs_len _)) (fun hl12=>?_)
 refine cM (σ:=Int) (fun i10 v11=>⟨[(1,pI v11),(2,.ptr 0 0),(4,pI 0),(6,pN i10)],⟨[some ⟨87,gY pe⟩],[]⟩⟩) (fun v11=>⟨[(1,pI v11),(4,pI 0)],⟨[some ⟨87,gY pe⟩],[]⟩⟩) (gU H) ?_ ?_
 ·rintro i10 v11 H
  iterate 2 refine qS ?_
  refine qR (q1 aF (q1 (a5 gS) (q1 (bG rN) (q1 (eT pP (bJ.trs_len _)) (q1 hZ (q1 aF ?_))))))
  refine AL.splitB 32 rfl (fun g13=>?_) (fun g13=>?_)
  ·have g13l:=sH g13
   have H:=lnT g13l H
   have g13n:=a8 g13
   refine qg g13 aF (qg g13 RG (q1 (bR g13) (qN ?_)))
   refine bA H (fun h14 H=>?_) (fun h14 H=>?_)
   ·refine aP.skip (qS (aP.block (qR (q1 (a5 gS) (q1 (bG rN) (q1 aF (g0 H fun y15 h16 H=>(q1 (yO h16 g13n pP) (q1 (qX IY) (q1 (j0 (aG.cs y15.gBody) hP) (q1 aF (bO H fun x18 z17 H=>(q1 (bI Tryz.func293 (h_sl11Left y15.gBody v11 _ z17)) ?_)))))))))))))
    refine q1 aF (qN (qR (q1 aF (q1 (aV.addI rfl rfl rfl rfl (c:=((i10+1:Nat):Int)) (by omega) (by omega)) (q1 aF (qN ?_))))))
    exact iY g13l ⟨_,(aY H:),b0⟩
   refine aP.exit ?_;exact lpB ⟨_,(aY H:),b0⟩
  have H:=lnE (sG g13) H
  iterate 2 refine qk g13 ?_
  refine q1 (b5 g13) (qN (iX rfl (aP.exit ?_)))
  exact lS ⟨_,H,b0⟩
 rintro v11 H
 refine qS (qR ?_)
 iterate 2 refine q1 aF ?_
 refine qN (aP.ret ?_)
 obtain rfl:_=r:=(aY H:)
 exact bM
def lO:Nat→aG→Int→Option Int
 |0,_,_=>none
 |fu+1,pe,pleft=>GC fu (lO fu) pe pleft
theorem S2(fu:Nat):zY (lO fu):=by
 induction fu with
 |zero=>exact(fun pe pleft r H=>by simp only [lO] at H;cases H)
 |succ fu ih=>exact(fun pe pleft r H=>by simp only [lO] at H;exact QQ fu (lO fu) ih pe pleft r H)
theorem WX(fu:Nat):zY (lO fu):=(S2 fu)
def adH(m:Int→Option (Bool×Bool×Bool×Bool×Int×Bool)):Prop:= ∀(pk:Int) (r:Bool×Bool×Bool×Bool×Int×Bool),m pk=some r→cE Tryz.prog 296 [pI pk] (.tup [pB r.1,pB r.2.1,pB r.2.2.1,pB r.2.2.2.1,pI r.2.2.2.2.1,pB r.2.2.2.2.2]:PV)
def ZN(fu:Nat)(pk:Int):Option ((Bool×Bool×Bool×Bool×Int×Bool)⊕Bool):=
 sw (decide ((pk:Int)=1))
 (some (.inr (decide ((pk:Int)=1))))
 (some (.inr (decide ((pk:Int)=2))))
def ZO(fu:Nat)(pk:Int)(v1:Bool):Option ((Bool×Bool×Bool×Bool×Int×Bool)⊕Bool):=
 sw (decide ((pk:Int)=4))
 (some (.inr (decide ((pk:Int)=4))))
 (some (.inr (decide ((pk:Int)=6))))
def ZP(fu:Nat)(pk:Int)(v1 v5:Bool):Option ((Bool×Bool×Bool×Bool×Int×Bool)⊕Bool):=
 sw (decide ((pk:Int)=8))
 (some (.inr (decide ((pk:Int)=8))))
 (some (.inr (decide ((pk:Int)=10))))
def J0(fu:Nat)(pk:Int):Option (Bool×Bool×Bool×Bool×Int×Bool):=
 so (ZN fu pk) (fun v1=>
 sw (v1)
 (some (false,false,true,false,0,false))
 (sw (decide ((pk:Int)=3))
 (some (false,true,false,false,0,false))
 (so (ZO fu pk v1) (fun v5=>
 sw (v5)
 (some (false,true,false,false,(-1),false))
 (sw (decide ((pk:Int)=5))
 (some (true,true,false,false,(-1),false))
 (sw (decide ((pk:Int)=7))
 (some (false,false,false,false,1,true))
 (so (ZP fu pk v1 v5) (fun v10=>
 sw (v10)
 (some (false,true,false,false,2,false))
 (sw (decide ((pk:Int)=9))
 (some (false,false,false,false,3,false))
 (sw (decide ((pk:Int)=11))
 (some (true,false,false,false,1,false))
 (some (false,false,false,true,1,false))))))))))))
theorem ZQ(fu:Nat):adH (J0 fu):=by
 intro pk r H
 have H:=fI H
 refine qI Tryz.func296 (fun C hC=>?_)
 refine qS (qR ?_)
 iterate 6 refine q1 aF ?_
 refine qN ?_
 iterate 2 refine qS ?_
 refine qR (q1 aF (qN (aP.block (qS ?_))))
 refine o7 (σ:=Bool) (fun v1=>⟨[(2,pB false),(3,pB false),(4,pB false),(5,pB false),(6,pI 0),(7,pB false),(8,pI pk),(9,pB v1)],⟨[],[]⟩⟩) (gU H) (fun H=>?_) ?_
 ·refine qS (qR (q1 eM (q1 aF (qN ?_))))
  refine bA H (fun h2 H=>?_) (fun h2 H=>?_)
  ·refine aP.skip ?_;exact dP ⟨_,(aY H:),b0⟩
  refine qR (q1 eM (q1 aF (qN ?_)))
  exact dP ⟨_,(aY H:),b0⟩
 rintro v1 H
 refine bA H (fun h3 H=>?_) (fun h3 H=>?_)
 ·refine qS (qR ?_)
  iterate 6 refine q1 aF ?_
  refine qN (aP.ret ?_)
  obtain rfl:_=r:=(aY H:)
  exact qe (ps:= [_,_,_,_,_,_]) ⟨rfl,rfl⟩ ⟨rfl,rfl,rfl,rfl,rfl,rfl,trivial⟩
 refine qS (qR (q1 eM (q1 aF (qN ?_))))
 refine bA H (fun h4 H=>?_) (fun h4 H=>?_)
 ·refine qS (qR ?_)
  iterate 6 refine q1 aF ?_
  refine qN (aP.ret ?_)
  obtain rfl:_=r:=(aY H:)
  exact qe (ps:= [_,_,_,_,_,_]) ⟨rfl,rfl⟩ ⟨rfl,rfl,rfl,rfl,rfl,rfl,trivial⟩
 refine qS ?_;refine o7 (σ:=Bool) (fun v5=>⟨[(2,pB false),(3,pB false),(4,pB false),(5,pB false),(6,pI 0),(7,pB false),(8,pI pk),(14,pB v5)],⟨[],[]⟩⟩) (gU H) (fun H=>?_) ?_
 ·refine qS (qR (q1 eM (q1 aF (qN ?_))))
  refine bA H (fun h6 H=>?_) (fun h6 H=>?_)
  ·refine aP.skip ?_;exact dP ⟨_,(aY H:),b0⟩
  refine qR (q1 eM (q1 aF (qN ?_)))
  exact dP ⟨_,(aY H:),b0⟩
 rintro v5 H
 refine bA H (fun h7 H=>?_) (fun h7 H=>?_)
 ·refine qS (qR ?_)
  iterate 6 refine q1 aF ?_
  refine qN (aP.ret ?_)
  obtain rfl:_=r:=(aY H:)
  exact qe (ps:= [_,_,_,_,_,_]) ⟨rfl,rfl⟩ ⟨rfl,rfl,rfl,rfl,rfl,rfl,trivial⟩
 refine qS (qR (q1 eM (q1 aF (qN ?_))))
 refine bA H (fun h8 H=>?_) (fun h8 H=>?_)
 ·refine qS (qR ?_)
  iterate 6 refine q1 aF ?_
  refine qN (aP.ret ?_)
  obtain rfl:_=r:=(aY H:)
  exact qe (ps:= [_,_,_,_,_,_]) ⟨rfl,rfl⟩ ⟨rfl,rfl,rfl,rfl,rfl,rfl,trivial⟩
 refine qS (qR (q1 eM (q1 aF (qN ?_))))
 refine bA H (fun h9 H=>?_) (fun h9 H=>?_)
 ·refine qS (qR ?_)
  iterate 6 refine q1 aF ?_
  refine qN (aP.ret ?_)
  obtain rfl:_=r:=(aY H:)
  exact qe (ps:= [_,_,_,_,_,_]) ⟨rfl,rfl⟩ ⟨rfl,rfl,rfl,rfl,rfl,rfl,trivial⟩
 refine qS ?_;refine o7 (σ:=Bool) (fun v10=>⟨[(2,pB false),(3,pB false),(4,pB false),(5,pB false),(6,pI 0),(7,pB false),(8,pI pk),(21,pB v10)],⟨[],[]⟩⟩) (gU H) (fun H=>?_) ?_
 ·refine qS (qR (q1 eM (q1 aF (qN ?_))))
  refine bA H (fun h11 H=>?_) (fun h11 H=>?_)
  ·refine aP.skip ?_;exact dP ⟨_,(aY H:),b0⟩
  refine qR (q1 eM (q1 aF (qN ?_)))
  exact dP ⟨_,(aY H:),b0⟩
 rintro v10 H
 refine bA H (fun h12 H=>?_) (fun h12 H=>?_)
 ·refine qS (qR ?_)
  iterate 6 refine q1 aF ?_
  refine qN (aP.ret ?_)
  obtain rfl:_=r:=(aY H:)
  exact qe (ps:= [_,_,_,_,_,_]) ⟨rfl,rfl⟩ ⟨rfl,rfl,rfl,rfl,rfl,rfl,trivial⟩
 refine qS (qR (q1 eM (q1 aF (qN ?_))))
 refine bA H (fun h13 H=>?_) (fun h13 H=>?_)
 ·refine qS (qR ?_)
  iterate 6 refine q1 aF ?_
  refine qN (aP.ret ?_)
  obtain rfl:_=r:=(aY H:)
  exact qe (ps:= [_,_,_,_,_,_]) ⟨rfl,rfl⟩ ⟨rfl,rfl,rfl,rfl,rfl,rfl,trivial⟩
 refine qS (qR (q1 eM (q1 aF (qN ?_))))
 refine bA H (fun h14 H=>?_) (fun h14 H=>?_)
 ·refine qS (qR ?_)
  iterate 6 refine q1 aF ?_
  refine qN (aP.ret ?_)
  obtain rfl:_=r:=(aY H:)
  exact qe (ps:= [_,_,_,_,_,_]) ⟨rfl,rfl⟩ ⟨rfl,rfl,rfl,rfl,rfl,rfl,trivial⟩
 refine aP.skip (qS (qR ?_))
 iterate 6 refine q1 aF ?_
 refine qN (aP.ret ?_)
 obtain rfl:_=r:=(aY H:)
 exact qe (ps:= [_,_,_,_,_,_]) ⟨rfl,rfl⟩ ⟨rfl,rfl,rfl,rfl,rfl,rfl,trivial⟩
def ZS(m:ByteArray→Option Bool):Prop:= ∀(ps:ByteArray) (r:Bool),m ps=some r→cE Tryz.prog 297 [pS ps] (pB r:PV)
def GD(fu:Nat)(ps:ByteArray):Option Bool:=
 bd (l7 fu ([wG,AY,H8,H9,IA]:List ByteArray) ps) (fun x2=>
 some x2)
theorem WY(fu:Nat):ZS (GD fu):=by
 intro ps r H
 have H:=fI H
 refine qI Tryz.func297 (fun C hC=>?_)
 refine qS (qR (q1 aF (qN (qS (qR (q1 (iA ([wG,AY,H8,H9,IA]:List ByteArray) b3 lA) (q1 aF (bO H fun x2 z1 H=>(q1 (bI Tryz.func125 (l8 fu ([wG,AY,H8,H9,IA]:List ByteArray) ps _ z1)) (q1 aF (qN (aP.ret ?_))))))))))))
 obtain rfl:_=r:=(aY H:)
 exact bM
def ZT(m:aA→Option Bool):Prop:= ∀(pt:aA) (r:Bool),m pt=some r→cE Tryz.prog 277 [(aA.pv pt)] (pB r:PV)
def qE(fu:Nat)(pt:aA):Option Bool:=
 sw (decide ((pt.gKind:Int)=0))
 (sw (decide (pt.gName=s_))
 (some (decide ((((pt.gArgs.length:Nat):Int):Int)=0)))
 (some false))
 (some false)
theorem tN(fu:Nat):ZT (qE fu):=by
 intro pt r H
 have H:=fI H
 refine qI Tryz.func277 (fun C hC=>?_)
 refine qS (qR (q1 (jU (dJ pt)) (q1 aF (qN (qS (qR (q1 (a5 lD) (q1 (bG jQ) (q1 eM (q1 aF ?_))))))))))
 refine d9 6 H (fun g1 H=>?_) fun g1 H=>?_
 ·refine qg g1 (a5 jT) (qg g1 (bG fB) (qg g1 GS (q1 (bR g1) (q1 aF ?_))))
  refine d9 11 H (fun g2 H=>?_) fun g2 H=>?_
  ·refine qg g2 (a5 fV) (qg g2 (bG l5) (qg g2 (eT dX (aA.trs_len _)) (qg g2 eM (q1 (bR g2) (q1 aF (qN (aP.ret ?_)))))))
   obtain rfl:_=r:=(aY H:)
   exact bM
  iterate 4 refine qk g2 ?_
  refine q1 (b5 g2) (q1 aF (qN (aP.ret ?_)))
  obtain rfl:_=r:=(aY H:)
  exact bM
 iterate 3 refine qk g1 ?_
 refine q1 (b5 g1) (q1 aF ?_)
 iterate 4 refine qk rfl ?_
 refine q1 (b5 rfl) (q1 aF (qN (aP.ret ?_)))
 obtain rfl:_=r:=(aY H:)
 exact bM
abbrev iK:=aG→Option Bool
def zW(m:iK):Prop:= ∀(pa0:aG) (r:Bool),m pa0=some r→cE Tryz.prog 294 [(aG.pv pa0)] (pB r:PV)
def V9(fu:Nat)(r_sl11Form:iK)(pa0:aG)(x2 x3 x4 x5:Bool)(x6:Int)(x7:Bool):Option (Bool⊕Unit):=
 bd (kZ fu pa0.gKind 1 12) (fun x9=>
 sw (!(x9))
 (some (.inl false))
 (bd (dH fu pa0.gTrait) (fun x12=>
 sw (!decide ((x12:Bool)=x2))
 (some (.inl false))
 (sw (!(x2))
 (sw (!decide (pa0.gTrait=s_))
 (some (.inl false))
 (sw (!(x4))
 (sw (!decide ((pa0.gN:Int)=0))
 (some (.inl false))
 (sw (!decide ((decide ((((pa0.gArms.length:Nat):Int):Int)>0):Bool)=x7))
 (some (.inl false))
 (some (.inr ()))))
 (sw (!decide ((decide ((((pa0.gArms.length:Nat):Int):Int)>0):Bool)=x7))
 (some (.inl false))
 (some (.inr ())))))
 (sw (!(x4))
 (sw (!decide ((pa0.gN:Int)=0))
 (some (.inl false))
 (sw (!decide ((decide ((((pa0.gArms.length:Nat):Int):Int)>0):Bool)=x7))
 (some (.inl false))
 (some (.inr ()))))
 (sw (!decide ((decide ((((pa0.gArms.length:Nat):Int):Int)>0):Bool)=x7))
 (some (.inl false))
 (some (.inr ()))))))))
def WA(fu:Nat)(r_sl11Form:iK)(pa0:aG)(x2 x3 x4 x5:Bool)(x6:Int)(x7:Bool):Option (Bool⊕Unit):=
 sw (decide ((pa0.gKind:Int)=10))
 (bd (GD fu pa0.gName) (fun x26=>
 sw (!(x26))
 (some (.inl false))
 (sw (!decide ((pa0.gKind:Int)=10))
 (bd (dH fu pa0.gName) (fun x30=>
 sw (!decide ((x30:Bool)=x3))
 (some (.inl false))
 (sw (!(x3))
 (sw (!decide (pa0.gName=s_))
 (some (.inl false))
 (some (.inr ())))
 (some (.inr ())))))
 (some (.inr ())))))
 (sw (!decide ((pa0.gKind:Int)=10))
 (bd (dH fu pa0.gName) (fun x36=>
 sw (!decide ((x36:Bool)=x3))
 (some (.inl false))
 (sw (!(x3))
 (sw (!decide (pa0.gName=s_))
 (some (.inl false))
 (some (.inr ())))
 (some (.inr ())))))
 (some (.inr ())))
def WB(fu:Nat)(r_sl11Form:iK)(pa0:aG)(x2 x3 x4 x5:Bool)(x6:Int)(x7:Bool):Option (Bool⊕Unit):=
 sw (decide ((x6:Int)≥0))
 (sw (!decide ((((pa0.gArgs.length:Nat):Int):Int)=x6))
 (some (.inl false))
 (sw (decide ((pa0.gKind:Int)=5))
 (sw (decide ((((pa0.gArgs.length:Nat):Int):Int)=0))
 (some (.inl false))
 (sw (x5)
 (bd (jA fu pa0.gType) (fun x46=>
 sw (!(x46))
 (some (.inl false))
 (some (.inr ()))))
 (bd (qE fu pa0.gType) (fun x49=>
 sw (!(x49))
 (some (.inl false))
 (some (.inr ()))))))
 (sw (x5)
 (bd (jA fu pa0.gType) (fun x53=>
 sw (!(x53))
 (some (.inl false))
 (some (.inr ()))))
 (bd (qE fu pa0.gType) (fun x56=>
 sw (!(x56))
 (some (.inl false))
 (some (.inr ())))))))
 (sw (decide ((pa0.gKind:Int)=5))
 (sw (decide ((((pa0.gArgs.length:Nat):Int):Int)=0))
 (some (.inl false))
 (sw (x5)
 (bd (jA fu pa0.gType) (fun x62=>
 sw (!(x62))
 (some (.inl false))
 (some (.inr ()))))
 (bd (qE fu pa0.gType) (fun x65=>
 sw (!(x65))
 (some (.inl false))
 (some (.inr ()))))))
 (sw (x5)
 (bd (jA fu pa0.gType) (fun x69=>
 sw (!(x69))
 (some (.inl false))
 (some (.inr ()))))
 (bd (qE fu pa0.gType) (fun x72=>
 sw (!(x72))
 (some (.inl false))
 (some (.inr ()))))))
def WC(fu:Nat)(r_sl11Form:iK)(pa0:aG)(x2 x3 x4 x5:Bool)(x6:Int)(x7:Bool):Option (Bool⊕Unit):=
 sw (decide ((pa0.gKind:Int)=1))
 (bd (kZ fu pa0.gN (-999999) 999999) (fun x76=>
 sw (!(x76))
 (some (.inl false))
 (some (.inr ()))))
 (sw (decide ((pa0.gKind:Int)=2))
 (bd (kZ fu pa0.gN 0 1) (fun x80=>
 sw (!(x80))
 (some (.inl false))
 (some (.inr ()))))
 (some (.inr ())))
def WE(fu:Nat)(r_sl11Form:iK)(pa0:aG)(x2 x3 x4 x5:Bool)(x6:Int)(x7:Bool):Nat→Unit→Option (LR Unit Bool):=
 fun i82 _=>lt (a3 pa0.gArgs i82) (fun y85=>
 bd (r_sl11Form y85) (fun x88=>
 sw (!(x88))
 (some (.ret false))
 (some (.next ()))))
def WG(fu:Nat)(r_sl11Form:iK)(pa0:aG)(x2 x3 x4 x5:Bool)(x6:Int)(x7:Bool):Option (Bool⊕Unit):=
 loopN (WE fu r_sl11Form pa0 x2 x3 x4 x5 x6 x7) (pa0.gArgs.length-0) 0 ()
def WF(fu:Nat)(r_sl11Form:iK)(pa0:aG)(x2 x3 x4 x5:Bool)(x6:Int)(x7:Bool):Nat→Unit→Option (LR Unit Bool):=
 fun i90 _=>lt (a3 pa0.gArms i90) (fun y93=>
 bd (dH fu y93.gConstructor) (fun x96=>
 sw (!(x96))
 (some (.ret false))
 (bd (AB fu y93.gVars) (fun x99=>
 sw (!(x99))
 (some (.ret false))
 (bd (iZ fu y93.gVars) (fun x102=>
 sw (!(x102))
 (some (.ret false))
 (bd (r_sl11Form y93.gBody) (fun x105=>
 sw (!(x105))
 (some (.ret false))
 (some (.next ()))))))))))
def WH(fu:Nat)(r_sl11Form:iK)(pa0:aG)(x2 x3 x4 x5:Bool)(x6:Int)(x7:Bool):Option (Bool⊕Unit):=
 loopN (WF fu r_sl11Form pa0 x2 x3 x4 x5 x6 x7) (pa0.gArms.length-0) 0 ()
def GA(fu:Nat)(r_sl11Form:iK)(pa0:aG):Option Bool:=
 bd (J0 fu pa0.gKind) (fun(x2,x3,x4,x5,x6,x7)=>
 so (V9 fu r_sl11Form pa0 x2 x3 x4 x5 x6 x7) (fun _=>
 so (WA fu r_sl11Form pa0 x2 x3 x4 x5 x6 x7) (fun _=>
 so (WB fu r_sl11Form pa0 x2 x3 x4 x5 x6 x7) (fun _=>
 so (WC fu r_sl11Form pa0 x2 x3 x4 x5 x6 x7) (fun _=>
 so (WG fu r_sl11Form pa0 x2 x3 x4 x5 x6 x7) (fun _=>
 so (WH fu r_sl11Form pa0 x2 x3 x4 x5 x6 x7) (fun _=>
 some true)))))))
theorem QO(fu:Nat)(r_sl11Form:iK)(h_sl11Form:zW r_sl11Form):zW (GA fu r_sl11Form):=by
 intro pa0 r H
 have H:=fI H
 refine qI Tryz.func294 (fun C hC=>?_)
 refine qS (qR (q1 (jU (gY pa0)) (q1 aF (qN (qS (qR (q1 (a5 pQ) (q1 (bG jQ) ?_))))))))
 obtain⟨⟨x2,x3,x4,x5,x6,x7⟩,z1,H⟩:=bdI H
 refine q1 (bI Tryz.func296 (ZQ fu pa0.gKind _ z1)) (q1 aF ?_)
 iterate 6 refine q1 y1 ?_
 iterate 6 refine q1 aF ?_
 refine qN (qS ?_)
 refine o7 (σ:=Unit) (fun _=>⟨[(1,.ptr 0 0),(2,pB false),(4,pB x3),(6,pB x5),(7,pI x6)],⟨[some ⟨87,gY pa0⟩],[]⟩⟩) (gU H) (fun H=>?_) ?_
 ·refine qS (qR (q1 (a5 pQ) (q1 (bG jQ) (bO H fun x9 z8 H=>(q1 (bI Tryz.func108 (tP fu pa0.gKind 1 12 _ z8)) (q1 gT (q1 aF ?_)))))))
  refine d9 26 H (fun g10 H=>?_) fun g10 H=>?_
  ·refine qk g10 ?_
   iterate 4 refine qk g10 ?_
   refine q1 (bR g10) (q1 aF ?_)
   iterate 3 refine qk rfl ?_
   iterate 3 refine GR ?_
   refine qk rfl (q1 (bR rfl) (q1 aF ?_))
   iterate 3 refine qk rfl ?_
   iterate 3 refine GR ?_
   refine qk rfl (q1 (bR rfl) (q1 aF ?_))
   iterate 6 refine qk rfl ?_
   refine q1 (bR rfl) (qN (dV rfl (qS (qR (q1 aF (qN (aP.ret ?_)))))))
   obtain rfl:_=r:=(EH (aY H):)
   exact bM
  refine qg g10 (a5 IX) (qg g10 (bG fB) (bO H fun x12 z11 H=>(qg g10 (bI Tryz.func235 (dU fu pa0.gTrait _ z11)) (qg g10 aF (qg g10 (aV.neqB rfl rfl rfl rfl Tryz.underlying4) (q1 (b5 g10) (q1 aF ?_)))))))
  refine d9 33 H (fun g13 H=>?_) fun g13 H=>?_
  ·refine qk g13 ?_
   iterate 2 refine qk g13 ?_
   iterate 3 refine GR ?_
   refine qk g13 (q1 (bR g13) (q1 aF ?_))
   iterate 3 refine qk rfl ?_
   iterate 3 refine GR ?_
   refine qk rfl (q1 (bR rfl) (q1 aF ?_))
   iterate 6 refine qk rfl ?_
   refine q1 (bR rfl) (qN (dV rfl (qS (qR (q1 aF (qN (aP.ret ?_)))))))
   obtain rfl:_=r:=(EH (aY H):)
   exact bM
  refine qg g13 aF (qg g13 gT (qg g13 aF ?_))
  refine d9 36 H (fun g14 H=>?_) fun g14 H=>?_
  ·refine qg g14 (a5 IX) (qg g14 (bG fB) (qg g14 MN (qg g13 (bR g14) (q1 (b5 g13) (q1 aF ?_)))))
   refine d9 42 H (fun g15 H=>?_) fun g15 H=>?_
   ·refine qk g15 ?_
    iterate 2 refine qk g15 ?_
    iterate 3 refine GR ?_
    refine qk g15 (q1 (bR g15) (q1 aF ?_))
    iterate 6 refine qk rfl ?_
    refine q1 (bR rfl) (qN (dV rfl (qS (qR (q1 aF (qN (aP.ret ?_)))))))
    obtain rfl:_=r:=(EH (aY H):)
    exact bM
   refine qg g15 aF (qg g15 gT (qg g15 aF ?_))
   refine d9 45 H (fun g16 H=>?_) fun g16 H=>?_
   ·refine qg g16 (a5 BD) (qg g16 (bG jQ) (qg g16 MM (qg g15 (bR g16) (q1 (b5 g15) (q1 aF ?_)))))
    refine d9 51 H (fun g17 H=>?_) fun g17 H=>?_
    ·refine qk g17 ?_
     iterate 5 refine qk g17 ?_
     refine q1 (bR g17) (qN (dV rfl (qS (qR (q1 aF (qN (aP.ret ?_)))))))
     obtain rfl:_=r:=(EH (aY H):)
     exact bM
    refine qg g17 (a5 gS) (qg g17 (bG rN) (qg g17 (eT pP (bJ.trs_len _)) (qg g17 IB (qg g17 aF (qg g17 (aV.neqB rfl rfl rfl rfl Tryz.underlying4) (q1 (b5 g17) (qN ?_)))))))
    refine bA H (fun h18 H=>?_) (fun h18 H=>?_)
    ·refine qS (qR (q1 aF (qN (aP.ret ?_))))
     obtain rfl:_=r:=(EH (aY H):)
     exact bM
    refine aP.skip ?_;exact dP ⟨_,(aY H:),b0⟩
   iterate 3 refine qk g16 ?_
   refine qg g15 (b5 g16) (q1 (b5 g15) (q1 aF (qg rfl (a5 gS) (qg rfl (bG rN) (qg rfl (eT pP (bJ.trs_len _)) (qg rfl IB (qg rfl aF (qg rfl (aV.neqB rfl rfl rfl rfl Tryz.underlying4) (q1 (b5 rfl) (qN ?_))))))))))
   refine bA H (fun h19 H=>?_) (fun h19 H=>?_)
   ·refine qS (qR (q1 aF (qN (aP.ret ?_))))
    obtain rfl:_=r:=(EH (aY H):)
    exact bM
   refine aP.skip ?_;exact dP ⟨_,(aY H:),b0⟩
  iterate 3 refine qk g14 ?_
  refine qg g13 (b5 g14) (q1 (b5 g13) (q1 aF (qg rfl aF (qg rfl gT (qg rfl aF ?_)))))
  refine d9 45 H (fun g20 H=>?_) fun g20 H=>?_
  ·refine qg g20 (a5 BD) (qg g20 (bG jQ) (qg g20 MM (qg rfl (bR g20) (q1 (b5 rfl) (q1 aF ?_)))))
   refine d9 51 H (fun g21 H=>?_) fun g21 H=>?_
   ·refine qk g21 ?_
    iterate 5 refine qk g21 ?_
    refine q1 (bR g21) (qN (dV rfl (qS (qR (q1 aF (qN (aP.ret ?_)))))))
    obtain rfl:_=r:=(EH (aY H):)
    exact bM
   refine qg g21 (a5 gS) (qg g21 (bG rN) (qg g21 (eT pP (bJ.trs_len _)) (qg g21 IB (qg g21 aF (qg g21 (aV.neqB rfl rfl rfl rfl Tryz.underlying4) (q1 (b5 g21) (qN ?_)))))))
   refine bA H (fun h22 H=>?_) (fun h22 H=>?_)
   ·refine qS (qR (q1 aF (qN (aP.ret ?_))))
    obtain rfl:_=r:=(EH (aY H):)
    exact bM
   refine aP.skip ?_;exact dP ⟨_,(aY H:),b0⟩
  iterate 3 refine qk g20 ?_
  refine qg rfl (b5 g20) (q1 (b5 rfl) (q1 aF (qg rfl (a5 gS) (qg rfl (bG rN) (qg rfl (eT pP (bJ.trs_len _)) (qg rfl IB (qg rfl aF (qg rfl (aV.neqB rfl rfl rfl rfl Tryz.underlying4) (q1 (b5 rfl) (qN ?_))))))))))
  refine bA H (fun h23 H=>?_) (fun h23 H=>?_)
  ·refine qS (qR (q1 aF (qN (aP.ret ?_))))
   obtain rfl:_=r:=(EH (aY H):)
   exact bM
  refine aP.skip ?_;exact dP ⟨_,(aY H:),b0⟩
 rintro⟨⟩ H
 refine qS ?_;refine o7 (σ:=Unit) (fun _=>⟨[(1,.ptr 0 0),(2,pB false),(6,pB x5),(7,pI x6)],⟨[some ⟨87,gY pa0⟩],[]⟩⟩) (gU H) (fun H=>?_) ?_
 ·refine qS (qR (q1 (a5 pQ) (q1 (bG jQ) (q1 eM (q1 aF ?_)))))
  refine d9 62 H (fun g24 H=>?_) fun g24 H=>?_
  ·refine qg g24 (a5 nU) (qg g24 (bG fB) (bO H fun x26 z25 H=>(qg g24 (bI Tryz.func297 (WY fu pa0.gName _ z25)) (qg g24 gT (q1 (bR g24) (q1 aF ?_))))))
   refine d9 68 H (fun g27 H=>?_) fun g27 H=>?_
   ·refine qk g27 ?_
    iterate 3 refine qk g27 ?_
    iterate 14 refine GR ?_
    refine qk g27 (q1 (bR g27) (qN (dV rfl (qS (qR (q1 aF (qN (aP.ret ?_))))))))
    obtain rfl:_=r:=(EH (aY H):)
    exact bM
   refine qg g27 (a5 pQ) (qg g27 (bG jQ) (qg g27 MM (qg g27 aF ?_)))
   refine d9 72 H (fun g28 H=>?_) fun g28 H=>?_
   ·refine qg g28 (a5 nU) (qg g28 (bG fB) (bO H fun x30 z29 H=>(qg g28 (bI Tryz.func235 (dU fu pa0.gName _ z29)) (qg g28 aF (qg g28 (aV.neqB rfl rfl rfl rfl Tryz.underlying4) (qg g28 aF ?_))))))
    refine d9 78 H (fun g31 H=>?_) fun g31 H=>?_
    ·refine qk g31 ?_
     iterate 2 refine qk g31 ?_
     iterate 3 refine GR ?_
     refine qk g31 (qg g28 (bR g31) (qg g27 (bR g28) (q1 (b5 g27) (qN (dV rfl (qS (qR (q1 aF (qN (aP.ret ?_))))))))))
     obtain rfl:_=r:=(EH (aY H):)
     exact bM
    refine qg g31 aF (qg g31 gT (qg g31 aF ?_))
    refine d9 81 H (fun g32 H=>?_) fun g32 H=>?_
    ·refine qg g32 (a5 nU) (qg g32 (bG fB) (qg g32 MN (qg g31 (bR g32) (qg g28 (b5 g31) (qg g27 (bR g28) (q1 (b5 g27) (qN ?_)))))))
     refine bA H (fun h33 H=>?_) (fun h33 H=>?_)
     ·refine qS (qR (q1 aF (qN (aP.ret ?_))))
      obtain rfl:_=r:=(EH (aY H):)
      exact bM
     refine aP.skip ?_;exact dP ⟨_,(aY H:),b0⟩
    iterate 3 refine qk g32 ?_
    refine qg g31 (b5 g32) (qg g28 (b5 g31) (qg g27 (bR g28) (q1 (b5 g27) (qN (iX rfl (aP.skip ?_))))))
    exact dP ⟨_,(aY H:),b0⟩
   iterate 6 refine qk g28 ?_
   iterate 7 refine GR ?_
   refine qk g28 (qg g27 (b5 g28) (q1 (b5 g27) (qN (iX rfl (aP.skip ?_)))))
   exact dP ⟨_,(aY H:),b0⟩
  iterate 4 refine qk g24 ?_
  refine q1 (b5 g24) (q1 aF (qg rfl (a5 pQ) (qg rfl (bG jQ) (qg rfl MM (qg rfl aF ?_)))))
  refine d9 72 H (fun g34 H=>?_) fun g34 H=>?_
  ·refine qg g34 (a5 nU) (qg g34 (bG fB) (bO H fun x36 z35 H=>(qg g34 (bI Tryz.func235 (dU fu pa0.gName _ z35)) (qg g34 aF (qg g34 (aV.neqB rfl rfl rfl rfl Tryz.underlying4) (qg g34 aF ?_))))))
   refine d9 78 H (fun g37 H=>?_) fun g37 H=>?_
   ·refine qk g37 ?_
    iterate 2 refine qk g37 ?_
    iterate 3 refine GR ?_
    refine qk g37 (qg g34 (bR g37) (qg rfl (bR g34) (q1 (b5 rfl) (qN (dV rfl (qS (qR (q1 aF (qN (aP.ret ?_))))))))))
    obtain rfl:_=r:=(EH (aY H):)
    exact bM
   refine qg g37 aF (qg g37 gT (qg g37 aF ?_))
   refine d9 81 H (fun g38 H=>?_) fun g38 H=>?_
   ·refine qg g38 (a5 nU) (qg g38 (bG fB) (qg g38 MN (qg g37 (bR g38) (qg g34 (b5 g37) (qg rfl (bR g34) (q1 (b5 rfl) (qN ?_)))))))
    refine bA H (fun h39 H=>?_) (fun h39 H=>?_)
    ·refine qS (qR (q1 aF (qN (aP.ret ?_))))
     obtain rfl:_=r:=(EH (aY H):)
     exact bM
    refine aP.skip ?_;exact dP ⟨_,(aY H:),b0⟩
   iterate 3 refine qk g38 ?_
   refine qg g37 (b5 g38) (qg g34 (b5 g37) (qg rfl (bR g34) (q1 (b5 rfl) (qN (iX rfl (aP.skip ?_))))))
   exact dP ⟨_,(aY H:),b0⟩
  iterate 6 refine qk g34 ?_
  iterate 7 refine GR ?_
  refine qk g34 (qg rfl (b5 g34) (q1 (b5 rfl) (qN (iX rfl (aP.skip ?_)))))
  exact dP ⟨_,(aY H:),b0⟩
 rintro⟨⟩ H
 refine qS ?_;refine o7 (σ:=Unit) (fun _=>⟨[(1,.ptr 0 0),(2,pB false)],⟨[some ⟨87,gY pa0⟩],[]⟩⟩) (gU H) (fun H=>?_) ?_
 ·refine qS (qR (q1 aF (q1 RG (q1 aF ?_))))
  refine d9 91 H (fun g40 H=>?_) fun g40 H=>?_
  ·refine qg g40 (a5 jJ) (qg g40 (bG uD) (qg g40 (eT nK (aG.trs_len _)) (qg g40 aF (qg g40 MM (q1 (bR g40) (q1 aF ?_))))))
   refine d9 98 H (fun g41 H=>?_) fun g41 H=>?_
   ·refine qk g41 ?_
    iterate 3 refine qk g41 ?_
    iterate 4 refine GR ?_
    refine qk g41 (q1 (bR g41) (q1 aF ?_))
    iterate 2 refine qk rfl ?_
    iterate 4 refine GR ?_
    refine qk rfl (q1 (bR rfl) (q1 aF ?_))
    iterate 3 refine qk rfl ?_
    iterate 4 refine GR ?_
    refine qk rfl (q1 (bR rfl) (qN (dV rfl (qS (qR (q1 aF (qN (aP.ret ?_))))))))
    obtain rfl:_=r:=(EH (aY H):)
    exact bM
   refine qg g41 (a5 pQ) (qg g41 (bG jQ) (qg g41 eM (qg g41 aF ?_)))
   refine d9 102 H (fun g42 H=>?_) fun g42 H=>?_
   ·refine qg g42 (a5 jJ) (qg g42 (bG uD) (qg g42 (eT nK (aG.trs_len _)) (qg g42 eM (qg g41 (bR g42) (q1 (b5 g41) (q1 aF ?_))))))
    refine d9 109 H (fun g43 H=>?_) fun g43 H=>?_
    ·refine qk g43 (qk g43 ?_)
     iterate 4 refine GR ?_
     refine qk g43 (q1 (bR g43) (q1 aF ?_))
     iterate 3 refine qk rfl ?_
     iterate 4 refine GR ?_
     refine qk rfl (q1 (bR rfl) (qN (dV rfl (qS (qR (q1 aF (qN (aP.ret ?_))))))))
     obtain rfl:_=r:=(EH (aY H):)
     exact bM
    iterate 2 refine qg g43 aF ?_
    refine d9 111 H (fun g44 H=>?_) fun g44 H=>?_
    ·refine qg g44 (a5 vJ) (qg g44 (cV [pI pa0.gType.gKind,pS pa0.gType.gName,a4 pa0.gType.gArgs] cH) (bO H fun x46 z45 H=>(qg g44 (bI Tryz.func284 (kJ fu pa0.gType _ z45)) (qg g44 gT (qg g43 (bR g44) (q1 (b5 g43) (q1 aF ?_)))))))
     refine d9 118 H (fun g47 H=>?_) fun g47 H=>?_
     ·refine qk g47 ?_
      iterate 2 refine qk g47 ?_
      iterate 4 refine GR ?_
      refine qk g47 (q1 (bR g47) (qN (dV rfl (qS (qR (q1 aF (qN (aP.ret ?_))))))))
      obtain rfl:_=r:=(EH (aY H):)
      exact bM
     refine qg g47 aF (qg g47 gT (qg g47 aF ?_))
     iterate 4 refine qk (congrArg (fun b=> !b) g44) ?_
     refine qg g47 (b5 (congrArg (fun b=> !b) g44)) (q1 (b5 g47) (qN (iX rfl (aP.skip ?_))))
     exact dP ⟨_,(aY H:),b0⟩
    iterate 4 refine qk g44 ?_
    refine qg g43 (b5 g44) (q1 (b5 g43) (q1 aF (qg rfl aF (qg rfl gT (qg rfl aF (qg (congrArg (fun b=> !b) g44) (a5 vJ) (qg (congrArg (fun b=> !b) g44) (cV [pI pa0.gType.gKind,pS pa0.gType.gName,a4 pa0.gType.gArgs] cH) (bO H fun x49 z48 H=>(qg (congrArg (fun b=> !b) g44) (bI Tryz.func277 (tN fu pa0.gType _ z48)) (qg (congrArg (fun b=> !b) g44) gT (qg rfl (bR (congrArg (fun b=> !b) g44)) (q1 (b5 rfl) (qN ?_)))))))))))))
    refine bA H (fun h50 H=>?_) (fun h50 H=>?_)
    ·refine qS (qR (q1 aF (qN (aP.ret ?_))))
     obtain rfl:_=r:=(EH (aY H):)
     exact bM
    refine aP.skip ?_;exact dP ⟨_,(aY H:),b0⟩
   iterate 4 refine qk g42 ?_
   refine qg g41 (b5 g42) (q1 (b5 g41) (q1 aF ?_))
   iterate 2 refine qg rfl aF ?_
   refine d9 111 H (fun g51 H=>?_) fun g51 H=>?_
   ·refine qg g51 (a5 vJ) (qg g51 (cV [pI pa0.gType.gKind,pS pa0.gType.gName,a4 pa0.gType.gArgs] cH) (bO H fun x53 z52 H=>(qg g51 (bI Tryz.func284 (kJ fu pa0.gType _ z52)) (qg g51 gT (qg rfl (bR g51) (q1 (b5 rfl) (q1 aF ?_)))))))
    refine d9 118 H (fun g54 H=>?_) fun g54 H=>?_
    ·refine qk g54 ?_
     iterate 2 refine qk g54 ?_
     iterate 4 refine GR ?_
     refine qk g54 (q1 (bR g54) (qN (dV rfl (qS (qR (q1 aF (qN (aP.ret ?_))))))))
     obtain rfl:_=r:=(EH (aY H):)
     exact bM
    refine qg g54 aF (qg g54 gT (qg g54 aF ?_))
    iterate 4 refine qk (congrArg (fun b=> !b) g51) ?_
    refine qg g54 (b5 (congrArg (fun b=> !b) g51)) (q1 (b5 g54) (qN (iX rfl (aP.skip ?_))))
    exact dP ⟨_,(aY H:),b0⟩
   iterate 4 refine qk g51 ?_
   refine qg rfl (b5 g51) (q1 (b5 rfl) (q1 aF (qg rfl aF (qg rfl gT (qg rfl aF (qg (congrArg (fun b=> !b) g51) (a5 vJ) (qg (congrArg (fun b=> !b) g51) (cV [pI pa0.gType.gKind,pS pa0.gType.gName,a4 pa0.gType.gArgs] cH) (bO H fun x56 z55 H=>(qg (congrArg (fun b=> !b) g51) (bI Tryz.func277 (tN fu pa0.gType _ z55)) (qg (congrArg (fun b=> !b) g51) gT (qg rfl (bR (congrArg (fun b=> !b) g51)) (q1 (b5 rfl) (qN ?_)))))))))))))
   refine bA H (fun h57 H=>?_) (fun h57 H=>?_)
   ·refine qS (qR (q1 aF (qN (aP.ret ?_))))
    obtain rfl:_=r:=(EH (aY H):)
    exact bM
   refine aP.skip ?_;exact dP ⟨_,(aY H:),b0⟩
  iterate 5 refine qk g40 ?_
  refine q1 (b5 g40) (q1 aF (qg rfl (a5 pQ) (qg rfl (bG jQ) (qg rfl eM (qg rfl aF ?_)))))
  refine d9 102 H (fun g58 H=>?_) fun g58 H=>?_
  ·refine qg g58 (a5 jJ) (qg g58 (bG uD) (qg g58 (eT nK (aG.trs_len _)) (qg g58 eM (qg rfl (bR g58) (q1 (b5 rfl) (q1 aF ?_))))))
   refine d9 109 H (fun g59 H=>?_) fun g59 H=>?_
   ·refine qk g59 (qk g59 ?_)
    iterate 4 refine GR ?_
    refine qk g59 (q1 (bR g59) (q1 aF ?_))
    iterate 3 refine qk rfl ?_
    iterate 4 refine GR ?_
    refine qk rfl (q1 (bR rfl) (qN (dV rfl (qS (qR (q1 aF (qN (aP.ret ?_))))))))
    obtain rfl:_=r:=(EH (aY H):)
    exact bM
   iterate 2 refine qg g59 aF ?_
   refine d9 111 H (fun g60 H=>?_) fun g60 H=>?_
   ·refine qg g60 (a5 vJ) (qg g60 (cV [pI pa0.gType.gKind,pS pa0.gType.gName,a4 pa0.gType.gArgs] cH) (bO H fun x62 z61 H=>(qg g60 (bI Tryz.func284 (kJ fu pa0.gType _ z61)) (qg g60 gT (qg g59 (bR g60) (q1 (b5 g59) (q1 aF ?_)))))))
    refine d9 118 H (fun g63 H=>?_) fun g63 H=>?_
    ·refine qk g63 ?_
     iterate 2 refine qk g63 ?_
     iterate 4 refine GR ?_
     refine qk g63 (q1 (bR g63) (qN (dV rfl (qS (qR (q1 aF (qN (aP.ret ?_))))))))
     obtain rfl:_=r:=(EH (aY H):)
     exact bM
    refine qg g63 aF (qg g63 gT (qg g63 aF ?_))
    iterate 4 refine qk (congrArg (fun b=> !b) g60) ?_
    refine qg g63 (b5 (congrArg (fun b=> !b) g60)) (q1 (b5 g63) (qN (iX rfl (aP.skip ?_))))
    exact dP ⟨_,(aY H:),b0⟩
   iterate 4 refine qk g60 ?_
   refine qg g59 (b5 g60) (q1 (b5 g59) (q1 aF (qg rfl aF (qg rfl gT (qg rfl aF (qg (congrArg (fun b=> !b) g60) (a5 vJ) (qg (congrArg (fun b=> !b) g60) (cV [pI pa0.gType.gKind,pS pa0.gType.gName,a4 pa0.gType.gArgs] cH) (bO H fun x65 z64 H=>(qg (congrArg (fun b=> !b) g60) (bI Tryz.func277 (tN fu pa0.gType _ z64)) (qg (congrArg (fun b=> !b) g60) gT (qg rfl (bR (congrArg (fun b=> !b) g60)) (q1 (b5 rfl) (qN ?_)))))))))))))
   refine bA H (fun h66 H=>?_) (fun h66 H=>?_)
   ·refine qS (qR (q1 aF (qN (aP.ret ?_))))
    obtain rfl:_=r:=(EH (aY H):)
    exact bM
   refine aP.skip ?_;exact dP ⟨_,(aY H:),b0⟩
  iterate 4 refine qk g58 ?_
  refine qg rfl (b5 g58) (q1 (b5 rfl) (q1 aF ?_))
  iterate 2 refine qg rfl aF ?_
  refine d9 111 H (fun g67 H=>?_) fun g67 H=>?_
  ·refine qg g67 (a5 vJ) (qg g67 (cV [pI pa0.gType.gKind,pS pa0.gType.gName,a4 pa0.gType.gArgs] cH) (bO H fun x69 z68 H=>(qg g67 (bI Tryz.func284 (kJ fu pa0.gType _ z68)) (qg g67 gT (qg rfl (bR g67) (q1 (b5 rfl) (q1 aF ?_)))))))
   refine d9 118 H (fun g70 H=>?_) fun g70 H=>?_
   ·refine qk g70 ?_
    iterate 2 refine qk g70 ?_
    iterate 4 refine GR ?_
    refine qk g70 (q1 (bR g70) (qN (dV rfl (qS (qR (q1 aF (qN (aP.ret ?_))))))))
    obtain rfl:_=r:=(EH (aY H):)
    exact bM
   refine qg g70 aF (qg g70 gT (qg g70 aF ?_))
   iterate 4 refine qk (congrArg (fun b=> !b) g67) ?_
   refine qg g70 (b5 (congrArg (fun b=> !b) g67)) (q1 (b5 g70) (qN (iX rfl (aP.skip ?_))))
   exact dP ⟨_,(aY H:),b0⟩
  iterate 4 refine qk g67 ?_
  refine qg rfl (b5 g67) (q1 (b5 rfl) (q1 aF (qg rfl aF (qg rfl gT (qg rfl aF (qg (congrArg (fun b=> !b) g67) (a5 vJ) (qg (congrArg (fun b=> !b) g67) (cV [pI pa0.gType.gKind,pS pa0.gType.gName,a4 pa0.gType.gArgs] cH) (bO H fun x72 z71 H=>(qg (congrArg (fun b=> !b) g67) (bI Tryz.func277 (tN fu pa0.gType _ z71)) (qg (congrArg (fun b=> !b) g67) gT (qg rfl (bR (congrArg (fun b=> !b) g67)) (q1 (b5 rfl) (qN ?_)))))))))))))
  refine bA H (fun h73 H=>?_) (fun h73 H=>?_)
  ·refine qS (qR (q1 aF (qN (aP.ret ?_))))
   obtain rfl:_=r:=(EH (aY H):)
   exact bM
  refine aP.skip ?_;exact dP ⟨_,(aY H:),b0⟩
 rintro⟨⟩ H
 refine qS ?_;refine o7 (σ:=Unit) (fun _=>⟨[(1,.ptr 0 0),(2,pB false)],⟨[some ⟨87,gY pa0⟩],[]⟩⟩) (gU H) (fun H=>?_) ?_
 ·refine qS (qR (q1 (a5 pQ) (q1 (bG jQ) (q1 eM (q1 aF ?_)))))
  refine d9 131 H (fun g74 H=>?_) fun g74 H=>?_
  ·refine qg g74 (a5 BD) (qg g74 (bG jQ) (bO H fun x76 z75 H=>(qg g74 (bI Tryz.func108 (tP fu pa0.gN (-999999) 999999 _ z75)) (qg g74 gT (q1 (bR g74) (q1 aF ?_))))))
   refine d9 137 H (fun g77 H=>?_) fun g77 H=>?_
   ·refine qk g77 ?_
    iterate 3 refine qk g77 ?_
    iterate 4 refine GR ?_
    refine qk g77 (q1 (bR g77) (qN (dV rfl (qS (qR (q1 aF (qN (aP.ret ?_))))))))
    obtain rfl:_=r:=(EH (aY H):)
    exact bM
   refine qg g77 (a5 pQ) (qg g77 (bG jQ) (qg g77 eM (qg g77 aF ?_)))
   iterate 4 refine qk (dne (b:=2) g74 (by decide)) ?_
   refine qg g77 (b5 (dne (b:=2) g74 (by decide))) (q1 (b5 g77) (qN (iX rfl (aP.skip ?_))))
   exact dP ⟨_,(aY H:),b0⟩
  iterate 4 refine qk g74 ?_
  refine q1 (b5 g74) (q1 aF (qg rfl (a5 pQ) (qg rfl (bG jQ) (qg rfl eM (qg rfl aF ?_)))))
  refine d9 141 H (fun g78 H=>?_) fun g78 H=>?_
  ·refine qg g78 (a5 BD) (qg g78 (bG jQ) (bO H fun x80 z79 H=>(qg g78 (bI Tryz.func108 (tP fu pa0.gN 0 1 _ z79)) (qg g78 gT (qg rfl (bR g78) (q1 (b5 rfl) (qN ?_)))))))
   refine bA H (fun h81 H=>?_) (fun h81 H=>?_)
   ·refine qS (qR (q1 aF (qN (aP.ret ?_))))
    obtain rfl:_=r:=(EH (aY H):)
    exact bM
   refine aP.skip ?_;exact dP ⟨_,(aY H:),b0⟩
  iterate 4 refine qk g78 ?_
  refine qg rfl (b5 g78) (q1 (b5 rfl) (qN (iX rfl (aP.skip ?_))))
  exact dP ⟨_,(aY H:),b0⟩
 rintro⟨⟩ H
 iterate 2 refine qS ?_
 refine qR (q1 aF (qN ?_))
 refine aP.fact (cO 0 7 rfl rfl rfl (aG.trs_len _)) (fun hl83=>?_)
 refine cM (σ:=Unit) (fun i82 _=>⟨[(1,.ptr 0 0),(2,pB false),(9,pN i82)],⟨[some ⟨87,gY pa0⟩],[]⟩⟩) (fun _=>⟨[(1,.ptr 0 0),(2,pB false)],⟨[some ⟨87,gY pa0⟩],[]⟩⟩) (gU H) ?_ ?_
 ·rintro i82 ⟨⟩ H
  iterate 2 refine qS ?_
  refine qR (q1 aF (q1 (a5 jJ) (q1 (bG uD) (q1 (eT nK (aG.trs_len _)) (q1 hZ (qN ?_))))))
  refine eW H (fun h84 h84l H=>?_) (fun h84 H=>?_)
  ·have h84n:=a8 h84
   refine aP.skip (qS (aP.block (qS (qR (q1 (a5 jJ) (q1 (bG uD) (q1 aF (g0 H fun y85 h86 H=>(q1 (yO h86 h84n nK) (q1 (j0 (aG.cs y85) hP) (bO H fun x88 z87 H=>(q1 (bI Tryz.func294 (h_sl11Form y85 _ z87)) (q1 gT ?_)))))))))))))
   refine qN ?_;refine bA H (fun h89 H=>?_) (fun h89 H=>?_)
   ·refine qS (qR (q1 aF (qN (aP.ret ?_))))
    obtain rfl:_=r:=(rG (aY H):)
    exact bM
   refine aP.skip (qR (q1 aF (q1 (aV.addI rfl rfl rfl rfl (c:=((i82+1:Nat):Int)) (by omega) (by omega)) (q1 aF (qN ?_)))))
   exact iY h84l ⟨_,(aY H:),b0⟩
  refine aP.exit ?_;exact lS ⟨_,H,b0⟩
 rintro⟨⟩ H
 iterate 2 refine qS ?_
 refine qR (q1 aF (qN ?_))
 refine aP.fact (cO 0 8 rfl rfl rfl (bJ.trs_len _)) (fun hl91=>?_)
 refine cM (σ:=Unit) (fun i90 _=>⟨[(1,.ptr 0 0),(2,pB false),(10,pN i90)],⟨[some ⟨87,gY pa0⟩],[]⟩⟩) (fun _=>⟨[(2,pB false)],⟨[some ⟨87,gY pa0⟩],[]⟩⟩) (gU H) ?_ ?_
 ·rintro i90 ⟨⟩ H
  iterate 2 refine qS ?_
  refine qR (q1 aF (q1 (a5 gS) (q1 (bG rN) (q1 (eT pP (bJ.trs_len _)) (q1 hZ (qN ?_))))))
  refine eW H (fun h92 h92l H=>?_) (fun h92 H=>?_)
  ·have h92n:=a8 h92
   refine aP.skip (qS (aP.block (qS (qR (q1 (a5 gS) (q1 (bG rN) (q1 aF (g0 H fun y93 h94 H=>(q1 (yO h94 h92n pP) (q1 (j0 (bJ.cs y93) agS) (q1 (iV UY) (q1 (bU ag0) (qN ?_)))))))))))))
   refine qS (qR (q1 (a5 BE) (q1 (bG fB) (bO H fun x96 z95 H=>(q1 (bI Tryz.func235 (dU fu y93.gConstructor _ z95)) (q1 gT (q1 aF ?_)))))))
   refine d9 178 H (fun g97 H=>?_) fun g97 H=>?_
   ·refine qk g97 ?_
    iterate 3 refine qk g97 ?_
    refine q1 (bR g97) (q1 aF ?_)
    iterate 4 refine qk rfl ?_
    refine q1 (bR rfl) (q1 aF ?_)
    iterate 4 refine qk rfl ?_
    refine q1 (bR rfl) (qN (dV rfl (qS (qR (q1 aF (qN (aP.ret ?_)))))))
    obtain rfl:_=r:=(rG (aY H):)
    exact bM
   refine qg g97 (a5 BF) (qg g97 (bG lK) (bO H fun x99 z98 H=>(qg g97 (bI Tryz.func255 (KX fu y93.gVars _ z98)) (qg g97 gT (q1 (b5 g97) (q1 aF ?_))))))
   refine d9 184 H (fun g100 H=>?_) fun g100 H=>?_
   ·refine qk g100 ?_
    iterate 3 refine qk g100 ?_
    refine q1 (bR g100) (q1 aF ?_)
    iterate 4 refine qk rfl ?_
    refine q1 (bR rfl) (qN (dV rfl (qS (qR (q1 aF (qN (aP.ret ?_)))))))
    obtain rfl:_=r:=(rG (aY H):)
    exact bM
   refine qg g100 (a5 BF) (qg g100 (bG lK) (bO H fun x102 z101 H=>(qg g100 (bI Tryz.func237 (kI fu y93.gVars _ z101)) (qg g100 gT (q1 (b5 g100) (q1 aF ?_))))))
   refine d9 190 H (fun g103 H=>?_) fun g103 H=>?_
   ·refine qk g103 ?_
    iterate 3 refine qk g103 ?_
    refine q1 (bR g103) (qN (dV rfl (qS (qR (q1 aF (qN (aP.ret ?_)))))))
    obtain rfl:_=r:=(rG (aY H):)
    exact bM
   refine qg g103 (a5 IY) (qg g103 (cV [pI y93.gBody.gKind,pS y93.gBody.gTrait,pS y93.gBody.gName,pI y93.gBody.gN,pI y93.gBody.gType.gKind,pS y93.gBody.gType.gName,a4 y93.gBody.gType.gArgs,gQ y93.gBody.gArgs,oM y93.gBody.gArms] hP) (bO H fun x105 z104 H=>(qg g103 (bI Tryz.func294 (h_sl11Form y93.gBody _ z104)) (qg g103 gT (q1 (b5 g103) (qN ?_))))))
   refine bA H (fun h106 H=>?_) (fun h106 H=>?_)
   ·refine qS (qR (q1 aF (qN (aP.ret ?_))))
    obtain rfl:_=r:=(rG (aY H):)
    exact bM
   refine aP.skip (qR (q1 aF (q1 (aV.addI rfl rfl rfl rfl (c:=((i90+1:Nat):Int)) (by omega) (by omega)) (q1 aF (qN ?_)))))
   exact iY h92l ⟨_,(aY H:),b0⟩
  refine aP.exit ?_;exact lS ⟨_,H,b0⟩
 rintro⟨⟩ H
 refine qS (qR (q1 aF (qN (aP.ret ?_))))
 obtain rfl:_=r:=(aY H:)
 exact bM
def lL:Nat→aG→Option Bool
 |0,_=>none
 |fu+1,pa0=>GA fu (lL fu) pa0
theorem S0(fu:Nat):zW (lL fu):=by
 induction fu with
 |zero=>exact(fun pa0 r H=>by simp only [lL] at H;cases H)
 |succ fu ih=>exact(fun pa0 r H=>by simp only [lL] at H;exact QO fu (lL fu) ih pa0 r H)
theorem WJ(fu:Nat):zW (lL fu):=(S0 fu)
def N3(m:aG→Option Bool):Prop:= ∀(pe:aG) (r:Bool),m pe=some r→cE Tryz.prog 287 [(aG.pv pe)] (pB r:PV)
def vU(fu:Nat)(pe:aG):Option Bool:=
 bd (lO fu pe 300) (fun x2=>
 sw (decide ((x2:Int)≥0))
 (bd (lL fu pe) (fun x5=>
 some x5))
 (some false))
theorem LP(fu:Nat):N3 (vU fu):=by
 intro pe r H
 have H:=fI H
 refine qI Tryz.func287 (fun C hC=>?_)
 refine qS (qR (q1 (jU (gY pe)) (q1 aF (qN (qS (qR (q1 (cV [pI pe.gKind,pS pe.gTrait,pS pe.gName,pI pe.gN,pI pe.gType.gKind,pS pe.gType.gName,a4 pe.gType.gArgs,gQ pe.gArgs,oM pe.gArms] hP) (bO H fun x2 z1 H=>(q1 (bI Tryz.func293 (WX fu pe 300 _ z1)) (q1 RG (q1 aF ?_)))))))))))
 refine d9 6 H (fun g3 H=>?_) fun g3 H=>?_
 ·refine qg g3 (cV [pI pe.gKind,pS pe.gTrait,pS pe.gName,pI pe.gN,pI pe.gType.gKind,pS pe.gType.gName,a4 pe.gType.gArgs,gQ pe.gArgs,oM pe.gArms] hP) (bO H fun x5 z4 H=>(qg g3 (bI Tryz.func294 (WJ fu pe _ z4)) (q1 (bR g3) (q1 aF (qN (aP.ret ?_))))))
  obtain rfl:_=r:=(aY H:)
  exact bM
 iterate 2 refine qk g3 ?_
 refine q1 (b5 g3) (q1 aF (qN (aP.ret ?_)))
 obtain rfl:_=r:=(aY H:)
 exact bM
def WZ(m:(List ByteArray)→(List ByteArray)→Option Bool):Prop:= ∀(pa:List ByteArray) (pb:List ByteArray) (r:Bool),m pa pb=some r→cE Tryz.prog 295 [rS pa,rS pb] (pB r:PV)
def S3(fu:Nat)(pa pb:List ByteArray):Nat→Unit→Option (LR Unit Bool):=
 fun i2 _=>gd (i2<(pb).length)
 (sw (!decide (a3 pa i2=a3 pb i2))
 (some (.ret false))
 (some (.next ())))
def S4(fu:Nat)(pa pb:List ByteArray):Option (Bool⊕Unit):=
 loopN (S3 fu pa pb) (pa.length-0) 0 ()
def BY(fu:Nat)(pa pb:List ByteArray):Option Bool:=
 sw (!decide ((((pa.length:Nat):Int):Int)=((pb.length:Nat):Int)))
 (some false)
 (so (S4 fu pa pb) (fun _=>
 some true))
theorem HZ(fu:Nat):WZ (BY fu):=by
 intro pa pb r H
 have H:=fI H
 refine qI Tryz.func295 (fun C hC=>?_)
 refine qS (qR (q1 aF (qN ?_)))
 iterate 2 refine qS ?_
 refine qR (q1 aF (q1 (eT b3 (bC _)) (q1 aF (q1 (eT b3 (bC _)) (q1 MM (qN ?_))))))
 refine bA H (fun h1 H=>?_) (fun h1 H=>?_)
 ·refine qS (qR (q1 aF (qN (aP.ret ?_))))
  obtain rfl:_=r:=(aY H:)
  exact bM
 refine aP.skip ?_
 iterate 2 refine qS ?_
 refine qR (q1 aF (qN ?_))
 refine lR 0 (bC _) (fun hl3=>?_)
 refine cM (σ:=Unit) (fun i2 _=>⟨[(0,rS pa),(1,rS pb),(4,pB false),(5,pN i2)],⟨[],[]⟩⟩) (fun _=>⟨[(4,pB false)],⟨[],[]⟩⟩) (gU H) ?_ ?_
 ·rintro i2 ⟨⟩ H
  iterate 2 refine qS ?_
  refine qR ?_
  iterate 2 refine q1 aF ?_
  refine q1 (eT b3 (bC _)) (q1 hZ (qN ?_))
  refine eW H (fun h4 h4l H=>?_) (fun h4 H=>?_)
  ·have h4n:=a8 h4
   refine aP.skip (qS (aP.block (qS (dF H fun z5 H=>(dW (dI [0] aF (dI [5] aF (dI [17,18] (iH h4n b3) (dI [19] (pZ fB) (dI [1] aF (dI [5] aF (dI [21,22] (iH z5 b3) (dI [23] (pZ fB) ?_)))))))))))))
   refine dI [20,24] MN (dN ?_)
   refine bA H (fun h6 H=>?_) (fun h6 H=>?_)
   ·refine qS (qR (q1 aF (qN (aP.ret ?_))))
    obtain rfl:_=r:=(rG (aY H):)
    exact bM
   refine aP.skip (qR (q1 aF (q1 (aV.addI rfl rfl rfl rfl (c:=((i2+1:Nat):Int)) (by omega) (by omega)) (q1 aF (qN ?_)))))
   exact iY h4l ⟨_,(aY H:),b0⟩
  refine aP.exit ?_;exact lS ⟨_,H,b0⟩
 rintro⟨⟩ H
 refine qS (qR (q1 aF (qN (aP.ret ?_))))
 obtain rfl:_=r:=(aY H:)
 exact bM
abbrev jV:=aG→aG→Option Bool
def uW(m:jV):Prop:= ∀(pa0:aG) (pa1:aG) (r:Bool),m pa0 pa1=some r→cE Tryz.prog 288 [(aG.pv pa0),(aG.pv pa1)] (pB r:PV)
def P0(fu:Nat)(r_sEqualExpr:jV)(pa0 pa1:aG)(x6:Bool):Nat→Unit→Option (LR Unit Bool):=
 fun i10 _=>lt (a3 pa0.gArgs i10) (fun y13=>
 gd (i10<(pa1.gArgs).length)
 (lt (a3 pa1.gArgs i10) (fun y16=>
 bd (r_sEqualExpr y13 y16) (fun x19=>
 sw (!(x19))
 (some (.ret false))
 (some (.next ()))))))
def P4(fu:Nat)(r_sEqualExpr:jV)(pa0 pa1:aG)(x6:Bool):Option (Bool⊕Unit):=
 loopN (P0 fu r_sEqualExpr pa0 pa1 x6) (pa0.gArgs.length-0) 0 ()
def P3(fu:Nat)(r_sEqualExpr:jV)(pa0 pa1:aG)(x6:Bool):Nat→Unit→Option (LR Unit Bool):=
 fun i21 _=>lt (a3 pa0.gArms i21) (fun y24=>
 gd (i21<(pa1.gArms).length)
 (lt (a3 pa1.gArms i21) (fun y27=>
 sw (!decide (y24.gConstructor=y27.gConstructor))
 (some (.ret false))
 (bd (BY fu y24.gVars y27.gVars) (fun x31=>
 sw (!(x31))
 (some (.ret false))
 (bd (r_sEqualExpr y24.gBody y27.gBody) (fun x34=>
 sw (!(x34))
 (some (.ret false))
 (some (.next ())))))))))
def P5(fu:Nat)(r_sEqualExpr:jV)(pa0 pa1:aG)(x6:Bool):Option (Bool⊕Unit):=
 loopN (P3 fu r_sEqualExpr pa0 pa1 x6) (pa0.gArms.length-0) 0 ()
def zR(fu:Nat)(r_sEqualExpr:jV)(pa0 pa1:aG):Option Bool:=
 sw (!decide ((pa0.gKind:Int)=pa1.gKind))
 (some false)
 (sw (!decide (pa0.gTrait=pa1.gTrait))
 (some false)
 (sw (!decide (pa0.gName=pa1.gName))
 (some false)
 (sw (!decide ((pa0.gN:Int)=pa1.gN))
 (some false)
 (bd (eY fu pa0.gType pa1.gType) (fun x6=>
 sw (!(x6))
 (some false)
 (sw (!decide ((((pa0.gArgs.length:Nat):Int):Int)=((pa1.gArgs.length:Nat):Int)))
 (some false)
 (sw (!decide ((((pa0.gArms.length:Nat):Int):Int)=((pa1.gArms.length:Nat):Int)))
 (some false)
 (so (P4 fu r_sEqualExpr pa0 pa1 x6) (fun _=>
 so (P5 fu r_sEqualExpr pa0 pa1 x6) (fun _=>
 some true))))))))))
theorem LH(fu:Nat)(r_sEqualExpr:jV)(h_sEqualExpr:uW r_sEqualExpr):uW (zR fu r_sEqualExpr):=by
 intro pa0 pa1 r H
 have H:=fI H
 refine qI Tryz.func288 (fun C hC=>?_)
 refine qS (qR (q1 (jU (gY pa0)) (q1 (jU (gY pa1)) (q1 aF (qN ?_)))))
 iterate 2 refine qS ?_
 refine qR (q1 (a5 pQ) (q1 (bG jQ) (q1 (a5 pQ) (q1 (bG jQ) (q1 MM (q1 aF ?_))))))
 refine d9 12 H (fun g1 H=>?_) fun g1 H=>?_
 ·refine qk g1 ?_
  iterate 4 refine qk g1 ?_
  refine q1 (bR g1) (q1 aF ?_)
  iterate 5 refine qk rfl ?_
  refine q1 (bR rfl) (q1 aF ?_)
  iterate 5 refine qk rfl ?_
  refine q1 (bR rfl) (q1 aF ?_)
  iterate 6 refine qk rfl ?_
  refine q1 (bR rfl) (q1 aF ?_)
  iterate 7 refine qk rfl ?_
  refine q1 (bR rfl) (q1 aF ?_)
  iterate 7 refine qk rfl ?_
  refine q1 (bR rfl) (qN (dV rfl (qS (qR (q1 aF (qN (aP.ret ?_)))))))
  obtain rfl:_=r:=(aY H:)
  exact bM
 refine qg g1 (a5 IX) (qg g1 (bG fB) (qg g1 (a5 IX) (qg g1 (bG fB) (qg g1 MN (q1 (b5 g1) (q1 aF ?_))))))
 refine d9 19 H (fun g2 H=>?_) fun g2 H=>?_
 ·refine qk g2 ?_
  iterate 4 refine qk g2 ?_
  refine q1 (bR g2) (q1 aF ?_)
  iterate 5 refine qk rfl ?_
  refine q1 (bR rfl) (q1 aF ?_)
  iterate 6 refine qk rfl ?_
  refine q1 (bR rfl) (q1 aF ?_)
  iterate 7 refine qk rfl ?_
  refine q1 (bR rfl) (q1 aF ?_)
  iterate 7 refine qk rfl ?_
  refine q1 (bR rfl) (qN (dV rfl (qS (qR (q1 aF (qN (aP.ret ?_)))))))
  obtain rfl:_=r:=(aY H:)
  exact bM
 refine qg g2 (a5 nU) (qg g2 (bG fB) (qg g2 (a5 nU) (qg g2 (bG fB) (qg g2 MN (q1 (b5 g2) (q1 aF ?_))))))
 refine d9 26 H (fun g3 H=>?_) fun g3 H=>?_
 ·refine qk g3 ?_
  iterate 4 refine qk g3 ?_
  refine q1 (bR g3) (q1 aF ?_)
  iterate 6 refine qk rfl ?_
  refine q1 (bR rfl) (q1 aF ?_)
  iterate 7 refine qk rfl ?_
  refine q1 (bR rfl) (q1 aF ?_)
  iterate 7 refine qk rfl ?_
  refine q1 (bR rfl) (qN (dV rfl (qS (qR (q1 aF (qN (aP.ret ?_)))))))
  obtain rfl:_=r:=(aY H:)
  exact bM
 refine qg g3 (a5 BD) (qg g3 (bG jQ) (qg g3 (a5 BD) (qg g3 (bG jQ) (qg g3 MM (q1 (b5 g3) (q1 aF ?_))))))
 refine d9 33 H (fun g4 H=>?_) fun g4 H=>?_
 ·refine qk g4 ?_
  iterate 5 refine qk g4 ?_
  refine q1 (bR g4) (q1 aF ?_)
  iterate 7 refine qk rfl ?_
  refine q1 (bR rfl) (q1 aF ?_)
  iterate 7 refine qk rfl ?_
  refine q1 (bR rfl) (qN (dV rfl (qS (qR (q1 aF (qN (aP.ret ?_)))))))
  obtain rfl:_=r:=(aY H:)
  exact bM
 refine qg g4 (a5 vJ) (qg g4 (cV [pI pa0.gType.gKind,pS pa0.gType.gName,a4 pa0.gType.gArgs] cH) (qg g4 (a5 vJ) (qg g4 (cV [pI pa1.gType.gKind,pS pa1.gType.gName,a4 pa1.gType.gArgs] cH) (bO H fun x6 z5 H=>(qg g4 (bI Tryz.func16 (EP fu pa0.gType pa1.gType _ z5)) (qg g4 gT (q1 (b5 g4) (q1 aF ?_))))))))
 refine d9 41 H (fun g7 H=>?_) fun g7 H=>?_
 ·refine qk g7 ?_
  iterate 6 refine qk g7 ?_
  refine q1 (bR g7) (q1 aF ?_)
  iterate 7 refine qk rfl ?_
  refine q1 (bR rfl) (qN (dV rfl (qS (qR (q1 aF (qN (aP.ret ?_)))))))
  obtain rfl:_=r:=(aY H:)
  exact bM
 refine qg g7 (a5 jJ) (qg g7 (bG uD) (qg g7 (eT nK (aG.trs_len _)) (qg g7 (a5 jJ) (qg g7 (bG uD) (qg g7 (eT nK (aG.trs_len _)) (qg g7 MM (q1 (b5 g7) (q1 aF ?_))))))))
 refine d9 50 H (fun g8 H=>?_) fun g8 H=>?_
 ·refine qk g8 ?_
  iterate 6 refine qk g8 ?_
  refine q1 (bR g8) (qN (dV rfl (qS (qR (q1 aF (qN (aP.ret ?_)))))))
  obtain rfl:_=r:=(aY H:)
  exact bM
 refine qg g8 (a5 gS) (qg g8 (bG rN) (qg g8 (eT pP (bJ.trs_len _)) (qg g8 (a5 gS) (qg g8 (bG rN) (qg g8 (eT pP (bJ.trs_len _)) (qg g8 MM (q1 (b5 g8) (qN ?_))))))))
 refine bA H (fun h9 H=>?_) (fun h9 H=>?_)
 ·refine qS (qR (q1 aF (qN (aP.ret ?_))))
  obtain rfl:_=r:=(aY H:)
  exact bM
 refine aP.skip ?_
 iterate 2 refine qS ?_
 refine qR (q1 aF (qN ?_))
 refine lR 43 (aG.trs_len _) (fun hl11=>?_)
 refine cM (σ:=Unit) (fun i10 _=>⟨[(2,.ptr 0 0),(3,.ptr 1 0),(4,pB false),(5,pN i10)],⟨[some ⟨87,gY pa0⟩,some ⟨87,gY pa1⟩],[]⟩⟩) (fun _=>⟨[(2,.ptr 0 0),(3,.ptr 1 0),(4,pB false)],⟨[some ⟨87,gY pa0⟩,some ⟨87,gY pa1⟩],[]⟩⟩) (gU H) ?_ ?_
 ·rintro i10 ⟨⟩ H
  iterate 2 refine qS ?_
  refine qR (q1 aF (q1 (a5 jJ) (q1 (bG uD) (q1 (eT nK (aG.trs_len _)) (q1 hZ (qN ?_))))))
  refine eW H (fun h12 h12l H=>?_) (fun h12 H=>?_)
  ·have h12n:=a8 h12
   refine aP.skip (qS (aP.block (qS (g0 H fun y13 h14 H=>(dF H fun z15 H=>(g0 H fun y16 h17 H=>(bO H fun x19 z18 H=>(dW (dI [2] (a5 jJ) (dD [66] (bG uD) (dI [5] aF (dI [67,68] (yO h14 h12n nK) (dI [69] (j0 (aG.cs y13) hP) ?_)))))))))))))
   refine dI [3] (a5 jJ) (dD [71] (bG uD) (dI [5] aF (dI [72,73] (yO h17 z15 nK) (dI [74] (j0 (aG.cs y16) hP) (dI [70,75] (bI Tryz.func288 (h_sEqualExpr y13 y16 _ z18)) (dI [76] gT (dN ?_)))))))
   refine bA H (fun h20 H=>?_) (fun h20 H=>?_)
   ·refine qS (qR (q1 aF (qN (aP.ret ?_))))
    obtain rfl:_=r:=(rG (aY H):)
    exact bM
   refine aP.skip (qR (q1 aF (q1 (aV.addI rfl rfl rfl rfl (c:=((i10+1:Nat):Int)) (by omega) (by omega)) (q1 aF (qN ?_)))))
   exact iY h12l ⟨_,(aY H:),b0⟩
  refine aP.exit ?_;exact lS ⟨_,H,b0⟩
 rintro⟨⟩ H
 iterate 2 refine qS ?_
 refine qR (q1 aF (qN ?_))
 refine aP.fact (cO 0 8 rfl rfl rfl (bJ.trs_len _)) (fun hl22=>?_)
 refine cM (σ:=Unit) (fun i21 _=>⟨[(2,.ptr 0 0),(3,.ptr 1 0),(4,pB false),(6,pN i21)],⟨[some ⟨87,gY pa0⟩,some ⟨87,gY pa1⟩],[]⟩⟩) (fun _=>⟨[(4,pB false)],⟨[some ⟨87,gY pa0⟩,some ⟨87,gY pa1⟩],[]⟩⟩) (gU H) ?_ ?_
 ·rintro i21 ⟨⟩ H
  iterate 2 refine qS ?_
  refine qR (q1 aF (q1 (a5 gS) (q1 (bG rN) (q1 (eT pP (bJ.trs_len _)) (q1 hZ (qN ?_))))))
  refine eW H (fun h23 h23l H=>?_) (fun h23 H=>?_)
  ·have h23n:=a8 h23
   refine aP.skip (qS (aP.block (qS (g0 H fun y24 h25 H=>(dF H fun z26 H=>(g0 H fun y27 h28 H=>?_))))))
   rcases kM (!decide (y24.gConstructor=y27.gConstructor)) with g29|g29
   ·have H:=nR H g29
    refine dW (dI [2] (a5 gS) (dD [85] (bG rN) (dI [6] aF (dI [86,87] (yO h25 h23n pP) (dI [88] (qX BE) (dI [89] (pZ fB) (dI [3] (a5 gS) (dD [91] (bG rN) (dI [6] aF (dI [92,93] (yO h28 z26 pP) (dI [94] (qX BE) (dI [95] (pZ fB) (dI [90,96] MN ?_)))))))))))))
    refine dI [97] aF ?_
    iterate 14 refine CL g29 ?_
    refine dI [98] (bR g29) (dI [113] aF ?_)
    iterate 14 refine CL rfl ?_
    refine dI [114] (bR rfl) (dN (dV rfl (qS (qR (q1 aF (qN (aP.ret ?_)))))))
    obtain rfl:_=r:=(rG (aY H):)
    exact bM
   have H:=nQ H g29
   refine bO H fun x31 z30 H=>?_
   rcases kM (!(x31)) with g32|g32
   ·have H:=nR H g32
    refine dW (dI [2] (a5 gS) (dD [85] (bG rN) (dI [6] aF (dI [86,87] (yO h25 h23n pP) (dI [88] (qX BE) (dI [89] (pZ fB) (dI [3] (a5 gS) (dD [91] (bG rN) (dI [6] aF (dI [92,93] (yO h28 z26 pP) (dI [94] (qX BE) (dI [95] (pZ fB) (dI [90,96] MN ?_)))))))))))))
    refine dI [97] aF (dI (hg:=aZ g29) [2] (a5 gS) (dD (hg:=aZ g29) [99] (bG rN) (dI (hg:=aZ g29) [6] aF (dI (hg:=aZ g29) [100,101] (yO h25 h23n pP) (dI (hg:=aZ g29) [102] (qX BF) (dI (hg:=aZ g29) [103] (pZ lK) (dI (hg:=aZ g29) [3] (a5 gS) (dD (hg:=aZ g29) [105] (bG rN) (dI (hg:=aZ g29) [6] aF (dI (hg:=aZ g29) [106,107] (yO h28 z26 pP) (dI (hg:=aZ g29) [108] (qX BF) (dI (hg:=aZ g29) [109] (pZ lK) (dI (hg:=aZ g29) [104,110] (bI Tryz.func295 (HZ fu y24.gVars y27.gVars _ z30)) ?_)))))))))))))
    refine dI (hg:=aZ g29) [111] gT (dI [98,112] (b5 g29) (dI [113] aF ?_))
    iterate 14 refine CL g32 ?_
    refine dI [114] (bR g32) (dN (dV rfl (qS (qR (q1 aF (qN (aP.ret ?_)))))))
    obtain rfl:_=r:=(rG (aY H):)
    exact bM
   have H:=nQ H g32
   refine bO H fun x34 z33 H=>(dW (dI [2] (a5 gS) (dD [85] (bG rN) (dI [6] aF (dI [86,87] (yO h25 h23n pP) (dI [88] (qX BE) (dI [89] (pZ fB) (dI [3] (a5 gS) (dD [91] (bG rN) (dI [6] aF (dI [92,93] (yO h28 z26 pP) (dI [94] (qX BE) (dI [95] (pZ fB) ?_)))))))))))))
   refine dI [90,96] MN (dI [97] aF (dI (hg:=aZ g29) [2] (a5 gS) (dD (hg:=aZ g29) [99] (bG rN) (dI (hg:=aZ g29) [6] aF (dI (hg:=aZ g29) [100,101] (yO h25 h23n pP) (dI (hg:=aZ g29) [102] (qX BF) (dI (hg:=aZ g29) [103] (pZ lK) (dI (hg:=aZ g29) [3] (a5 gS) (dD (hg:=aZ g29) [105] (bG rN) (dI (hg:=aZ g29) [6] aF (dI (hg:=aZ g29) [106,107] (yO h28 z26 pP) (dI (hg:=aZ g29) [108] (qX BF) (dI (hg:=aZ g29) [109] (pZ lK) ?_)))))))))))))
   refine dI (hg:=aZ g29) [104,110] (bI Tryz.func295 (HZ fu y24.gVars y27.gVars _ z30)) (dI (hg:=aZ g29) [111] gT (dI [98,112] (b5 g29) (dI [113] aF (dI (hg:=aZ g32) [2] (a5 gS) (dD (hg:=aZ g32) [115] (bG rN) (dI (hg:=aZ g32) [6] aF (dI (hg:=aZ g32) [116,117] (yO h25 h23n pP) (dI (hg:=aZ g32) [118] (qX IY) (dI (hg:=aZ g32) [119] (j0 (aG.cs y24.gBody) hP) (dI (hg:=aZ g32) [3] (a5 gS) (dD (hg:=aZ g32) [121] (bG rN) (dI (hg:=aZ g32) [6] aF (dI (hg:=aZ g32) [122,123] (yO h28 z26 pP) ?_)))))))))))))
   refine dI (hg:=aZ g32) [124] (qX IY) (dI (hg:=aZ g32) [125] (j0 (aG.cs y27.gBody) hP) (dI (hg:=aZ g32) [120,126] (bI Tryz.func288 (h_sEqualExpr y24.gBody y27.gBody _ z33)) (dI (hg:=aZ g32) [127] gT (dI [114,128] (b5 g32) (dN ?_)))))
   refine bA H (fun h35 H=>?_) (fun h35 H=>?_)
   ·refine qS (qR (q1 aF (qN (aP.ret ?_))))
    obtain rfl:_=r:=(rG (aY H):)
    exact bM
   refine aP.skip (qR (q1 aF (q1 (aV.addI rfl rfl rfl rfl (c:=((i21+1:Nat):Int)) (by omega) (by omega)) (q1 aF (qN ?_)))))
   exact iY h23l ⟨_,(aY H:),b0⟩
  refine aP.exit ?_;exact lS ⟨_,H,b0⟩
 rintro⟨⟩ H
 refine qS (qR (q1 aF (qN (aP.ret ?_))))
 obtain rfl:_=r:=(aY H:)
 exact bM
def iQ:Nat→aG→aG→Option Bool
 |0,_,_=>none
 |fu+1,pa0,pa1=>zR fu (iQ fu) pa0 pa1
theorem NW(fu:Nat):uW (iQ fu):=by
 induction fu with
 |zero=>exact(fun pa0 pa1 r H=>by simp only [iQ] at H;cases H)
 |succ fu ih=>exact(fun pa0 pa1 r H=>by simp only [iQ] at H;exact LH fu (iQ fu) ih pa0 pa1 r H)
theorem P7(fu:Nat):uW (iQ fu):=(NW fu)
abbrev lN:=aG→(List ByteArray)→(List ByteArray)→Option ((List ByteArray))
def zX(m:lN):Prop:= ∀(pa0:aG) (pa1:List ByteArray) (pa2:List ByteArray) (r:(List ByteArray)),m pa0 pa1 pa2=some r→cY Tryz.prog 292 [(aG.pv pa0),rS pa1,aS pa2 0] ⟨[],[⟨9,1,aW (pa2),false⟩]⟩ (fun q t=>q=(aS r 0:PV)∧t=⟨[],[⟨9,1,aW (r),false⟩]⟩)
def WK(fu:Nat)(r_sl11Free:lN)(pa0:aG)(pa1 pa2:List ByteArray):Option (((List ByteArray))⊕((List ByteArray))):=
 sw (decide ((pa0.gKind:Int)=3))
 (bd (l7 fu pa1 pa0.gName) (fun x5=>
 sw (!(x5))
 (bd (l7 fu pa2 pa0.gName) (fun x8=>
 sw (!(x8))
 (gd ((pa2).length+(([pa0.gName]:List ByteArray)).length≤68719476736)
 (some (.inr (pa2++([pa0.gName]:List ByteArray)))))
 (some (.inr pa2))))
 (some (.inr pa2))))
 (some (.inr pa2))
def WL(fu:Nat)(r_sl11Free:lN)(pa0:aG)(pa1 pa2 v2:List ByteArray):Nat→((List ByteArray))→Option (LR ((List ByteArray)) ((List ByteArray))):=
 fun i11 v13=>sw (decide ((pa0.gKind:Int)=8))
 (sw (decide ((((i11:Nat):Int):Int)=1))
 (gd (([]:List ByteArray).length+(pa1).length≤68719476736)
 (gd ((([])++pa1).length+(([pa0.gName]:List ByteArray)).length≤68719476736)
 (lt (a3 pa0.gArgs i11) (fun y20=>
 bd (r_sl11Free y20 ((([])++pa1)++([pa0.gName]:List ByteArray)) v13) (fun x23=>
 some (.next x23))))))
 (lt (a3 pa0.gArgs i11) (fun y24=>
 bd (r_sl11Free y24 pa1 v13) (fun x27=>
 some (.next x27)))))
 (lt (a3 pa0.gArgs i11) (fun y28=>
 bd (r_sl11Free y28 pa1 v13) (fun x31=>
 some (.next x31))))
def WN(fu:Nat)(r_sl11Free:lN)(pa0:aG)(pa1 pa2 v2:List ByteArray):Option (((List ByteArray))⊕((List ByteArray))):=
 loopN (WL fu r_sl11Free pa0 pa1 pa2 v2) (pa0.gArgs.length-0) 0 v2
def WM(fu:Nat)(r_sl11Free:lN)(pa0:aG)(pa1 pa2 v2 v13:List ByteArray):Nat→((List ByteArray))→Option (LR ((List ByteArray)) ((List ByteArray))):=
 fun i32 v34=>lt (a3 pa0.gArms i32) (fun y37=>
 gd (([]:List ByteArray).length+(pa1).length≤68719476736)
 (gd ((([])++pa1).length+(y37.gVars).length≤68719476736)
 (bd (r_sl11Free y37.gBody ((([])++pa1)++y37.gVars) v34) (fun x42=>
 some (.next x42)))))
def WO(fu:Nat)(r_sl11Free:lN)(pa0:aG)(pa1 pa2 v2 v13:List ByteArray):Option (((List ByteArray))⊕((List ByteArray))):=
 loopN (WM fu r_sl11Free pa0 pa1 pa2 v2 v13) (pa0.gArms.length-0) 0 v13
def GB(fu:Nat)(r_sl11Free:lN)(pa0:aG)(pa1 pa2:List ByteArray):Option ((List ByteArray)):=
 so (WK fu r_sl11Free pa0 pa1 pa2) (fun v2=>
 so (WN fu r_sl11Free pa0 pa1 pa2 v2) (fun v13=>
 so (WO fu r_sl11Free pa0 pa1 pa2 v2 v13) (fun v34=>
 some v34)))
theorem QP(fu:Nat)(r_sl11Free:lN)(h_sl11Free:zX r_sl11Free):zX (GB fu r_sl11Free):=by
 intro pa0 pa1 pa2 r H
 have H:=fI H
 refine qI Tryz.func292 (fun C hC=>?_)
 refine qS (qR (q1 (jU (gY pa0)) (q1 aF (qN (qS ?_)))))
 refine o7 (σ:=(List ByteArray)) (fun v2=>⟨[(1,rS pa1),(2,aS v2 0),(3,.ptr 0 0),(6,.nil)],⟨[some ⟨87,gY pa0⟩],[⟨9,1,aW (v2),false⟩]⟩⟩) (gU H) (fun H=>?_) ?_
 ·refine qS (qR (q1 (a5 pQ) (q1 (bG jQ) (q1 eM (q1 aF ?_)))))
  refine d9 13 H (fun g3 H=>?_) fun g3 H=>?_
  ·refine qg g3 aF (qg g3 (a5 nU) (qg g3 (bG fB) (bO H fun x5 z4 H=>(qg g3 (bI Tryz.func125 (l8 fu pa1 pa0.gName _ z4)) (qg g3 gT (q1 (bR g3) (q1 aF ?_)))))))
   refine d9 20 H (fun g6 H=>?_) fun g6 H=>?_
   ·refine qg g6 aF (qg g6 (a5 nU) (qg g6 (bG fB) (bO H fun x8 z7 H=>(qg g6 (bI Tryz.func125 (l8 fu pa2 pa0.gName _ z7)) (qg g6 gT (q1 (bR g6) (qN ?_)))))))
    refine bA H (fun h9 H=>?_) (fun h9 H=>?_)
    ·refine qR (q1 aF (q1 (a5 nU) (q1 (bG fB) (q1 (iA ([pa0.gName]:List ByteArray) b3 lA) (dF H fun z10 H=>(q1 (mJ z10 b3 rT) (q1 aF (qN ?_))))))))
     exact dP ⟨_,(aY H:),b0⟩
    refine aP.skip ?_;exact dP ⟨_,(aY H:),b0⟩
   iterate 5 refine qk g6 ?_
   refine q1 (b5 g6) (qN (iX rfl (aP.skip ?_)))
   exact dP ⟨_,(aY H:),b0⟩
  iterate 5 refine qk g3 ?_
  refine q1 (b5 g3) (q1 aF ?_)
  iterate 5 refine qk rfl ?_
  refine q1 (b5 rfl) (qN (iX rfl (aP.skip ?_)))
  exact dP ⟨_,(aY H:),b0⟩
 rintro v2 H
 iterate 2 refine qS ?_
 refine qR (q1 aF (qN ?_))
 refine aP.fact (cO 0 7 rfl rfl rfl (aG.trs_len _)) (fun hl14=>?_)
 refine cM (σ:=(List ByteArray)) (fun i11 v13=>⟨[(1,rS pa1),(2,aS v13 0),(3,.ptr 0 0),(6,.nil),(7,pN i11)],⟨[some ⟨87,gY pa0⟩],[⟨9,1,aW (v13),false⟩]⟩⟩) (fun v13=>⟨[(1,rS pa1),(2,aS v13 0),(3,.ptr 0 0),(6,.nil)],⟨[some ⟨87,gY pa0⟩],[⟨9,1,aW (v13),false⟩]⟩⟩) (gU H) ?_ ?_
 ·rintro i11 v13 H
  iterate 2 refine qS ?_
  refine qR (q1 aF (q1 (a5 jJ) (q1 (bG uD) (q1 (eT nK (aG.trs_len _)) (q1 hZ (qN ?_))))))
  refine eW H (fun h15 h15l H=>?_) (fun h15 H=>?_)
  ·have h15n:=a8 h15
   refine aP.skip (qS (aP.block (qS (qR ?_))))
   iterate 2 refine q1 aF ?_
   refine qN ?_
   iterate 2 refine qS ?_
   refine qR (q1 (a5 pQ) (q1 (bG jQ) (q1 eM (q1 aF ?_))))
   refine d9 43 H (fun g16 H=>?_) fun g16 H=>?_
   ·refine qg g16 aF (qg g16 eM (q1 (bR g16) (qN ?_)))
    refine bA H (fun h17 H=>?_) (fun h17 H=>?_)
    ·refine dF H fun z18 H=>(dF H fun z19 H=>(dW (dE [] (t2 ([]:List ByteArray) b3 lA) (dI [1] aF (dE [47,48] (mJ z18 b3 rT) (dI [3] (a5 nU) (dB [50] 0 2 (vC fB) (dI [51] (iA ([pa0.gName]:List ByteArray) b3 lA) (dE [49,52] (mJ z19 b3 rT) (dI [53] aF (dN (qR (q1 (a5 jJ) ?_)))))))))))))
     refine q1 (bG uD) (q1 aF (g0 H fun y20 h21 H=>(q1 (yO h21 h15n nK) (q1 (j0 (aG.cs y20) hP) ?_))))
     iterate 2 refine q1 aF ?_
     refine bO H fun x23 z22 H=>(q1 (f7 [] [0] Tryz.func292 (h_sl11Free y20 ((([])++pa1)++([pa0.gName]:List ByteArray)) v13 _ z22)) (q1 aF (qN (qR (q1 aF (q1 (aV.addI rfl rfl rfl rfl (c:=((i11+1:Nat):Int)) (by omega) (by omega)) (q1 aF (qN ?_))))))))
     exact iY h15l ⟨_,(aY H:),b0⟩
    refine aP.skip (qR (q1 (a5 jJ) (q1 (bG uD) (q1 aF (g0 H fun y24 h25 H=>(q1 (yO h25 h15n nK) (q1 (j0 (aG.cs y24) hP) ?_)))))))
    iterate 2 refine q1 aF ?_
    refine bO H fun x27 z26 H=>(q1 (f7 [] [0] Tryz.func292 (h_sl11Free y24 pa1 v13 _ z26)) (q1 aF (qN (qR (q1 aF (q1 (aV.addI rfl rfl rfl rfl (c:=((i11+1:Nat):Int)) (by omega) (by omega)) (q1 aF (qN ?_))))))))
    exact iY h15l ⟨_,(aY H:),b0⟩
   iterate 2 refine qk g16 ?_
   refine q1 (b5 g16) (qN (iX rfl (aP.skip (qR (q1 (a5 jJ) (q1 (bG uD) (q1 aF (g0 H fun y28 h29 H=>(q1 (yO h29 h15n nK) (q1 (j0 (aG.cs y28) hP) ?_))))))))))
   iterate 2 refine q1 aF ?_
   refine bO H fun x31 z30 H=>(q1 (f7 [] [0] Tryz.func292 (h_sl11Free y28 pa1 v13 _ z30)) (q1 aF (qN (qR (q1 aF (q1 (aV.addI rfl rfl rfl rfl (c:=((i11+1:Nat):Int)) (by omega) (by omega)) (q1 aF (qN ?_))))))))
   exact iY h15l ⟨_,(aY H:),b0⟩
  refine aP.exit ?_;exact lS ⟨_,H,b0⟩
 rintro v13 H
 iterate 2 refine qS ?_
 refine qR (q1 aF (qN ?_))
 refine aP.fact (cO 0 8 rfl rfl rfl (bJ.trs_len _)) (fun hl35=>?_)
 refine cM (σ:=(List ByteArray)) (fun i32 v34=>⟨[(1,rS pa1),(2,aS v34 0),(3,.ptr 0 0),(6,.nil),(9,pN i32)],⟨[some ⟨87,gY pa0⟩],[⟨9,1,aW (v34),false⟩]⟩⟩) (fun v34=>⟨[(2,aS v34 0),(6,.nil)],⟨[some ⟨87,gY pa0⟩],[⟨9,1,aW (v34),false⟩]⟩⟩) (gU H) ?_ ?_
 ·rintro i32 v34 H
  iterate 2 refine qS ?_
  refine qR (q1 aF (q1 (a5 gS) (q1 (bG rN) (q1 (eT pP (bJ.trs_len _)) (q1 hZ (qN ?_))))))
  refine eW H (fun h36 h36l H=>?_) (fun h36 H=>?_)
  ·have h36n:=a8 h36
   refine aP.skip (qS (aP.block (g0 H fun y37 h38 H=>(dF H fun z39 H=>(dF H fun z40 H=>(bO H fun x42 z41 H=>(dW (dI [3] (a5 gS) (dB [69] 0 3 (vC rN) (dI [9] aF (dI [70,71] (yO h38 h36n pP) (dI [72] (qX IY) (dI [73] (j0 (aG.cs y37.gBody) hP) ?_)))))))))))))
   refine dE [] (t2 ([]:List ByteArray) b3 lA) (dI [1] aF (dE [75,76] (mJ z39 b3 rT) (dI [3] (a5 gS) (dB [78] 0 2 (vC rN) (dI [9] aF (dI [79,80] (yO h38 h36n pP) (dI [81] (qX BF) (dI [82] (pZ lK) (dE [77,83] (mJ z40 b3 rT) (dI [2] aF (dE [74,84,85] (f7 [] [0] Tryz.func292 (h_sl11Free y37.gBody ((([])++pa1)++y37.gVars) v34 _ z41)) (dI [86] aF (dN ?_)))))))))))))
   refine qR (q1 aF (q1 (aV.addI rfl rfl rfl rfl (c:=((i32+1:Nat):Int)) (by omega) (by omega)) (q1 aF (qN ?_))))
   exact iY h36l ⟨_,(aY H:),b0⟩
  refine aP.exit ?_;exact lS ⟨_,H,b0⟩
 rintro v34 H
 refine qS (qR ?_)
 iterate 2 refine q1 aF ?_
 refine qN (aP.ret ?_)
 obtain rfl:_=r:=(aY H:)
 exact bM
def lM:Nat→aG→(List ByteArray)→(List ByteArray)→Option ((List ByteArray))
 |0,_,_,_=>none
 |fu+1,pa0,pa1,pa2=>GB fu (lM fu) pa0 pa1 pa2
theorem S1(fu:Nat):zX (lM fu):=by
 induction fu with
 |zero=>exact(fun pa0 pa1 pa2 r H=>by simp only [lM] at H;cases H)
 |succ fu ih=>exact(fun pa0 pa1 pa2 r H=>by simp only [lM] at H;exact QP fu (lM fu) ih pa0 pa1 pa2 r H)
theorem WQ(fu:Nat):zX (lM fu):=(S1 fu)
def JE(m:aG→Option ((List ByteArray))):Prop:= ∀(pe:aG) (r:(List ByteArray)),m pe=some r→cE Tryz.prog 286 [(aG.pv pe)] (rS r:PV)
def sL(fu:Nat)(pe:aG):Option ((List ByteArray)):=
 bd (lM fu pe ([]) ([])) (fun x2=>
 some x2)
theorem HR(fu:Nat):JE (sL fu):=by
 intro pe r H
 have H:=fI H
 refine qI Tryz.func286 (fun C hC=>?_)
 refine qS (qR (q1 (jU (gY pe)) (q1 aF (qN (qS (qR (q1 (cV [pI pe.gKind,pS pe.gTrait,pS pe.gName,pI pe.gN,pI pe.gType.gKind,pS pe.gType.gName,a4 pe.gType.gArgs,gQ pe.gArgs,oM pe.gArms] hP) ?_)))))))
 iterate 2 refine q1 (t2 ([]:List ByteArray) b3 lA) ?_
 refine bO H fun x2 z1 H=>(q1 (f7 [] [1] Tryz.func292 (WQ fu pe ([]) ([]) _ z1)) (q1 aF (qN (aP.ret ?_))))
 obtain rfl:_=r:=(aY H:)
 exact bM
def Z4(m:aA→(List ByteArray)→Option Bool):Prop:= ∀(pt:aA) (pvars:List ByteArray) (r:Bool),m pt pvars=some r→cE Tryz.prog 275 [(aA.pv pt),rS pvars] (pB r:PV)
def XF(fu:Nat)(pt:aA)(pvars x2:List ByteArray):Nat→Unit→Option (LR Unit Bool):=
 fun i3 _=>bd (l7 fu pvars (a3 x2 i3)) (fun x7=>
 sw (!(x7))
 (some (.ret false))
 (some (.next ())))
def XG(fu:Nat)(pt:aA)(pvars x2:List ByteArray):Option (Bool⊕Unit):=
 loopN (XF fu pt pvars x2) (x2.length-0) 0 ()
def mR(fu:Nat)(pt:aA)(pvars:List ByteArray):Option Bool:=
 bd (sN fu pt) (fun x2=>
 so (XG fu pt pvars x2) (fun _=>
 bd (jA fu pt) (fun x10=>
 some x10)))
theorem n5(fu:Nat):Z4 (mR fu):=by
 intro pt pvars r H
 have H:=fI H
 refine qI Tryz.func275 (fun C hC=>?_)
 refine qS (qR (q1 (jU (dJ pt)) (q1 aF (qN (qS (qR (q1 (cV [pI pt.gKind,pS pt.gName,a4 pt.gArgs] cH) (bO H fun x2 z1 H=>(q1 (bI Tryz.func138 (HX fu pt _ z1)) (q1 aF (qN ?_)))))))))))
 iterate 2 refine qS ?_
 refine qR (q1 aF (qN ?_))
 refine lR 5 (bC _) (fun hl4=>?_)
 refine cM (σ:=Unit) (fun i3 _=>⟨[(1,rS pvars),(2,.ptr 0 0),(4,pB false),(5,rS x2),(6,pN i3)],⟨[some ⟨35,dJ pt⟩],[]⟩⟩) (fun _=>⟨[(2,.ptr 0 0),(4,pB false)],⟨[some ⟨35,dJ pt⟩],[]⟩⟩) (gU H) ?_ ?_
 ·rintro i3 ⟨⟩ H
  iterate 2 refine qS ?_
  refine qR ?_
  iterate 2 refine q1 aF ?_
  refine q1 (eT b3 (bC _)) (q1 hZ (qN ?_))
  refine eW H (fun h5 h5l H=>?_) (fun h5 H=>?_)
  ·have h5n:=a8 h5
   refine aP.skip (qS (aP.block (qS (qR ?_))))
   iterate 3 refine q1 aF ?_
   refine q1 (iH h5n b3) (q1 (pZ fB) (bO H fun x7 z6 H=>(q1 (bI Tryz.func125 (l8 fu pvars (a3 x2 i3) _ z6)) (q1 gT (qN ?_)))))
   refine bA H (fun h8 H=>?_) (fun h8 H=>?_)
   ·refine qS (qR (q1 aF (qN (aP.ret ?_))))
    obtain rfl:_=r:=(rG (aY H):)
    exact bM
   refine aP.skip (qR (q1 aF (q1 (aV.addI rfl rfl rfl rfl (c:=((i3+1:Nat):Int)) (by omega) (by omega)) (q1 aF (qN ?_)))))
   exact iY h5l ⟨_,(aY H:),b0⟩
  refine aP.exit ?_;exact lS ⟨_,H,b0⟩
 rintro⟨⟩ H
 refine qS (qR (q1 (cV [pI pt.gKind,pS pt.gName,a4 pt.gArgs] cH) (bO H fun x10 z9 H=>(q1 (bI Tryz.func284 (kJ fu pt _ z9)) (q1 aF (qN (aP.ret ?_)))))))
 obtain rfl:_=r:=(aY H:)
 exact bM
def adN(m:(List aA)→(List ByteArray)→Option Bool):Prop:= ∀(plist:List aA) (pvars:List ByteArray) (r:Bool),m plist pvars=some r→cE Tryz.prog 274 [a4 plist,rS pvars] (pB r:PV)
def ZX(fu:Nat)(plist:List aA)(pvars:List ByteArray):Nat→Unit→Option (LR Unit Bool):=
 fun i1 _=>bd (mR fu (a3 plist i1) pvars) (fun x5=>
 sw (!(x5))
 (some (.ret false))
 (some (.next ())))
def ZY(fu:Nat)(plist:List aA)(pvars:List ByteArray):Option (Bool⊕Unit):=
 loopN (ZX fu plist pvars) (plist.length-0) 0 ()
def C0(fu:Nat)(plist:List aA)(pvars:List ByteArray):Option Bool:=
 so (ZY fu plist pvars) (fun _=>
 some true)
theorem OM(fu:Nat):adN (C0 fu):=by
 intro plist pvars r H
 have H:=fI H
 refine qI Tryz.func274 (fun C hC=>?_)
 refine qS (qR (q1 aF (qN ?_)))
 iterate 2 refine qS ?_
 refine qR (q1 aF (qN ?_))
 refine lR 0 (aA.trs_len _) (fun hl2=>?_)
 refine cM (σ:=Unit) (fun i1 _=>⟨[(0,a4 plist),(1,rS pvars),(4,pB false),(5,pN i1)],⟨[],[]⟩⟩) (fun _=>⟨[(4,pB false)],⟨[],[]⟩⟩) (gU H) ?_ ?_
 ·rintro i1 ⟨⟩ H
  iterate 2 refine qS ?_
  refine qR ?_
  iterate 2 refine q1 aF ?_
  refine q1 (eT dX (aA.trs_len _)) (q1 hZ (qN ?_))
  refine eW H (fun h3 h3l H=>?_) (fun h3 H=>?_)
  ·have h3n:=a8 h3
   refine aP.skip (qS (aP.block (qS (qR ?_))))
   iterate 2 refine q1 aF ?_
   refine q1 (iH h3n dX) (q1 (j0 (aA.cs (a3 plist i1)) cH) (q1 aF (bO H fun x5 z4 H=>(q1 (bI Tryz.func275 (n5 fu (a3 plist i1) pvars _ z4)) (q1 gT (qN ?_))))))
   refine bA H (fun h6 H=>?_) (fun h6 H=>?_)
   ·refine qS (qR (q1 aF (qN (aP.ret ?_))))
    obtain rfl:_=r:=(rG (aY H):)
    exact bM
   refine aP.skip (qR (q1 aF (q1 (aV.addI rfl rfl rfl rfl (c:=((i1+1:Nat):Int)) (by omega) (by omega)) (q1 aF (qN ?_)))))
   exact iY h3l ⟨_,(aY H:),b0⟩
  refine aP.exit ?_;exact lS ⟨_,H,b0⟩
 rintro⟨⟩ H
 refine qS (qR (q1 aF (qN (aP.ret ?_))))
 obtain rfl:_=r:=(aY H:)
 exact bM
def Z2(m:aG→Option Bool):Prop:= ∀(pe:aG) (r:Bool),m pe=some r→cE Tryz.prog 283 [(aG.pv pe)] (pB r:PV)
def GI(fu:Nat)(pe:aG):Option Bool:=
 bd (iQ fu pe (aG.mk 0 s_ s_ 0 (aA.mk 0 s_ []) [] [])) (fun x2=>
 some x2)
theorem XD(fu:Nat):Z2 (GI fu):=by
 intro pe r H
 have H:=fI H
 refine qI Tryz.func283 (fun C hC=>?_)
 refine qS (qR (q1 (jU (gY pe)) (q1 aF (qN (qS (qR (q1 (cV [pI pe.gKind,pS pe.gTrait,pS pe.gName,pI pe.gN,pI pe.gType.gKind,pS pe.gType.gName,a4 pe.gType.gArgs,gQ pe.gArgs,oM pe.gArms] hP) (q1 (f6 kG vS) (bO H fun x2 z1 H=>(q1 (bI Tryz.func288 (P7 fu pe (aG.mk 0 s_ s_ 0 (aA.mk 0 s_ []) [] []) _ z1)) (q1 aF (qN (aP.ret ?_)))))))))))))
 obtain rfl:_=r:=(aY H:)
 exact bM
def XI(m:(List ByteArray)→Int→Option Bool):Prop:= ∀(plist:List ByteArray) (pmost:Int) (r:Bool),m plist pmost=some r→cE Tryz.prog 236 [rS plist,pI pmost] (pB r:PV)
def fS(fu:Nat)(plist:List ByteArray)(pmost:Int):Option Bool:=
 sw (decide ((((plist.length:Nat):Int):Int)≤pmost))
 (bd (AB fu plist) (fun x3=>
 sw (x3)
 (bd (iZ fu plist) (fun x6=>
 some x6))
 (some false)))
 (some false)
theorem fY(fu:Nat):XI (fS fu):=by
 intro plist pmost r H
 have H:=fI H
 refine qI Tryz.func236 (fun C hC=>?_)
 refine qS (qR (q1 aF (qN (qS (qR (q1 aF (q1 (eT b3 (bC _)) (q1 aF (q1 rLe (q1 aF ?_))))))))))
 refine d9 9 H (fun g1 H=>?_) fun g1 H=>?_
 ·refine qg g1 aF (bO H fun x3 z2 H=>(qg g1 (bI Tryz.func255 (KX fu plist _ z2)) (q1 (bR g1) (q1 aF ?_))))
  refine d9 13 H (fun g4 H=>?_) fun g4 H=>?_
  ·refine qg g4 aF (bO H fun x6 z5 H=>(qg g4 (bI Tryz.func237 (kI fu plist _ z5)) (q1 (bR g4) (q1 aF (qN (aP.ret ?_))))))
   obtain rfl:_=r:=(aY H:)
   exact bM
  iterate 2 refine qk g4 ?_
  refine q1 (b5 g4) (q1 aF (qN (aP.ret ?_)))
  obtain rfl:_=r:=(aY H:)
  exact bM
 iterate 2 refine qk g1 ?_
 refine q1 (b5 g1) (q1 aF ?_)
 iterate 2 refine qk rfl ?_
 refine q1 (b5 rfl) (q1 aF (qN (aP.ret ?_)))
 obtain rfl:_=r:=(aY H:)
 exact bM
def ZZ(m:aG→(List ByteArray)→Option Bool):Prop:= ∀(pe:aG) (pvars:List ByteArray) (r:Bool),m pe pvars=some r→cE Tryz.prog 278 [(aG.pv pe),rS pvars] (pB r:PV)
def W7(fu:Nat)(pe:aG)(pvars x2:List ByteArray):Nat→Unit→Option (LR Unit Bool):=
 fun i3 _=>bd (l7 fu pvars (a3 x2 i3)) (fun x7=>
 sw (!(x7))
 (some (.ret false))
 (some (.next ())))
def W8(fu:Nat)(pe:aG)(pvars x2:List ByteArray):Option (Bool⊕Unit):=
 loopN (W7 fu pe pvars x2) (x2.length-0) 0 ()
def vX(fu:Nat)(pe:aG)(pvars:List ByteArray):Option Bool:=
 bd (sL fu pe) (fun x2=>
 so (W8 fu pe pvars x2) (fun _=>
 bd (vU fu pe) (fun x10=>
 some x10)))
theorem B5(fu:Nat):ZZ (vX fu):=by
 intro pe pvars r H
 have H:=fI H
 refine qI Tryz.func278 (fun C hC=>?_)
 refine qS (qR (q1 (jU (gY pe)) (q1 aF (qN (qS (qR (q1 (cV [pI pe.gKind,pS pe.gTrait,pS pe.gName,pI pe.gN,pI pe.gType.gKind,pS pe.gType.gName,a4 pe.gType.gArgs,gQ pe.gArgs,oM pe.gArms] hP) (bO H fun x2 z1 H=>(q1 (bI Tryz.func286 (HR fu pe _ z1)) (q1 aF (qN ?_)))))))))))
 iterate 2 refine qS ?_
 refine qR (q1 aF (qN ?_))
 refine lR 5 (bC _) (fun hl4=>?_)
 refine cM (σ:=Unit) (fun i3 _=>⟨[(1,rS pvars),(2,.ptr 0 0),(4,pB false),(5,rS x2),(6,pN i3)],⟨[some ⟨87,gY pe⟩],[]⟩⟩) (fun _=>⟨[(2,.ptr 0 0),(4,pB false)],⟨[some ⟨87,gY pe⟩],[]⟩⟩) (gU H) ?_ ?_
 ·rintro i3 ⟨⟩ H
  iterate 2 refine qS ?_
  refine qR ?_
  iterate 2 refine q1 aF ?_
  refine q1 (eT b3 (bC _)) (q1 hZ (qN ?_))
  refine eW H (fun h5 h5l H=>?_) (fun h5 H=>?_)
  ·have h5n:=a8 h5
   refine aP.skip (qS (aP.block (qS (qR ?_))))
   iterate 3 refine q1 aF ?_
   refine q1 (iH h5n b3) (q1 (pZ fB) (bO H fun x7 z6 H=>(q1 (bI Tryz.func125 (l8 fu pvars (a3 x2 i3) _ z6)) (q1 gT (qN ?_)))))
   refine bA H (fun h8 H=>?_) (fun h8 H=>?_)
   ·refine qS (qR (q1 aF (qN (aP.ret ?_))))
    obtain rfl:_=r:=(rG (aY H):)
    exact bM
   refine aP.skip (qR (q1 aF (q1 (aV.addI rfl rfl rfl rfl (c:=((i3+1:Nat):Int)) (by omega) (by omega)) (q1 aF (qN ?_)))))
   exact iY h5l ⟨_,(aY H:),b0⟩
  refine aP.exit ?_;exact lS ⟨_,H,b0⟩
 rintro⟨⟩ H
 refine qS (qR (q1 (cV [pI pe.gKind,pS pe.gTrait,pS pe.gName,pI pe.gN,pI pe.gType.gKind,pS pe.gType.gName,a4 pe.gType.gArgs,gQ pe.gArgs,oM pe.gArms] hP) (bO H fun x10 z9 H=>(q1 (bI Tryz.func287 (LP fu pe _ z9)) (q1 aF (qN (aP.ret ?_)))))))
 obtain rfl:_=r:=(aY H:)
 exact bM
def adP(m:aE→Option Bool):Prop:= ∀(ps:aE) (r:Bool),m ps=some r→cE Tryz.prog 273 [(aE.pv ps)] (pB r:PV)
def J3(fu:Nat)(ps:aE):Option Bool:=
 bd (dH fu ps.gName) (fun x2=>
 sw (!(x2))
 (some false)
 (sw (decide ((((ps.gParams.length:Nat):Int):Int)>4))
 (some false)
 (bd (C0 fu ps.gParams ([iJ]:List ByteArray)) (fun x6=>
 sw (!(x6))
 (some false)
 (bd (mR fu ps.gResult ([iJ]:List ByteArray)) (fun x9=>
 sw (!(x9))
 (some false)
 (sw (!(ps.gHasDefault))
 (sw (decide ((((ps.gVars.length:Nat):Int):Int)=0))
 (bd (GI fu ps.gBody) (fun x14=>
 some x14))
 (some false))
 (bd (fS fu ps.gVars 5) (fun x16=>
 sw (x16)
 (sw (decide ((((ps.gVars.length:Nat):Int):Int)=aQ (((ps.gParams.length:Nat):Int)+1)))
 (bd (vX fu ps.gBody ps.gVars) (fun x20=>
 some x20))
 (some false))
 (some false))))))))))
theorem Z3(fu:Nat):adP (J3 fu):=by
 intro ps r H
 have H:=fI H
 refine qI Tryz.func273 (fun C hC=>?_)
 refine qS (qR (q1 (jU (YW ps)) (q1 aF (qN ?_))))
 iterate 2 refine qS ?_
 refine qR (q1 (a5 SF) (q1 (bG fB) (bO H fun x2 z1 H=>(q1 (bI Tryz.func235 (dU fu ps.gName _ z1)) (q1 gT (q1 aF ?_))))))
 refine d9 7 H (fun g3 H=>?_) fun g3 H=>?_
 ·refine qk g3 ?_
  iterate 3 refine qk g3 ?_
  refine q1 (bR g3) (q1 aF ?_)
  iterate 5 refine qk rfl ?_
  refine q1 (bR rfl) (q1 aF ?_)
  iterate 5 refine qk rfl ?_
  refine q1 (bR rfl) (qN (dV rfl (qS (qR (q1 aF (qN (aP.ret ?_)))))))
  obtain rfl:_=r:=(aY H:)
  exact bM
 refine qg g3 (a5 MD) (qg g3 (bG l5) (qg g3 (eT dX (aA.trs_len _)) (qg g3 IB (q1 (b5 g3) (q1 aF ?_)))))
 refine d9 13 H (fun g4 H=>?_) fun g4 H=>?_
 ·refine qk g4 ?_
  iterate 4 refine qk g4 ?_
  refine q1 (bR g4) (q1 aF ?_)
  iterate 5 refine qk rfl ?_
  refine q1 (bR rfl) (qN (dV rfl (qS (qR (q1 aF (qN (aP.ret ?_)))))))
  obtain rfl:_=r:=(aY H:)
  exact bM
 refine qg g4 (a5 MD) (qg g4 (bG l5) (qg g4 (iA ([iJ]:List ByteArray) b3 lA) (bO H fun x6 z5 H=>(qg g4 (bI Tryz.func274 (OM fu ps.gParams ([iJ]:List ByteArray) _ z5)) (qg g4 gT (q1 (b5 g4) (q1 aF ?_)))))))
 refine d9 20 H (fun g7 H=>?_) fun g7 H=>?_
 ·refine qk g7 ?_
  iterate 4 refine qk g7 ?_
  refine q1 (bR g7) (qN (dV rfl (qS (qR (q1 aF (qN (aP.ret ?_)))))))
  obtain rfl:_=r:=(aY H:)
  exact bM
 refine qg g7 (a5 ME) (qg g7 (cV [pI ps.gResult.gKind,pS ps.gResult.gName,a4 ps.gResult.gArgs] cH) (qg g7 (iA ([iJ]:List ByteArray) b3 lA) (bO H fun x9 z8 H=>(qg g7 (bI Tryz.func275 (n5 fu ps.gResult ([iJ]:List ByteArray) _ z8)) (qg g7 gT (q1 (b5 g7) (qN ?_)))))))
 refine bA H (fun h10 H=>?_) (fun h10 H=>?_)
 ·refine qS (qR (q1 aF (qN (aP.ret ?_))))
  obtain rfl:_=r:=(aY H:)
  exact bM
 refine aP.skip ?_
 iterate 2 refine qS ?_
 refine qR (q1 (a5 G6) (q1 (bG sh4) (q1 gT (qN ?_))))
 refine bA H (fun h11 H=>?_) (fun h11 H=>?_)
 ·refine qS (qR (q1 (a5 CN) (q1 (bG lK) (q1 (eT b3 (bC _)) (q1 eM (q1 aF ?_))))))
  refine d9 34 H (fun g12 H=>?_) fun g12 H=>?_
  ·refine qg g12 (a5 MF) (qg g12 (cV [pI ps.gBody.gKind,pS ps.gBody.gTrait,pS ps.gBody.gName,pI ps.gBody.gN,pI ps.gBody.gType.gKind,pS ps.gBody.gType.gName,a4 ps.gBody.gType.gArgs,gQ ps.gBody.gArgs,oM ps.gBody.gArms] hP) (bO H fun x14 z13 H=>(qg g12 (bI Tryz.func283 (XD fu ps.gBody _ z13)) (q1 (bR g12) (q1 aF (qN (aP.ret ?_)))))))
   obtain rfl:_=r:=(aY H:)
   exact bM
  iterate 3 refine qk g12 ?_
  refine q1 (b5 g12) (q1 aF (qN (aP.ret ?_)))
  obtain rfl:_=r:=(aY H:)
  exact bM
 refine aP.skip (qS (qR (q1 (a5 CN) (q1 (bG lK) (bO H fun x16 z15 H=>(q1 (bI Tryz.func236 (fY fu ps.gVars 5 _ z15)) (q1 aF ?_)))))))
 refine d9 42 H (fun g17 H=>?_) fun g17 H=>?_
 ·refine qg g17 (a5 CN) (qg g17 (bG lK) (qg g17 (eT b3 (bC _)) (qg g17 (a5 MD) (qg g17 (bG l5) (qg g17 (eT dX (aA.trs_len _)) (qg g17 ML (qg g17 eM (q1 (bR g17) (q1 aF ?_)))))))))
  refine d9 52 H (fun g18 H=>?_) fun g18 H=>?_
  ·refine qg g18 (a5 MF) (qg g18 (cV [pI ps.gBody.gKind,pS ps.gBody.gTrait,pS ps.gBody.gName,pI ps.gBody.gN,pI ps.gBody.gType.gKind,pS ps.gBody.gType.gName,a4 ps.gBody.gType.gArgs,gQ ps.gBody.gArgs,oM ps.gBody.gArms] hP) (qg g18 (a5 CN) (qg g18 (bG lK) (bO H fun x20 z19 H=>(qg g18 (bI Tryz.func278 (B5 fu ps.gBody ps.gVars _ z19)) (q1 (bR g18) (q1 aF (qN (aP.ret ?_)))))))))
   obtain rfl:_=r:=(aY H:)
   exact bM
  iterate 5 refine qk g18 ?_
  refine q1 (b5 g18) (q1 aF (qN (aP.ret ?_)))
  obtain rfl:_=r:=(aY H:)
  exact bM
 iterate 8 refine qk g17 ?_
 refine q1 (b5 g17) (q1 aF ?_)
 iterate 5 refine qk rfl ?_
 refine q1 (b5 rfl) (q1 aF (qN (aP.ret ?_)))
 obtain rfl:_=r:=(aY H:)
 exact bM
def LU(m:aT→Option Bool):Prop:= ∀(pt:aT) (r:Bool),m pt=some r→cE Tryz.prog 256 [(aT.pv pt)] (pB r:PV)
def JH(fu:Nat)(pt:aT):Nat→((List ByteArray))→Option (LR ((List ByteArray)) Bool):=
 fun i1 v3=>lt (a3 pt.gSignatures i1) (fun y6=>
 bd (J3 fu y6) (fun x9=>
 sw (!(x9))
 (some (.ret false))
 (gd ((v3).length+(([y6.gName]:List ByteArray)).length≤68719476736)
 (some (.next (v3++([y6.gName]:List ByteArray)))))))
def JI(fu:Nat)(pt:aT):Option (Bool⊕((List ByteArray))):=
 loopN (JH fu pt) (pt.gSignatures.length-0) 0 ([])
def pM(fu:Nat)(pt:aT):Option Bool:=
 so (JI fu pt) (fun v3=>
 sw (pt.gAuto)
 (sw (pt.gAssoc)
 (some false)
 (sw (decide ((((pt.gSignatures.length:Nat):Int):Int)>0))
 (some false)
 (sw (decide ((((pt.gSupertraits.length:Nat):Int):Int)>0))
 (some false)
 (bd (dH fu pt.gName) (fun x17=>
 sw (x17)
 (bd (fS fu pt.gSupertraits 4) (fun x20=>
 sw (x20)
 (bd (fS fu v3 6) (fun x23=>
 some x23))
 (some false)))
 (some false))))))
 (bd (dH fu pt.gName) (fun x25=>
 sw (x25)
 (bd (fS fu pt.gSupertraits 4) (fun x28=>
 sw (x28)
 (bd (fS fu v3 6) (fun x31=>
 some x31))
 (some false)))
 (some false))))
theorem yS(fu:Nat):LU (pM fu):=by
 intro pt r H
 have H:=fI H
 refine qI Tryz.func256 (fun C hC=>?_)
 refine qS (qR (q1 (jU (A8 pt)) (q1 aF (qN (qS (qR (q1 (t2 ([]:List ByteArray) b3 lA) (q1 aF (qN ?_)))))))))
 iterate 2 refine qS ?_
 refine qR (q1 aF (qN ?_))
 refine aP.fact (cO 0 4 rfl rfl rfl (aE.trs_len _)) (fun hl4=>?_)
 refine cM (σ:=(List ByteArray)) (fun i1 v3=>⟨[(1,.ptr 0 0),(2,pB false),(3,aS v3 0),(4,pN i1)],⟨[some ⟨60,A8 pt⟩],[⟨9,1,aW (v3),false⟩]⟩⟩) (fun v3=>⟨[(1,.ptr 0 0),(2,pB false),(3,aS v3 0)],⟨[some ⟨60,A8 pt⟩],[⟨9,1,aW (v3),false⟩]⟩⟩) (gU H) ?_ ?_
 ·rintro i1 v3 H
  iterate 2 refine qS ?_
  refine qR (q1 aF (q1 (a5 lE) (q1 (bG EG) (q1 (eT uO (aE.trs_len _)) (q1 hZ (qN ?_))))))
  refine eW H (fun h5 h5l H=>?_) (fun h5 H=>?_)
  ·have h5n:=a8 h5
   refine aP.skip (qS (aP.block ?_))
   iterate 2 refine qS ?_
   refine qR (q1 (a5 lE) (q1 (bG EG) (q1 aF (g0 H fun y6 h7 H=>(q1 (yO h7 h5n uO) (q1 (j0 (aE.cs y6) V4) (bO H fun x9 z8 H=>(q1 (bI Tryz.func273 (Z3 fu y6 _ z8)) (q1 gT (qN ?_))))))))))
   refine bA H (fun h10 H=>?_) (fun h10 H=>?_)
   ·refine qS (qR (q1 aF (qN (aP.ret ?_))))
    obtain rfl:_=r:=(rG (aY H):)
    exact bM
   refine aP.skip (qR (q1 aF (q1 (a5 lE) (q1 (bG EG) (q1 aF (q1 (yO h7 h5n uO) (q1 (qX SF) (q1 (pZ fB) (q1 (iA ([y6.gName]:List ByteArray) b3 lA) (dF H fun z11 H=>(q1 (mJ z11 b3 rT) (q1 aF (qN ?_)))))))))))))
   refine qR (q1 aF (q1 (aV.addI rfl rfl rfl rfl (c:=((i1+1:Nat):Int)) (by omega) (by omega)) (q1 aF (qN ?_))))
   exact iY h5l ⟨_,(aY H:),b0⟩
  refine aP.exit ?_;exact lS ⟨_,H,b0⟩
 rintro v3 H
 iterate 2 refine qS ?_
 refine qR (q1 (a5 YZ) (q1 (bG sh4) (q1 aF ?_)))
 refine d9 31 H (fun g12 H=>?_) fun g12 H=>?_
 ·refine qg g12 (a5 aeZ) (qg g12 (bG sh4) (qg g12 aF ?_))
  refine d9 34 H (fun g13 H=>?_) fun g13 H=>?_
  ·refine qk g13 ?_
   iterate 3 refine qk g13 ?_
   refine qg g12 (bR g13) (qg g12 aF ?_)
   iterate 4 refine qk rfl ?_
   refine qg g12 (bR rfl) (q1 (bR g12) (qN (dV rfl (qS (qR (q1 aF (qN (aP.ret ?_))))))))
   obtain rfl:_=r:=(aY H:)
   exact bM
  refine qg g13 (a5 lE) (qg g13 (bG EG) (qg g13 (eT uO (aE.trs_len _)) (qg g13 IB (qg g12 (b5 g13) (qg g12 aF ?_)))))
  refine d9 40 H (fun g14 H=>?_) fun g14 H=>?_
  ·refine qk g14 ?_
   iterate 3 refine qk g14 ?_
   refine qg g12 (bR g14) (q1 (bR g12) (qN (dV rfl (qS (qR (q1 aF (qN (aP.ret ?_))))))))
   obtain rfl:_=r:=(aY H:)
   exact bM
  refine qg g14 (a5 zG) (qg g14 (bG lK) (qg g14 (eT b3 (bC _)) (qg g14 IB (qg g12 (b5 g14) (q1 (bR g12) (qN ?_))))))
  refine bA H (fun h15 H=>?_) (fun h15 H=>?_)
  ·refine qS (qR (q1 aF (qN (aP.ret ?_))))
   obtain rfl:_=r:=(aY H:)
   exact bM
  refine aP.skip (qS (qR (q1 (a5 FH) (q1 (bG fB) (bO H fun x17 z16 H=>(q1 (bI Tryz.func235 (dU fu pt.gName _ z16)) (q1 aF ?_)))))))
  refine d9 50 H (fun g18 H=>?_) fun g18 H=>?_
  ·refine qg g18 (a5 zG) (qg g18 (bG lK) (bO H fun x20 z19 H=>(qg g18 (bI Tryz.func236 (fY fu pt.gSupertraits 4 _ z19)) (q1 (bR g18) (q1 aF ?_)))))
   refine d9 55 H (fun g21 H=>?_) fun g21 H=>?_
   ·refine qg g21 aF (bO H fun x23 z22 H=>(qg g21 (bI Tryz.func236 (fY fu v3 6 _ z22)) (q1 (bR g21) (q1 aF (qN (aP.ret ?_))))))
    obtain rfl:_=r:=(aY H:)
    exact bM
   iterate 2 refine qk g21 ?_
   refine q1 (b5 g21) (q1 aF (qN (aP.ret ?_)))
   obtain rfl:_=r:=(aY H:)
   exact bM
  iterate 3 refine qk g18 ?_
  refine q1 (b5 g18) (q1 aF ?_)
  iterate 2 refine qk rfl ?_
  refine q1 (b5 rfl) (q1 aF (qN (aP.ret ?_)))
  obtain rfl:_=r:=(aY H:)
  exact bM
 iterate 3 refine qk g12 ?_
 iterate 4 refine GR ?_
 iterate 2 refine qk g12 ?_
 iterate 4 refine GR ?_
 refine qk g12 (q1 (b5 g12) (qN (iX rfl (aP.skip (qS (qR (q1 (a5 FH) (q1 (bG fB) (bO H fun x25 z24 H=>(q1 (bI Tryz.func235 (dU fu pt.gName _ z24)) (q1 aF ?_)))))))))))
 refine d9 50 H (fun g26 H=>?_) fun g26 H=>?_
 ·refine qg g26 (a5 zG) (qg g26 (bG lK) (bO H fun x28 z27 H=>(qg g26 (bI Tryz.func236 (fY fu pt.gSupertraits 4 _ z27)) (q1 (bR g26) (q1 aF ?_)))))
  refine d9 55 H (fun g29 H=>?_) fun g29 H=>?_
  ·refine qg g29 aF (bO H fun x31 z30 H=>(qg g29 (bI Tryz.func236 (fY fu v3 6 _ z30)) (q1 (bR g29) (q1 aF (qN (aP.ret ?_))))))
   obtain rfl:_=r:=(aY H:)
   exact bM
  iterate 2 refine qk g29 ?_
  refine q1 (b5 g29) (q1 aF (qN (aP.ret ?_)))
  obtain rfl:_=r:=(aY H:)
  exact bM
 iterate 3 refine qk g26 ?_
 refine q1 (b5 g26) (q1 aF ?_)
 iterate 2 refine qk rfl ?_
 refine q1 (b5 rfl) (q1 aF (qN (aP.ret ?_)))
 obtain rfl:_=r:=(aY H:)
 exact bM
def FZ(m:aL→Option Bool):Prop:= ∀(pd:aL) (r:Bool),m pd=some r→cE Tryz.prog 257 [(aL.pv pd)] (pB r:PV)
def DX(fu:Nat)(pd:aL):Nat→((List ByteArray))→Option (LR ((List ByteArray)) Bool):=
 fun i1 v3=>sw (decide ((((((a3 pd.gConstructors i1).gFields).length:Nat):Int):Int)>4))
 (some (.ret false))
 (bd (C0 fu ((a3 pd.gConstructors i1).gFields) pd.gVars) (fun x8=>
 sw (!(x8))
 (some (.ret false))
 (gd ((v3).length+(([((a3 pd.gConstructors i1).gName)]:List ByteArray)).length≤68719476736)
 (some (.next (v3++([((a3 pd.gConstructors i1).gName)]:List ByteArray)))))))
def DY(fu:Nat)(pd:aL):Option (Bool⊕((List ByteArray))):=
 loopN (DX fu pd) (pd.gConstructors.length-0) 0 ([])
def mL(fu:Nat)(pd:aL):Option Bool:=
 so (DY fu pd) (fun v3=>
 bd (dH fu pd.gName) (fun x12=>
 sw (x12)
 (bd (fS fu pd.gVars 3) (fun x15=>
 sw (x15)
 (sw (decide ((((v3.length:Nat):Int):Int)>0))
 (bd (fS fu v3 5) (fun x19=>
 some x19))
 (some false))
 (some false)))
 (some false)))
theorem uH(fu:Nat):FZ (mL fu):=by
 intro pd r H
 have H:=fI H
 refine qI Tryz.func257 (fun C hC=>?_)
 refine qS (qR (q1 (jU (u4 pd)) (q1 aF (qN (qS (qR (q1 (t2 ([]:List ByteArray) b3 lA) (q1 aF (qN ?_)))))))))
 iterate 2 refine qS ?_
 refine qR (q1 aF (qN ?_))
 refine aP.fact (cO 0 2 rfl rfl rfl (aD.trs_len _)) (fun hl4=>?_)
 refine cM (σ:=(List ByteArray)) (fun i1 v3=>⟨[(1,.ptr 0 0),(2,pB false),(3,aS v3 0),(4,pN i1)],⟨[some ⟨116,u4 pd⟩],[⟨9,1,aW (v3),false⟩]⟩⟩) (fun v3=>⟨[(1,.ptr 0 0),(2,pB false),(3,aS v3 0)],⟨[some ⟨116,u4 pd⟩],[⟨9,1,aW (v3),false⟩]⟩⟩) (gU H) ?_ ?_
 ·rintro i1 v3 H
  iterate 2 refine qS ?_
  refine qR (q1 aF (q1 (a5 lT) (q1 (bG wR) (q1 (eT uF (aD.trs_len _)) (q1 hZ (qN ?_))))))
  refine eW H (fun h5 h5l H=>?_) (fun h5 H=>?_)
  ·have h5n:=a8 h5
   refine aP.skip (qS (aP.block ?_))
   iterate 2 refine qS ?_
   rcases kM (decide ((((((a3 pd.gConstructors i1).gFields).length:Nat):Int):Int)>4)) with g6|g6
   ·have H:=nR H g6
    refine dW (dI [1] (a5 lT) (dD [13] (bG wR) (dI [4] aF (dI [14,15] (iH h5n uF) (dI [16] (qX G7) (dI [17] (pZ l5) (dI [18] (eT dX (aA.trs_len _)) (dI [19] IB (dI [20] aF ?_)))))))))
    iterate 10 refine CL g6 ?_
    refine dI [21] (bR g6) (dN (dV rfl (qS (qR (q1 aF (qN (aP.ret ?_)))))))
    obtain rfl:_=r:=(rG (aY H):)
    exact bM
   have H:=nQ H g6
   refine bO H fun x8 z7 H=>(dW (dI [1] (a5 lT) (dD [13] (bG wR) (dI [4] aF (dI [14,15] (iH h5n uF) (dI [16] (qX G7) (dI [17] (pZ l5) (dI [18] (eT dX (aA.trs_len _)) (dI [19] IB (dI [20] aF (dI (hg:=aZ g6) [1] (a5 lT) (dD (hg:=aZ g6) [22] (bG wR) (dI (hg:=aZ g6) [4] aF ?_)))))))))))))
   refine dI (hg:=aZ g6) [23,24] (iH h5n uF) (dI (hg:=aZ g6) [25] (qX G7) (dI (hg:=aZ g6) [26] (pZ l5) (dI (hg:=aZ g6) [1] (a5 G3) (dD (hg:=aZ g6) [28] (bG lK) (dI (hg:=aZ g6) [27,29] (bI Tryz.func274 (OM fu ((a3 pd.gConstructors i1).gFields) pd.gVars _ z7)) (dI (hg:=aZ g6) [30] gT (dI [21,31] (b5 g6) (dN ?_))))))))
   refine bA H (fun h9 H=>?_) (fun h9 H=>?_)
   ·refine qS (qR (q1 aF (qN (aP.ret ?_))))
    obtain rfl:_=r:=(rG (aY H):)
    exact bM
   refine aP.skip (qR (q1 aF (q1 (a5 lT) (q1 (bG wR) (q1 aF (q1 (iH h5n uF) (q1 (qX MG) (q1 (pZ fB) (q1 (iA ([((a3 pd.gConstructors i1).gName)]:List ByteArray) b3 lA) (dF H fun z10 H=>(q1 (mJ z10 b3 rT) (q1 aF (qN ?_)))))))))))))
   refine qR (q1 aF (q1 (aV.addI rfl rfl rfl rfl (c:=((i1+1:Nat):Int)) (by omega) (by omega)) (q1 aF (qN ?_))))
   exact iY h5l ⟨_,(aY H:),b0⟩
  refine aP.exit ?_;exact lS ⟨_,H,b0⟩
 rintro v3 H
 refine qS (qR (q1 (a5 R9) (q1 (bG fB) (bO H fun x12 z11 H=>(q1 (bI Tryz.func235 (dU fu pd.gName _ z11)) (q1 aF ?_))))))
 refine d9 45 H (fun g13 H=>?_) fun g13 H=>?_
 ·refine qg g13 (a5 G3) (qg g13 (bG lK) (bO H fun x15 z14 H=>(qg g13 (bI Tryz.func236 (fY fu pd.gVars 3 _ z14)) (q1 (bR g13) (q1 aF ?_)))))
  refine d9 50 H (fun g16 H=>?_) fun g16 H=>?_
  ·refine qg g16 aF (qg g16 (eT b3 (bC _)) (qg g16 IB (q1 (bR g16) (q1 aF ?_))))
   refine d9 55 H (fun g17 H=>?_) fun g17 H=>?_
   ·refine qg g17 aF (bO H fun x19 z18 H=>(qg g17 (bI Tryz.func236 (fY fu v3 5 _ z18)) (q1 (bR g17) (q1 aF (qN (aP.ret ?_))))))
    obtain rfl:_=r:=(aY H:)
    exact bM
   iterate 2 refine qk g17 ?_
   refine q1 (b5 g17) (q1 aF (qN (aP.ret ?_)))
   obtain rfl:_=r:=(aY H:)
   exact bM
  iterate 3 refine qk g16 ?_
  refine q1 (b5 g16) (q1 aF ?_)
  iterate 2 refine qk rfl ?_
  refine q1 (b5 rfl) (q1 aF (qN (aP.ret ?_)))
  obtain rfl:_=r:=(aY H:)
  exact bM
 iterate 3 refine qk g13 ?_
 refine q1 (b5 g13) (q1 aF ?_)
 iterate 3 refine qk rfl ?_
 refine q1 (b5 rfl) (q1 aF ?_)
 iterate 2 refine qk rfl ?_
 refine q1 (b5 rfl) (q1 aF (qN (aP.ret ?_)))
 obtain rfl:_=r:=(aY H:)
 exact bM
def LO(m:aJ→Option Bool):Prop:= ∀(pb:aJ) (r:Bool),m pb=some r→cE Tryz.prog 285 [(aJ.pv pb)] (pB r:PV)
def t5(fu:Nat)(pb:aJ):Option Bool:=
 bd (dH fu pb.gTrait) (fun x2=>
 sw (x2)
 (bd (jA fu pb.gType) (fun x5=>
 some x5))
 (some false))
theorem JG(fu:Nat):LO (t5 fu):=by
 intro pb r H
 have H:=fI H
 refine qI Tryz.func285 (fun C hC=>?_)
 refine qS (qR (q1 (jU (ah1 pb)) (q1 aF (qN (qS (qR (q1 (a5 aeX) (q1 (bG fB) (bO H fun x2 z1 H=>(q1 (bI Tryz.func235 (dU fu pb.gTrait _ z1)) (q1 aF ?_)))))))))))
 refine d9 6 H (fun g3 H=>?_) fun g3 H=>?_
 ·refine qg g3 (a5 M9) (qg g3 (cV [pI pb.gType.gKind,pS pb.gType.gName,a4 pb.gType.gArgs] cH) (bO H fun x5 z4 H=>(qg g3 (bI Tryz.func284 (kJ fu pb.gType _ z4)) (q1 (bR g3) (q1 aF (qN (aP.ret ?_)))))))
  obtain rfl:_=r:=(aY H:)
  exact bM
 iterate 3 refine qk g3 ?_
 refine q1 (b5 g3) (q1 aF (qN (aP.ret ?_)))
 obtain rfl:_=r:=(aY H:)
 exact bM
def XH(m:(List aJ)→(List ByteArray)→Option Bool):Prop:= ∀(plist:List aJ) (pvars:List ByteArray) (r:Bool),m plist pvars=some r→cE Tryz.prog 276 [fO plist,rS pvars] (pB r:PV)
def TG(fu:Nat)(plist:List aJ)(pvars:List ByteArray):Nat→Unit→Option (LR Unit Bool):=
 fun i1 _=>bd (t5 fu (a3 plist i1)) (fun x5=>
 sw (!(x5))
 (some (.ret false))
 (bd (mR fu ((a3 plist i1).gType) pvars) (fun x8=>
 sw (!(x8))
 (some (.ret false))
 (bd (eS fu ((a3 plist i1).gType)) (fun x11=>
 sw (x11)
 (some (.ret false))
 (some (.next ())))))))
def TH(fu:Nat)(plist:List aJ)(pvars:List ByteArray):Option (Bool⊕Unit):=
 loopN (TG fu plist pvars) (plist.length-0) 0 ()
def wS(fu:Nat)(plist:List aJ)(pvars:List ByteArray):Option Bool:=
 so (TH fu plist pvars) (fun _=>
 some (decide ((((plist.length:Nat):Int):Int)≤4)))
theorem H0(fu:Nat):XH (wS fu):=by
 intro plist pvars r H
 have H:=fI H
 refine qI Tryz.func276 (fun C hC=>?_)
 refine qS (qR (q1 aF (qN ?_)))
 iterate 2 refine qS ?_
 refine qR (q1 aF (qN ?_))
 refine lR 0 (aJ.trs_len _) (fun hl2=>?_)
 refine cM (σ:=Unit) (fun i1 _=>⟨[(0,fO plist),(1,rS pvars),(4,pB false),(5,pN i1)],⟨[],[]⟩⟩) (fun _=>⟨[(0,fO plist),(4,pB false)],⟨[],[]⟩⟩) (gU H) ?_ ?_
 ·rintro i1 ⟨⟩ H
  iterate 2 refine qS ?_
  refine qR ?_
  iterate 2 refine q1 aF ?_
  refine q1 (eT BB (aJ.trs_len _)) (q1 hZ (qN ?_))
  refine eW H (fun h3 h3l H=>?_) (fun h3 H=>?_)
  ·have h3n:=a8 h3
   refine aP.skip (qS (aP.block (qS (qR ?_))))
   iterate 2 refine q1 aF ?_
   refine q1 (iH h3n BB) (q1 (j0 (aJ.cs (a3 plist i1)) ajY) (bO H fun x5 z4 H=>(q1 (bI Tryz.func285 (JG fu (a3 plist i1) _ z4)) (q1 gT (q1 aF ?_)))))
   refine d9 18 H (fun g6 H=>?_) fun g6 H=>?_
   ·refine qk g6 ?_
    iterate 7 refine qk g6 ?_
    refine q1 (bR g6) (q1 aF ?_)
    iterate 6 refine qk rfl ?_
    refine q1 (bR rfl) (qN (dV rfl (qS (qR (q1 aF (qN (aP.ret ?_)))))))
    obtain rfl:_=r:=(rG (aY H):)
    exact bM
   iterate 2 refine qg g6 aF ?_
   refine qg g6 (iH h3n BB) (qg g6 (qX M9) (qg g6 (j0 (aA.cs ((a3 plist i1).gType)) cH) (qg g6 aF (bO H fun x8 z7 H=>(qg g6 (bI Tryz.func275 (n5 fu ((a3 plist i1).gType) pvars _ z7)) (qg g6 gT (q1 (b5 g6) (q1 aF ?_))))))))
   refine d9 28 H (fun g9 H=>?_) fun g9 H=>?_
   ·refine qk g9 ?_
    iterate 5 refine qk g9 ?_
    refine q1 (bR g9) (qN (dV rfl (qS (qR (q1 aF (qN (aP.ret ?_)))))))
    obtain rfl:_=r:=(rG (aY H):)
    exact bM
   iterate 2 refine qg g9 aF ?_
   refine qg g9 (iH h3n BB) (qg g9 (qX M9) (qg g9 (j0 (aA.cs ((a3 plist i1).gType)) cH) (bO H fun x11 z10 H=>(qg g9 (bI Tryz.func139 (wO fu ((a3 plist i1).gType) _ z10)) (q1 (b5 g9) (qN ?_))))))
   refine bA H (fun h12 H=>?_) (fun h12 H=>?_)
   ·refine qS (qR (q1 aF (qN (aP.ret ?_))))
    obtain rfl:_=r:=(rG (aY H):)
    exact bM
   refine aP.skip (qR (q1 aF (q1 (aV.addI rfl rfl rfl rfl (c:=((i1+1:Nat):Int)) (by omega) (by omega)) (q1 aF (qN ?_)))))
   exact iY h3l ⟨_,(aY H:),b0⟩
  refine aP.exit ?_;exact lS ⟨_,H,b0⟩
 rintro⟨⟩ H
 refine qS (qR (q1 aF (q1 (eT BB (aJ.trs_len _)) (q1 rLe (q1 aF (qN (aP.ret ?_)))))))
 obtain rfl:_=r:=(aY H:)
 exact bM
def F1(m:aH→Option Bool):Prop:= ∀(pa0:aH) (r:Bool),m pa0=some r→cE Tryz.prog 258 [(aH.pv pa0)] (pB r:PV)
def D2(fu:Nat)(pa0:aH)(x2 x5 x8 x11 x15:Bool):Nat→Unit→Option (LR Unit Bool):=
 fun i17 _=>bd (BV fu (a3 pa0.gVars i17) pa0.gHead) (fun x21=>
 sw (!(x21))
 (some (.ret false))
 (some (.next ())))
def D4(fu:Nat)(pa0:aH)(x2 x5 x8 x11 x15:Bool):Option (Bool⊕Unit):=
 loopN (D2 fu pa0 x2 x5 x8 x11 x15) (pa0.gVars.length-0) 0 ()
def D1(fu:Nat)(pa0:aH)(x2 x5 x8 x11 x15:Bool):Option (Bool⊕Unit):=
 sw (pa0.gHasAssoc)
 (bd (mR fu pa0.gAssoc pa0.gVars) (fun x25=>
 sw (!(x25))
 (some (.inl false))
 (some (.inr ()))))
 (bd (qE fu pa0.gAssoc) (fun x28=>
 sw (!(x28))
 (some (.inl false))
 (some (.inr ()))))
def D3(fu:Nat)(pa0:aH)(x2 x5 x8 x11 x15:Bool):Nat→((List ByteArray))→Option (LR ((List ByteArray)) Bool):=
 fun i30 v32=>lt (a3 pa0.gMethods i30) (fun y35=>
 sw (decide ((((y35.gVars.length:Nat):Int):Int)=0))
 (some (.ret false))
 (bd (fS fu y35.gVars 5) (fun x39=>
 sw (!(x39))
 (some (.ret false))
 (bd (vX fu y35.gBody y35.gVars) (fun x42=>
 sw (!(x42))
 (some (.ret false))
 (gd ((v32).length+(([y35.gName]:List ByteArray)).length≤68719476736)
 (some (.next (v32++([y35.gName]:List ByteArray))))))))))
def D5(fu:Nat)(pa0:aH)(x2 x5 x8 x11 x15:Bool):Option (Bool⊕((List ByteArray))):=
 loopN (D3 fu pa0 x2 x5 x8 x11 x15) (pa0.gMethods.length-0) 0 ([])
def mN(fu:Nat)(pa0:aH):Option Bool:=
 bd (dH fu pa0.gTrait) (fun x2=>
 sw (!(x2))
 (some false)
 (bd (fS fu pa0.gVars 3) (fun x5=>
 sw (!(x5))
 (some false)
 (bd (mR fu pa0.gHead pa0.gVars) (fun x8=>
 sw (!(x8))
 (some false)
 (bd (eS fu pa0.gHead) (fun x11=>
 sw (x11)
 (some false)
 (sw (decide ((pa0.gHead.gKind:Int)=4))
 (some false)
 (bd (wS fu pa0.gWhere pa0.gVars) (fun x15=>
 sw (!(x15))
 (some false)
 (so (D4 fu pa0 x2 x5 x8 x11 x15) (fun _=>
 so (D1 fu pa0 x2 x5 x8 x11 x15) (fun _=>
 so (D5 fu pa0 x2 x5 x8 x11 x15) (fun v32=>
 bd (fS fu v32 6) (fun x46=>
 some x46)))))))))))))))
theorem uJ(fu:Nat):F1 (mN fu):=by
 intro pa0 r H
 have H:=fI H
 refine qI Tryz.func258 (fun C hC=>?_)
 refine qS (qR (q1 (jU (gO pa0)) (q1 aF (qN ?_))))
 iterate 2 refine qS ?_
 refine qR (q1 (a5 zF) (q1 (bG fB) (bO H fun x2 z1 H=>(q1 (bI Tryz.func235 (dU fu pa0.gTrait _ z1)) (q1 gT (q1 aF ?_))))))
 refine d9 11 H (fun g3 H=>?_) fun g3 H=>?_
 ·refine qk g3 ?_
  iterate 3 refine qk g3 ?_
  refine q1 (bR g3) (q1 aF ?_)
  iterate 6 refine qk rfl ?_
  refine q1 (bR rfl) (q1 aF ?_)
  iterate 3 refine qk rfl ?_
  refine q1 (bR rfl) (q1 aF ?_)
  iterate 4 refine qk rfl ?_
  refine q1 (bR rfl) (q1 aF ?_)
  iterate 6 refine qk rfl ?_
  refine q1 (bR rfl) (qN (dV rfl (qS (qR (q1 aF (qN (aP.ret ?_)))))))
  obtain rfl:_=r:=(aY H:)
  exact bM
 refine qg g3 (a5 r6) (qg g3 (bG lK) (bO H fun x5 z4 H=>(qg g3 (bI Tryz.func236 (fY fu pa0.gVars 3 _ z4)) (qg g3 gT (q1 (b5 g3) (q1 aF ?_))))))
 refine d9 17 H (fun g6 H=>?_) fun g6 H=>?_
 ·refine qk g6 ?_
  iterate 5 refine qk g6 ?_
  refine q1 (bR g6) (q1 aF ?_)
  iterate 3 refine qk rfl ?_
  refine q1 (bR rfl) (q1 aF ?_)
  iterate 4 refine qk rfl ?_
  refine q1 (bR rfl) (q1 aF ?_)
  iterate 6 refine qk rfl ?_
  refine q1 (bR rfl) (qN (dV rfl (qS (qR (q1 aF (qN (aP.ret ?_)))))))
  obtain rfl:_=r:=(aY H:)
  exact bM
 refine qg g6 (a5 nL) (qg g6 (cV [pI pa0.gHead.gKind,pS pa0.gHead.gName,a4 pa0.gHead.gArgs] cH) (qg g6 (a5 r6) (qg g6 (bG lK) (bO H fun x8 z7 H=>(qg g6 (bI Tryz.func275 (n5 fu pa0.gHead pa0.gVars _ z7)) (qg g6 gT (q1 (b5 g6) (q1 aF ?_))))))))
 refine d9 25 H (fun g9 H=>?_) fun g9 H=>?_
 ·refine qk g9 ?_
  iterate 2 refine qk g9 ?_
  refine q1 (bR g9) (q1 aF ?_)
  iterate 4 refine qk rfl ?_
  refine q1 (bR rfl) (q1 aF ?_)
  iterate 6 refine qk rfl ?_
  refine q1 (bR rfl) (qN (dV rfl (qS (qR (q1 aF (qN (aP.ret ?_)))))))
  obtain rfl:_=r:=(aY H:)
  exact bM
 refine qg g9 (a5 nL) (qg g9 (cV [pI pa0.gHead.gKind,pS pa0.gHead.gName,a4 pa0.gHead.gArgs] cH) (bO H fun x11 z10 H=>(qg g9 (bI Tryz.func139 (wO fu pa0.gHead _ z10)) (q1 (b5 g9) (q1 aF ?_)))))
 refine d9 30 H (fun g12 H=>?_) fun g12 H=>?_
 ·refine qk g12 ?_
  iterate 3 refine qk g12 ?_
  refine q1 (bR g12) (q1 aF ?_)
  iterate 6 refine qk rfl ?_
  refine q1 (bR rfl) (qN (dV rfl (qS (qR (q1 aF (qN (aP.ret ?_)))))))
  obtain rfl:_=r:=(aY H:)
  exact bM
 refine qg g12 (a5 nL) (qg g12 (a5 lD) (qg g12 (bG jQ) (qg g12 eM (q1 (b5 g12) (q1 aF ?_)))))
 refine d9 36 H (fun g13 H=>?_) fun g13 H=>?_
 ·refine qk g13 ?_
  iterate 5 refine qk g13 ?_
  refine q1 (bR g13) (qN (dV rfl (qS (qR (q1 aF (qN (aP.ret ?_)))))))
  obtain rfl:_=r:=(aY H:)
  exact bM
 refine qg g13 (a5 IU) (qg g13 (bG adF) (qg g13 (a5 r6) (qg g13 (bG lK) (bO H fun x15 z14 H=>(qg g13 (bI Tryz.func276 (H0 fu pa0.gWhere pa0.gVars _ z14)) (qg g13 gT (q1 (b5 g13) (qN ?_))))))))
 refine bA H (fun h16 H=>?_) (fun h16 H=>?_)
 ·refine qS (qR (q1 aF (qN (aP.ret ?_))))
  obtain rfl:_=r:=(aY H:)
  exact bM
 refine aP.skip ?_
 iterate 2 refine qS ?_
 refine qR (q1 aF (qN ?_))
 refine lR 13 (bC _) (fun hl18=>?_)
 refine cM (σ:=Unit) (fun i17 _=>⟨[(1,.ptr 0 0),(2,pB false),(3,pN i17)],⟨[some ⟨55,gO pa0⟩],[]⟩⟩) (fun _=>⟨[(1,.ptr 0 0),(2,pB false)],⟨[some ⟨55,gO pa0⟩],[]⟩⟩) (gU H) ?_ ?_
 ·rintro i17 ⟨⟩ H
  iterate 2 refine qS ?_
  refine qR (q1 aF (q1 (a5 r6) (q1 (bG lK) (q1 (eT b3 (bC _)) (q1 hZ (qN ?_))))))
  refine eW H (fun h19 h19l H=>?_) (fun h19 H=>?_)
  ·have h19n:=a8 h19
   refine aP.skip (qS (aP.block (qS (bO H fun x21 z20 H=>(dW (dI [1] (a5 r6) (dD [51] (bG lK) (dI [3] aF (dI [52,53] (iH h19n b3) (dI [54] (pZ fB) (dI [1] (a5 nL) (dD [56] (cV [pI pa0.gHead.gKind,pS pa0.gHead.gName,a4 pa0.gHead.gArgs] cH) (dI [55,57] (bI Tryz.func200 (SV fu (a3 pa0.gVars i17) pa0.gHead _ z20)) ?_)))))))))))))
   refine dI [58] gT (dN ?_)
   refine bA H (fun h22 H=>?_) (fun h22 H=>?_)
   ·refine qS (qR (q1 aF (qN (aP.ret ?_))))
    obtain rfl:_=r:=(rG (aY H):)
    exact bM
   refine aP.skip (qR (q1 aF (q1 (aV.addI rfl rfl rfl rfl (c:=((i17+1:Nat):Int)) (by omega) (by omega)) (q1 aF (qN ?_)))))
   exact iY h19l ⟨_,(aY H:),b0⟩
  refine aP.exit ?_;exact lS ⟨_,H,b0⟩
 rintro⟨⟩ H
 refine qS ?_;refine o7 (σ:=Unit) (fun _=>⟨[(1,.ptr 0 0),(2,pB false)],⟨[some ⟨55,gO pa0⟩],[]⟩⟩) (gU H) (fun H=>?_) ?_
 ·refine qS (qR (q1 (a5 IV) (q1 (bG sh4) (q1 aF ?_))))
  refine d9 62 H (fun g23 H=>?_) fun g23 H=>?_
  ·refine qg g23 (a5 IW) (qg g23 (cV [pI pa0.gAssoc.gKind,pS pa0.gAssoc.gName,a4 pa0.gAssoc.gArgs] cH) (qg g23 (a5 r6) (qg g23 (bG lK) (bO H fun x25 z24 H=>(qg g23 (bI Tryz.func275 (n5 fu pa0.gAssoc pa0.gVars _ z24)) (qg g23 gT (q1 (bR g23) (q1 aF ?_))))))))
   refine d9 70 H (fun g26 H=>?_) fun g26 H=>?_
   ·refine qk g26 ?_
    iterate 3 refine qk g26 ?_
    iterate 4 refine GR ?_
    refine qk g26 (q1 (bR g26) (qN (dV rfl (qS (qR (q1 aF (qN (aP.ret ?_))))))))
    obtain rfl:_=r:=(EH (aY H):)
    exact bM
   refine qg g26 (a5 IV) (qg g26 (bG sh4) (qg g26 gT (qg g26 aF ?_)))
   iterate 4 refine qk (congrArg (fun b=> !b) g23) ?_
   refine qg g26 (b5 (congrArg (fun b=> !b) g23)) (q1 (b5 g26) (qN (iX rfl (aP.skip ?_))))
   exact dP ⟨_,(aY H:),b0⟩
  iterate 6 refine qk g23 ?_
  refine q1 (b5 g23) (q1 aF (qg rfl (a5 IV) (qg rfl (bG sh4) (qg rfl gT (qg rfl aF (qg (congrArg (fun b=> !b) g23) (a5 IW) (qg (congrArg (fun b=> !b) g23) (cV [pI pa0.gAssoc.gKind,pS pa0.gAssoc.gName,a4 pa0.gAssoc.gArgs] cH) (bO H fun x28 z27 H=>(qg (congrArg (fun b=> !b) g23) (bI Tryz.func277 (tN fu pa0.gAssoc _ z27)) (qg (congrArg (fun b=> !b) g23) gT (qg rfl (bR (congrArg (fun b=> !b) g23)) (q1 (b5 rfl) (qN ?_)))))))))))))
  refine bA H (fun h29 H=>?_) (fun h29 H=>?_)
  ·refine qS (qR (q1 aF (qN (aP.ret ?_))))
   obtain rfl:_=r:=(EH (aY H):)
   exact bM
  refine aP.skip ?_;exact dP ⟨_,(aY H:),b0⟩
 rintro⟨⟩ H
 refine qS (qR (q1 (t2 ([]:List ByteArray) b3 lA) (q1 aF (qN ?_))))
 iterate 2 refine qS ?_
 refine qR (q1 aF (qN ?_))
 refine aP.fact (cO 0 11 rfl rfl rfl (aN.trs_len _)) (fun hl33=>?_)
 refine cM (σ:=(List ByteArray)) (fun i30 v32=>⟨[(1,.ptr 0 0),(2,pB false),(4,aS v32 0),(5,pN i30)],⟨[some ⟨55,gO pa0⟩],[⟨9,1,aW (v32),false⟩]⟩⟩) (fun v32=>⟨[(2,pB false),(4,aS v32 0)],⟨[some ⟨55,gO pa0⟩],[⟨9,1,aW (v32),false⟩]⟩⟩) (gU H) ?_ ?_
 ·rintro i30 v32 H
  iterate 2 refine qS ?_
  refine qR (q1 aF (q1 (a5 BC) (q1 (bG ZJ) (q1 (eT R7 (aN.trs_len _)) (q1 hZ (qN ?_))))))
  refine eW H (fun h34 h34l H=>?_) (fun h34 H=>?_)
  ·have h34n:=a8 h34
   refine aP.skip (qS (aP.block (qS (qR (q1 (a5 BC) (q1 (bG ZJ) (q1 aF (g0 H fun y35 h36 H=>(q1 (yO h36 h34n R7) (q1 (j0 (aN.cs y35) ahG) (q1 (iV RO) (q1 (bU ahN) (qN ?_)))))))))))))
   iterate 2 refine qS ?_
   refine qR (q1 (a5 G5) (q1 (bG lK) (q1 (eT b3 (bC _)) (q1 eM (q1 aF ?_)))))
   refine d9 98 H (fun g37 H=>?_) fun g37 H=>?_
   ·refine qk g37 ?_
    iterate 3 refine qk g37 ?_
    refine q1 (bR g37) (q1 aF ?_)
    iterate 6 refine qk rfl ?_
    refine q1 (bR rfl) (qN (dV rfl (qS (qR (q1 aF (qN (aP.ret ?_)))))))
    obtain rfl:_=r:=(rG (aY H):)
    exact bM
   refine qg g37 (a5 G5) (qg g37 (bG lK) (bO H fun x39 z38 H=>(qg g37 (bI Tryz.func236 (fY fu y35.gVars 5 _ z38)) (qg g37 gT (q1 (b5 g37) (q1 aF ?_))))))
   refine d9 104 H (fun g40 H=>?_) fun g40 H=>?_
   ·refine qk g40 ?_
    iterate 5 refine qk g40 ?_
    refine q1 (bR g40) (qN (dV rfl (qS (qR (q1 aF (qN (aP.ret ?_)))))))
    obtain rfl:_=r:=(rG (aY H):)
    exact bM
   refine qg g40 (a5 SE) (qg g40 (cV [pI y35.gBody.gKind,pS y35.gBody.gTrait,pS y35.gBody.gName,pI y35.gBody.gN,pI y35.gBody.gType.gKind,pS y35.gBody.gType.gName,a4 y35.gBody.gType.gArgs,gQ y35.gBody.gArgs,oM y35.gBody.gArms] hP) (qg g40 (a5 G5) (qg g40 (bG lK) (bO H fun x42 z41 H=>(qg g40 (bI Tryz.func278 (B5 fu y35.gBody y35.gVars _ z41)) (qg g40 gT (q1 (b5 g40) (qN ?_))))))))
   refine bA H (fun h43 H=>?_) (fun h43 H=>?_)
   ·refine qS (qR (q1 aF (qN (aP.ret ?_))))
    obtain rfl:_=r:=(rG (aY H):)
    exact bM
   refine aP.skip (qR (q1 aF (q1 (a5 abT) (q1 (bG fB) (q1 (iA ([y35.gName]:List ByteArray) b3 lA) (dF H fun z44 H=>(q1 (mJ z44 b3 rT) (q1 aF (qN (qR (q1 aF (q1 (aV.addI rfl rfl rfl rfl (c:=((i30+1:Nat):Int)) (by omega) (by omega)) (q1 aF ?_)))))))))))))
   refine qN ?_;exact iY h34l ⟨_,(aY H:),b0⟩
  refine aP.exit ?_;exact lS ⟨_,H,b0⟩
 rintro v32 H
 refine qS (qR (q1 aF (bO H fun x46 z45 H=>(q1 (bI Tryz.func236 (fY fu v32 6 _ z45)) (q1 aF (qN (aP.ret ?_)))))))
 obtain rfl:_=r:=(aY H:)
 exact bM
def F0(m:aI→Option Bool):Prop:= ∀(pf:aI) (r:Bool),m pf=some r→cE Tryz.prog 259 [(aI.pv pf)] (pB r:PV)
def DZ(fu:Nat)(pf:aI):Nat→((List ByteArray))→Option (LR ((List ByteArray)) Bool):=
 fun i1 v3=>bd (mR fu ((a3 pf.gParams i1).gType) pf.gVars) (fun x7=>
 sw (!(x7))
 (some (.ret false))
 (gd ((v3).length+(([((a3 pf.gParams i1).gName)]:List ByteArray)).length≤68719476736)
 (some (.next (v3++([((a3 pf.gParams i1).gName)]:List ByteArray))))))
def D0(fu:Nat)(pf:aI):Option (Bool⊕((List ByteArray))):=
 loopN (DZ fu pf) (pf.gParams.length-0) 0 ([])
def mM(fu:Nat)(pf:aI):Option Bool:=
 so (D0 fu pf) (fun v3=>
 bd (dH fu pf.gName) (fun x11=>
 sw (x11)
 (bd (fS fu pf.gVars 3) (fun x14=>
 sw (x14)
 (bd (wS fu pf.gWhere pf.gVars) (fun x17=>
 sw (x17)
 (bd (fS fu v3 5) (fun x20=>
 sw (x20)
 (bd (mR fu pf.gResult pf.gVars) (fun x23=>
 sw (x23)
 (bd (vX fu pf.gBody v3) (fun x26=>
 some x26))
 (some false)))
 (some false)))
 (some false)))
 (some false)))
 (some false)))
theorem uI(fu:Nat):F0 (mM fu):=by
 intro pf r H
 have H:=fI H
 refine qI Tryz.func259 (fun C hC=>?_)
 refine qS (qR (q1 (jU (u5 pf)) (q1 aF (qN (qS (qR (q1 (t2 ([]:List ByteArray) b3 lA) (q1 aF (qN ?_)))))))))
 iterate 2 refine qS ?_
 refine qR (q1 aF (qN ?_))
 refine aP.fact (cO 0 3 rfl rfl rfl (aR.trs_len _)) (fun hl4=>?_)
 refine cM (σ:=(List ByteArray)) (fun i1 v3=>⟨[(1,.ptr 0 0),(2,pB false),(3,aS v3 0),(4,pN i1)],⟨[some ⟨148,u5 pf⟩],[⟨9,1,aW (v3),false⟩]⟩⟩) (fun v3=>⟨[(1,.ptr 0 0),(2,pB false),(3,aS v3 0)],⟨[some ⟨148,u5 pf⟩],[⟨9,1,aW (v3),false⟩]⟩⟩) (gU H) ?_ ?_
 ·rintro i1 v3 H
  iterate 2 refine qS ?_
  refine qR (q1 aF (q1 (a5 s5) (q1 (bG KT) (q1 (eT BA (aR.trs_len _)) (q1 hZ (qN ?_))))))
  refine eW H (fun h5 h5l H=>?_) (fun h5 H=>?_)
  ·have h5n:=a8 h5
   refine aP.skip (qS (aP.block ?_))
   iterate 2 refine qS ?_
   refine bO H fun x7 z6 H=>(dW (dI [1] (a5 s5) (dD [13] (bG KT) (dI [4] aF (dI [14,15] (iH h5n BA) (dI [16] (qX abX) (dI [17] (j0 (aA.cs ((a3 pf.gParams i1).gType)) cH) (dI [1] (a5 G4) (dD [19] (bG lK) (dI [18,20] (bI Tryz.func275 (n5 fu ((a3 pf.gParams i1).gType) pf.gVars _ z6)) (dI [21] gT (dN ?_))))))))))))
   refine bA H (fun h8 H=>?_) (fun h8 H=>?_)
   ·refine qS (qR (q1 aF (qN (aP.ret ?_))))
    obtain rfl:_=r:=(rG (aY H):)
    exact bM
   refine aP.skip (qR (q1 aF (q1 (a5 s5) (q1 (bG KT) (q1 aF (q1 (iH h5n BA) (q1 (qX abW) (q1 (pZ fB) (q1 (iA ([((a3 pf.gParams i1).gName)]:List ByteArray) b3 lA) (dF H fun z9 H=>(q1 (mJ z9 b3 rT) (q1 aF (qN ?_)))))))))))))
   refine qR (q1 aF (q1 (aV.addI rfl rfl rfl rfl (c:=((i1+1:Nat):Int)) (by omega) (by omega)) (q1 aF (qN ?_))))
   exact iY h5l ⟨_,(aY H:),b0⟩
  refine aP.exit ?_;exact lS ⟨_,H,b0⟩
 rintro v3 H
 refine qS (qR (q1 (a5 MA) (q1 (bG fB) (bO H fun x11 z10 H=>(q1 (bI Tryz.func235 (dU fu pf.gName _ z10)) (q1 aF ?_))))))
 refine d9 35 H (fun g12 H=>?_) fun g12 H=>?_
 ·refine qg g12 (a5 G4) (qg g12 (bG lK) (bO H fun x14 z13 H=>(qg g12 (bI Tryz.func236 (fY fu pf.gVars 3 _ z13)) (q1 (bR g12) (q1 aF ?_)))))
  refine d9 40 H (fun g15 H=>?_) fun g15 H=>?_
  ·refine qg g15 (a5 SB) (qg g15 (bG adF) (qg g15 (a5 G4) (qg g15 (bG lK) (bO H fun x17 z16 H=>(qg g15 (bI Tryz.func276 (H0 fu pf.gWhere pf.gVars _ z16)) (q1 (bR g15) (q1 aF ?_)))))))
   refine d9 47 H (fun g18 H=>?_) fun g18 H=>?_
   ·refine qg g18 aF (bO H fun x20 z19 H=>(qg g18 (bI Tryz.func236 (fY fu v3 5 _ z19)) (q1 (bR g18) (q1 aF ?_))))
    refine d9 51 H (fun g21 H=>?_) fun g21 H=>?_
    ·refine qg g21 (a5 SC) (qg g21 (cV [pI pf.gResult.gKind,pS pf.gResult.gName,a4 pf.gResult.gArgs] cH) (qg g21 (a5 G4) (qg g21 (bG lK) (bO H fun x23 z22 H=>(qg g21 (bI Tryz.func275 (n5 fu pf.gResult pf.gVars _ z22)) (q1 (bR g21) (q1 aF ?_)))))))
     refine d9 58 H (fun g24 H=>?_) fun g24 H=>?_
     ·refine qg g24 (a5 SD) (qg g24 (cV [pI pf.gBody.gKind,pS pf.gBody.gTrait,pS pf.gBody.gName,pI pf.gBody.gN,pI pf.gBody.gType.gKind,pS pf.gBody.gType.gName,a4 pf.gBody.gType.gArgs,gQ pf.gBody.gArgs,oM pf.gBody.gArms] hP) (qg g24 aF (bO H fun x26 z25 H=>(qg g24 (bI Tryz.func278 (B5 fu pf.gBody v3 _ z25)) (q1 (bR g24) (q1 aF (qN (aP.ret ?_))))))))
      obtain rfl:_=r:=(aY H:)
      exact bM
     iterate 4 refine qk g24 ?_
     refine q1 (b5 g24) (q1 aF (qN (aP.ret ?_)))
     obtain rfl:_=r:=(aY H:)
     exact bM
    iterate 5 refine qk g21 ?_
    refine q1 (b5 g21) (q1 aF ?_)
    iterate 4 refine qk rfl ?_
    refine q1 (b5 rfl) (q1 aF (qN (aP.ret ?_)))
    obtain rfl:_=r:=(aY H:)
    exact bM
   iterate 2 refine qk g18 ?_
   refine q1 (b5 g18) (q1 aF ?_)
   iterate 5 refine qk rfl ?_
   refine q1 (b5 rfl) (q1 aF ?_)
   iterate 4 refine qk rfl ?_
   refine q1 (b5 rfl) (q1 aF (qN (aP.ret ?_)))
   obtain rfl:_=r:=(aY H:)
   exact bM
  iterate 5 refine qk g15 ?_
  refine q1 (b5 g15) (q1 aF ?_)
  iterate 2 refine qk rfl ?_
  refine q1 (b5 rfl) (q1 aF ?_)
  iterate 5 refine qk rfl ?_
  refine q1 (b5 rfl) (q1 aF ?_)
  iterate 4 refine qk rfl ?_
  refine q1 (b5 rfl) (q1 aF (qN (aP.ret ?_)))
  obtain rfl:_=r:=(aY H:)
  exact bM
 iterate 3 refine qk g12 ?_
 refine q1 (b5 g12) (q1 aF ?_)
 iterate 5 refine qk rfl ?_
 refine q1 (b5 rfl) (q1 aF ?_)
 iterate 2 refine qk rfl ?_
 refine q1 (b5 rfl) (q1 aF ?_)
 iterate 5 refine qk rfl ?_
 refine q1 (b5 rfl) (q1 aF ?_)
 iterate 4 refine qk rfl ?_
 refine q1 (b5 rfl) (q1 aF (qN (aP.ret ?_)))
 obtain rfl:_=r:=(aY H:)
 exact bM
end
end Go.Proofs.YtpioomclpaiomaaGreat.W

namespace Go.Proofs.YtpioomclpaiomaaGreat.W
set_option maxRecDepth 100000
set_option maxHeartbeats 40000000
noncomputable section
open Go.RowKit Go.Proofs
set_option linter.unusedSimpArgs false
set_option linter.unusedVariables false
attribute [local irreducible] lt
def afG(m:aB→Int→Option aB):Prop:= ∀(px:aB) (pi:Int) (r:aB),m px pi=some r→cE Tryz.prog 219 [(aB.pv px),pI pi] ((aB.pv r):PV)
def c7(fu:Nat)(px:aB)(pi:Int):Option aB:=
 sw (decide ((pi:Int)≥((px.gList.length:Nat):Int)))
 (some (aB.mk s_ []))
 (gd (0≤pi∧(pi).toNat<(px.gList).length)
 (some (a3 px.gList ((pi).toNat))))
theorem cR(fu:Nat):afG (c7 fu):=by
 intro px pi r H
 have H:=fI H
 refine qI Tryz.func219 (fun C hC=>?_)
 refine qS (qR (q1 (jU ([pS px.gAtom,a9 px.gList])) (q1 (iV b6) (qN ?_))))
 iterate 2 refine qS ?_
 refine qR (q1 aF (q1 (a5 bD) (q1 (bG cQ) (q1 (eT bE (aB.trs_len _)) (q1 RG (qN ?_))))))
 refine bA H (fun h1 H=>?_) (fun h1 H=>?_)
 ·refine qS (qR (q1 (f6 b6 l3) (q1 (bU eA) (qN (aP.ret ?_)))))
  obtain rfl:_=r:=(aY H:)
  exact bM (hr:=⟨⟨_,_,_,rfl,rfl,bN,rfl,rfl⟩,trivial⟩)
 refine aP.skip (qS (qR (q1 (a5 bD) (q1 (bG cQ) (q1 aF (dF H fun z2 H=>(q1 (rIy z2 bE) (q1 (j0 (aB.cs (a3 px.gList ((pi).toNat))) bN) (q1 (bU eA) (qN (aP.ret ?_)))))))))))
 obtain rfl:_=r:=(aY H:)
 exact bM (hr:=⟨⟨_,_,_,rfl,rfl,bN,rfl,rfl⟩,trivial⟩)
def XJ(m:aB→Option ((List ByteArray))):Prop:= ∀(px:aB) (r:(List ByteArray)),m px=some r→cE Tryz.prog 243 [(aB.pv px)] (rS r:PV)
def kX(fu:Nat)(px:aB):Option ((List ByteArray)):=
 bd (vY fu px.gList) (fun(x2,x3)=>
 some x2)
theorem mS(fu:Nat):XJ (kX fu):=by
 intro px r H
 have H:=fI H
 refine qI Tryz.func243 (fun C hC=>?_)
 refine qS (qR (q1 (jU ([pS px.gAtom,a9 px.gList])) (q1 aF (qN (qS (qR (q1 (a5 bD) (q1 (bG cQ) (fK H fun x2 x3 z1 H=>(q1 (bI Tryz.func218 (CB fu px.gList _ z1)) (q1 aF ?_)))))))))))
 iterate 2 refine q1 y1 ?_
 iterate 2 refine q1 aF ?_
 refine qN (qS (qR ?_))
 iterate 2 refine q1 aF ?_
 refine qN (aP.ret ?_)
 obtain rfl:_=r:=(aY H:)
 exact bM
def Z5(m:aB→Int→Option ((List aB))):Prop:= ∀(px:aB) (pi:Int) (r:(List aB)),m px pi=some r→cE Tryz.prog 244 [(aB.pv px),pI pi] (a9 r:PV)
def sU(fu:Nat)(px:aB)(pi:Int):Option ((List aB)):=
 bd (n6 fu pi ((px.gList.length:Nat):Int)) (fun x2=>
 gd ((0:Int)≤x2∧(x2:Int)≤((px.gList.length:Nat):Int)∧(((px.gList.length:Nat):Int):Int)≤((px.gList.length:Nat):Int))
 (some (List.drop (x2:Int).toNat (List.take (((px.gList.length:Nat):Int):Int).toNat px.gList))))
theorem wT(fu:Nat):Z5 (sU fu):=by
 intro px pi r H
 have H:=fI H
 refine qI Tryz.func244 (fun C hC=>?_)
 refine qS (qR (q1 (jU ([pS px.gAtom,a9 px.gList])) (q1 aF (qN (qS (bO H fun x2 z1 H=>(dF H fun z3 H=>(dW (dI [2] (a5 bD) (dD [5] (bG cQ) (dI [1] aF (dI [2] (a5 bD) (dD [8] (bG cQ) ?_)))))))))))))
 refine dI [9] (eT bE (aB.trs_len _)) (dI [7,10] (bI Tryz.func261 (oU fu pi ((px.gList.length:Nat):Int) _ z1)) ?_)
 refine dI [6,11] (aV.congrP (aV.sliceR (es:=aB.trs (px.gList)) (l:=x2) (k:=((px.gList.length:Nat):Int)) rfl rfl rfl rfl rfl (by rw [aB.trs_len];exact rfl) (by rw [aB.trs_len];exact z3) bE) (aB.trs_part _ _ _)) ?_;refine dI [12] aF (dN (aP.ret ?_))
 obtain rfl:_=r:=(aY H:)
 exact bM
def adQ(m:(List aB)→Option ((List aA))):Prop:= ∀(plist:List aB) (r:(List aA)),m plist=some r→cE Tryz.prog 245 [a9 plist] (a4 r:PV)
def Z6(fu:Nat)(plist:List aB):Nat→((List aA))→Option (LR ((List aA)) ((List aA))):=
 fun i1 v3=>bd (k8 fu (a3 plist i1)) (fun x7=>
 gd ((v3).length+(([x7]:List aA)).length≤68719476736)
 (some (.next (v3++([x7]:List aA)))))
def Z7(fu:Nat)(plist:List aB):Option (((List aA))⊕((List aA))):=
 loopN (Z6 fu plist) (plist.length-0) 0 ([])
def C2(fu:Nat)(plist:List aB):Option ((List aA)):=
 so (Z7 fu plist) (fun v3=>
 some v3)
theorem OO(fu:Nat):adQ (C2 fu):=by
 intro plist r H
 have H:=fI H
 refine qI Tryz.func245 (fun C hC=>?_)
 refine qS (qR (q1 aF (qN (qS (qR (q1 (t2 ([]:List aA) dX gV) (q1 aF (qN ?_))))))))
 iterate 2 refine qS ?_
 refine qR (q1 aF (qN ?_))
 refine lR 0 (aB.trs_len _) (fun hl4=>?_)
 refine cM (σ:=(List aA)) (fun i1 v3=>⟨[(0,a9 plist),(2,.nil),(3,Q5 v3 0),(4,pN i1)],⟨[],[⟨35,3,aA.trs (v3),false⟩]⟩⟩) (fun v3=>⟨[(2,.nil),(3,Q5 v3 0)],⟨[],[⟨35,3,aA.trs (v3),false⟩]⟩⟩) (gU H) ?_ ?_
 ·rintro i1 v3 H
  iterate 2 refine qS ?_
  refine qR ?_
  iterate 2 refine q1 aF ?_
  refine q1 (eT bE (aB.trs_len _)) (q1 hZ (qN ?_))
  refine eW H (fun h5 h5l H=>?_) (fun h5 H=>?_)
  ·have h5n:=a8 h5
   refine aP.skip (qS (aP.block (qR ?_)))
   iterate 3 refine q1 aF ?_
   refine q1 (iH h5n bE) (q1 (j0 (aB.cs (a3 plist i1)) bN) (bO H fun x7 z6 H=>(q1 (bI Tryz.func246 (tS fu (a3 plist i1) _ z6)) (q1 (iA ([x7]:List aA) dX gV) (dF H fun z8 H=>(q1 (mJ z8 dX af5) (q1 aF (qN (qR (q1 aF (q1 (aV.addI rfl rfl rfl rfl (c:=((i1+1:Nat):Int)) (by omega) (by omega)) (q1 aF (qN ?_)))))))))))))
   exact iY h5l ⟨_,(aY H:),b0⟩
  refine aP.exit ?_;exact lS ⟨_,H,b0⟩
 rintro v3 H
 refine qS (qR ?_)
 iterate 2 refine q1 aF ?_
 refine qN (aP.ret ?_)
 obtain rfl:_=r:=(aY H:)
 exact bM
def XM(m:(List ByteArray)→Option aB):Prop:= ∀(plist:List ByteArray) (r:aB),m plist=some r→cE Tryz.prog 267 [rS plist] ((aB.pv r):PV)
def jX(fu:Nat)(plist:List ByteArray):Option aB:=
 bd (AA fu plist) (fun x2=>
 some (aB.mk s_ x2))
theorem kY(fu:Nat):XM (jX fu):=by
 intro plist r H
 have H:=fI H
 refine qI Tryz.func267 (fun C hC=>?_)
 refine qS (qR (q1 (iV b6) (qN (qS (qR (q1 aF (bO H fun x2 z1 H=>(q1 (bI Tryz.func280 (KW fu plist _ z1)) (q1 (f6 b6 l3) (q1 (bU eA) (qN (aP.ret ?_))))))))))))
 obtain rfl:_=r:=(aY H:)
 exact bM (hr:=⟨⟨_,_,_,rfl,rfl,bN,rfl,rfl⟩,trivial⟩)
def XK(m:(List aA)→Option ((List aB))):Prop:= ∀(plist:List aA) (r:(List aB)),m plist=some r→cE Tryz.prog 268 [a4 plist] (a9 r:PV)
def TJ(fu:Nat)(plist:List aA):Nat→((List aB))→Option (LR ((List aB)) ((List aB))):=
 fun i1 v3=>bd (k7 fu (a3 plist i1)) (fun x7=>
 gd ((v3).length+(([x7]:List aB)).length≤68719476736)
 (some (.next (v3++([x7]:List aB)))))
def TK(fu:Nat)(plist:List aA):Option (((List aB))⊕((List aB))):=
 loopN (TJ fu plist) (plist.length-0) 0 ([])
def wU(fu:Nat)(plist:List aA):Option ((List aB)):=
 so (TK fu plist) (fun v3=>
 some v3)
theorem H2(fu:Nat):XK (wU fu):=by
 intro plist r H
 have H:=fI H
 refine qI Tryz.func268 (fun C hC=>?_)
 refine qS (qR (q1 aF (qN (qS (qR (q1 (t2 ([]:List aB) bE b6) (q1 aF (qN ?_))))))))
 iterate 2 refine qS ?_
 refine qR (q1 aF (qN ?_))
 refine lR 0 (aA.trs_len _) (fun hl4=>?_)
 refine cM (σ:=(List aB)) (fun i1 v3=>⟨[(0,a4 plist),(2,.nil),(3,dY v3 0),(4,pN i1)],⟨[],[⟨237,2,aB.trs (v3),false⟩]⟩⟩) (fun v3=>⟨[(2,.nil),(3,dY v3 0)],⟨[],[⟨237,2,aB.trs (v3),false⟩]⟩⟩) (gU H) ?_ ?_
 ·rintro i1 v3 H
  iterate 2 refine qS ?_
  refine qR ?_
  iterate 2 refine q1 aF ?_
  refine q1 (eT dX (aA.trs_len _)) (q1 hZ (qN ?_))
  refine eW H (fun h5 h5l H=>?_) (fun h5 H=>?_)
  ·have h5n:=a8 h5
   refine aP.skip (qS (aP.block (qR ?_)))
   iterate 3 refine q1 aF ?_
   refine q1 (iH h5n dX) (q1 (j0 (aA.cs (a3 plist i1)) cH) (bO H fun x7 z6 H=>(q1 (bI Tryz.func269 (tR fu (a3 plist i1) _ z6)) (q1 (iA ([x7]:List aB) bE b6) (dF H fun z8 H=>(q1 (mJ z8 bE o6) (q1 aF (qN (qR (q1 aF (q1 (aV.addI rfl rfl rfl rfl (c:=((i1+1:Nat):Int)) (by omega) (by omega)) (q1 aF (qN ?_)))))))))))))
   exact iY h5l ⟨_,(aY H:),b0⟩
  refine aP.exit ?_;exact lS ⟨_,H,b0⟩
 rintro v3 H
 refine qS (qR ?_)
 iterate 2 refine q1 aF ?_
 refine qN (aP.ret ?_)
 obtain rfl:_=r:=(aY H:)
 exact bM
def afH(m:Bool→aB→Option aB):Prop:= ∀(pok:Bool) (px:aB) (r:aB),m pok px=some r→cE Tryz.prog 271 [pB pok,(aB.pv px)] ((aB.pv r):PV)
def yV(fu:Nat)(pok:Bool)(px:aB):Option aB:=
 sw (!(pok))
 (some (aB.mk s_ []))
 (bd (gK fu px) (fun x3=>
 sw (!(x3))
 (some (aB.mk s_ []))
 (some px)))
theorem C1(fu:Nat):afH (yV fu):=by
 intro pok px r H
 have H:=fI H
 refine qI Tryz.func271 (fun C hC=>?_)
 refine qS (qR (q1 (jU ([pS px.gAtom,a9 px.gList])) (q1 (iV b6) (qN ?_))))
 iterate 2 refine qS ?_
 refine qR (q1 aF (q1 gT (q1 aF ?_)))
 refine d9 7 H (fun g1 H=>?_) fun g1 H=>?_
 ·refine qk g1 ?_
  iterate 2 refine qk g1 ?_
  refine q1 (bR g1) (qN (dV rfl (qS (qR (q1 (f6 b6 l3) (q1 (bU eA) (qN (aP.ret ?_))))))))
  obtain rfl:_=r:=(aY H:)
  exact bM (hr:=⟨⟨_,_,_,rfl,rfl,bN,rfl,rfl⟩,trivial⟩)
 refine qg g1 (cV [pS px.gAtom,a9 px.gList] bN) (bO H fun x3 z2 H=>(qg g1 (bI Tryz.func217 (cZ fu px _ z2)) (qg g1 gT (q1 (b5 g1) (qN ?_)))))
 refine bA H (fun h4 H=>?_) (fun h4 H=>?_)
 ·refine qS (qR (q1 (f6 b6 l3) (q1 (bU eA) (qN (aP.ret ?_)))))
  obtain rfl:_=r:=(aY H:)
  exact bM (hr:=⟨⟨_,_,_,rfl,rfl,bN,rfl,rfl⟩,trivial⟩)
 refine aP.skip (qS (qR (q1 (cV [pS px.gAtom,a9 px.gList] bN) (q1 (bU eA) (qN (aP.ret ?_))))))
 obtain rfl:_=r:=(aY H:)
 exact bM (hr:=⟨⟨_,_,_,rfl,rfl,bN,rfl,rfl⟩,trivial⟩)
def L0(m:aT→Option aB):Prop:= ∀(pa0:aT) (r:aB),m pa0=some r→cE Tryz.prog 249 [(aT.pv pa0)] ((aB.pv r):PV)
def JR(fu:Nat)(pa0:aT)(x2:Bool):Option (aB⊕((List ByteArray))):=
 sw (pa0.gAuto)
 (gd (([]:List ByteArray).length+(([vV]:List ByteArray)).length≤68719476736)
 (some (.inr (([])++([vV]:List ByteArray)))))
 (some (.inr ([])))
def JS(fu:Nat)(pa0:aT)(x2:Bool)(v5:List ByteArray):Option (aB⊕((List ByteArray))):=
 sw (pa0.gAssoc)
 (gd ((v5).length+(([hH]:List ByteArray)).length≤68719476736)
 (some (.inr (v5++([hH]:List ByteArray)))))
 (some (.inr v5))
def JT(fu:Nat)(pa0:aT)(x2:Bool)(v5 v9:List ByteArray)(x13 x15 x17 x19 x21:aB):Nat→((List aB))→Option (LR ((List aB)) aB):=
 fun i22 v24=>lt (a3 pa0.gSignatures i22) (fun y27=>
 bd (b9 fu y27.gName) (fun x30=>
 bd (wU fu y27.gParams) (fun x32=>
 bd (k7 fu y27.gResult) (fun x34=>
 bd (kK fu ([x30,(aB.mk s_ x32),x34]:List aB)) (fun x36=>
 sw (y27.gHasDefault)
 (bd (jX fu y27.gVars) (fun x39=>
 bd (kV fu y27.gBody) (fun x41=>
 gd ((x36.gList).length+(([x39,x41]:List aB)).length≤68719476736)
 (gd ((v24).length+(([(aB.mk x36.gAtom (x36.gList++([x39,x41]:List aB)))]:List aB)).length≤68719476736)
 (some (.next (v24++([(aB.mk x36.gAtom (x36.gList++([x39,x41]:List aB)))]:List aB))))))))
 (gd ((v24).length+(([(aB.mk x36.gAtom x36.gList)]:List aB)).length≤68719476736)
 (some (.next (v24++([(aB.mk x36.gAtom x36.gList)]:List aB))))))))))
def JU(fu:Nat)(pa0:aT)(x2:Bool)(v5 v9:List ByteArray)(x13 x15 x17 x19 x21:aB):Option (aB⊕((List aB))):=
 loopN (JT fu pa0 x2 v5 v9 x13 x15 x17 x19 x21) (pa0.gSignatures.length-0) 0 x21.gList
def t9(fu:Nat)(pa0:aT):Option aB:=
 bd (pM fu pa0) (fun x2=>
 sw (!(x2))
 (some (aB.mk s_ []))
 (so (JR fu pa0 x2) (fun v5=>
 so (JS fu pa0 x2 v5) (fun v9=>
 bd (b9 fu CZ) (fun x13=>
 bd (b9 fu pa0.gName) (fun x15=>
 bd (jX fu pa0.gSupertraits) (fun x17=>
 bd (jX fu v9) (fun x19=>
 bd (kK fu ([x13,x15,x17,x19]:List aB)) (fun x21=>
 so (JU fu pa0 x2 v5 v9 x13 x15 x17 x19 x21) (fun v24=>
 bd (yV fu true (aB.mk x21.gAtom v24)) (fun x46=>
 some x46)))))))))))
theorem JV(fu:Nat):L0 (t9 fu):=by
 intro pa0 r H
 have H:=fI H
 refine qI Tryz.func249 (fun C hC=>?_)
 refine qS (qR (q1 (jU (A8 pa0)) (q1 (iV b6) (qN ?_))))
 iterate 2 refine qS ?_
 refine qR (q1 (cV [pS pa0.gName,rS pa0.gSupertraits,pB pa0.gAuto,pB pa0.gAssoc,kC pa0.gSignatures] sP) (bO H fun x2 z1 H=>(q1 (bI Tryz.func256 (yS fu pa0 _ z1)) (q1 gT (qN ?_)))))
 refine bA H (fun h3 H=>?_) (fun h3 H=>?_)
 ·refine qS (qR (q1 (f6 b6 l3) (q1 (bU eA) (qN (aP.ret ?_)))))
  obtain rfl:_=r:=(aY H:)
  exact bM (hr:=⟨⟨_,_,_,rfl,rfl,bN,rfl,rfl⟩,trivial⟩)
 refine aP.skip (qS (qR (q1 (t2 ([]:List ByteArray) b3 lA) (q1 aF (qN (qS ?_))))))
 refine o7 (σ:=(List ByteArray)) (fun v5=>⟨[(1,.ptr 0 0),(2,.ptr 1 0),(3,aS v5 0)],⟨[some ⟨60,A8 pa0⟩,some ⟨237,[pS s_,.nil]⟩],[⟨9,1,aW (v5),false⟩]⟩⟩) (gU H) (fun H=>?_) ?_
 ·refine qS (qR (q1 (a5 YZ) (q1 (bG sh4) (qN ?_))))
  refine bA H (fun h6 H=>?_) (fun h6 H=>?_)
  ·refine qR (q1 aF (q1 (iA ([vV]:List ByteArray) b3 lA) (dF H fun z7 H=>(q1 (mJ z7 b3 rT) (q1 aF (qN ?_))))))
   exact dP ⟨_,(aY H:),b0⟩
  refine aP.skip ?_;exact dP ⟨_,(aY H:),b0⟩
 rintro v5 H
 refine qS ?_;refine o7 (σ:=(List ByteArray)) (fun v9=>⟨[(1,.ptr 0 0),(2,.ptr 1 0),(3,aS v9 0)],⟨[some ⟨60,A8 pa0⟩,some ⟨237,[pS s_,.nil]⟩],[⟨9,1,aW (v9),false⟩]⟩⟩) (gU H) (fun H=>?_) ?_
 ·refine qS (qR (q1 (a5 aeZ) (q1 (bG sh4) (qN ?_))))
  refine bA H (fun h10 H=>?_) (fun h10 H=>?_)
  ·refine qR (q1 aF (q1 (iA ([hH]:List ByteArray) b3 lA) (dF H fun z11 H=>(q1 (mJ z11 b3 rT) (q1 aF (qN ?_))))))
   exact dP ⟨_,(aY H:),b0⟩
  refine aP.skip ?_;exact dP ⟨_,(aY H:),b0⟩
 rintro v9 H
 refine qS (bO H fun x13 z12 H=>(bO H fun x15 z14 H=>(bO H fun x17 z16 H=>(bO H fun x19 z18 H=>(bO H fun x21 z20 H=>(dWa (dI [] (bI Tryz.func266 (bW fu CZ _ z12)) (dI [1] (a5 FH) (dBz [24] 0 0 (vC fB) (dI [25] (bI Tryz.func266 (bW fu pa0.gName _ z14)) (dI [1] (a5 zG) (dBz [27] 0 0 (vC lK) (dI [28] (bI Tryz.func267 (kY fu pa0.gSupertraits _ z16)) ?_)))))))))))))
 refine dI [3] aF (dI [30] (bI Tryz.func267 (kY fu v9 _ z18)) (dI [23,26,29,31] (iA ([x13,x15,x17,x19]:List aB) bE b6) ?_))
 refine dEz [32] (fun _ z=>by cases z<;>exact aV.callOwn (pre:=⟨[],[]⟩) (B:= []) (R:=fun k=> .agg [pS x21.gAtom,dY x21.gList k]) (ps:= [_]) (qs:= [a9 ([x13,x15,x17,x19]:List aB)]) [] rfl rfl Tryz.func265 (by kernel_rfl) rfl rfl rfl (mW.of trivial trivial (by decide) (by decide)) rfl lH rfl rfl rfl (fun k k'=>(.agg (.cons (.free _ rfl) (.cons Mv.acc R2.nil)))) (lP fu ([x13,x15,x17,x19]:List aB) _ z20)) ?_;refine dA (fun _ st h=>vAl h b6) (dZ 4 [4,33] (bU eA) (dN ?_))
 iterate 2 refine qS ?_
 refine qR (q1 aF (qN ?_))
 refine aP.fact (cO 0 4 rfl rfl rfl (aE.trs_len _)) (fun hl25=>?_)
 refine cM (σ:=(List aB)) (fun i22 v24=>⟨[(1,.ptr 0 0),(2,.ptr 1 0),(4,.ptr 2 0),(5,pN i22)],⟨[some ⟨60,A8 pa0⟩,some ⟨237,[pS s_,.nil]⟩,some ⟨237,[pS x21.gAtom,dY v24 1]⟩],[⟨9,1,aW (v9),false⟩,⟨237,2,aB.trs (v24),false⟩]⟩⟩) (fun v24=>⟨[(2,.ptr 1 0),(4,.ptr 2 0)],⟨[some ⟨60,A8 pa0⟩,some ⟨237,[pS s_,.nil]⟩,some ⟨237,[pS x21.gAtom,dY v24 1]⟩],[⟨9,1,aW (v9),false⟩,⟨237,2,aB.trs (v24),false⟩]⟩⟩) (gU H) ?_ ?_
 ·rintro i22 v24 H
  iterate 2 refine qS ?_
  refine qR (q1 aF (q1 (a5 lE) (q1 (bG EG) (q1 (eT uO (aE.trs_len _)) (q1 hZ (qN ?_))))))
  refine eW H (fun h26 h26l H=>?_) (fun h26 H=>?_)
  ·have h26n:=a8 h26
   refine aP.skip (qS (aP.block (qS (qR (q1 (a5 lE) (q1 (bG EG) (q1 aF (g0 H fun y27 h28 H=>(q1 (yO h28 h26n uO) (q1 (j0 (aE.cs y27) V4) (q1 (iV w6) (q1 (bU ahO) (qN ?_)))))))))))))
   refine qS (bO H fun x30 z29 H=>(bO H fun x32 z31 H=>(bO H fun x34 z33 H=>(bO H fun x36 z35 H=>(dWa (dI [6] (a5 SF) (dBz [46] 0 0 (vC fB) (dI [47] (bI Tryz.func266 (bW fu y27.gName _ z29)) (dI [6] (a5 MD) (dBz [49] 0 0 (vC l5) (dI [50] (bI Tryz.func268 (H2 fu y27.gParams _ z31)) (dI [51] (f6 b6 l3) (dI [6] (a5 ME) ?_)))))))))))))
   refine dBz [53] 0 0 (UU [pI y27.gResult.gKind,pS y27.gResult.gName,a4 y27.gResult.gArgs] cH) (dI [54] (bI Tryz.func269 (tR fu y27.gResult _ z33)) (dI [48,52,55] (iA ([x30,(aB.mk s_ x32),x34]:List aB) bE b6) ?_))
   refine dEz [56] (fun _ z=>by cases z<;>exact aV.callOwn (pre:=⟨[],[]⟩) (B:= []) (R:=fun k=> .agg [pS x36.gAtom,dY x36.gList k]) (ps:= [_]) (qs:= [a9 ([x30,(aB.mk s_ x32),x34]:List aB)]) [] rfl rfl Tryz.func265 (by kernel_rfl) rfl rfl rfl (mW.of trivial trivial (by decide) (by decide)) rfl lH rfl rfl rfl (fun k k'=>(.agg (.cons (.free _ rfl) (.cons Mv.acc R2.nil)))) (lP fu ([x30,(aB.mk s_ x32),x34]:List aB) _ z35)) ?_;refine dA (fun _ st h=>vAl h b6) (dZ 7 [7,57] (bU eA) (dN ?_))
   iterate 2 refine qS ?_
   refine qR (q1 (a5 G6) (q1 (bG sh4) (qN ?_)))
   refine bA H (fun h37 H=>?_) (fun h37 H=>?_)
   ·refine bO H fun x39 z38 H=>(bO H fun x41 z40 H=>(dF H fun z42 H=>(dW (dI [7] (a5 bD) (dD [60] (bG cQ) (dI [6] (a5 CN) (dD [62] (bG lK) (dI [63] (bI Tryz.func267 (kY fu y27.gVars _ z38)) (dI [6] (a5 MF) (dD [65] (cV [pI y27.gBody.gKind,pS y27.gBody.gTrait,pS y27.gBody.gName,pI y27.gBody.gN,pI y27.gBody.gType.gKind,pS y27.gBody.gType.gName,a4 y27.gBody.gType.gArgs,gQ y27.gBody.gArgs,oM y27.gBody.gArms] hP) (dI [66] (bI Tryz.func270 (J2 fu y27.gBody _ z40)) (dI [64,67] (iA ([x39,x41]:List aB) bE b6) (dE [61,68] (mJ z42 bE o6) ?_)))))))))))))
    refine dI [7] (a5 bD) (nI [70,69] (bU w5) (dN (qR (q1 (a5 bD) (q1 (bG cQ) (q1 (cV [pS x36.gAtom,dY (x36.gList++([x39,x41]:List aB)) 2] bN) (q1 (iA ([(aB.mk x36.gAtom (x36.gList++([x39,x41]:List aB)))]:List aB) bE b6) (dF H fun z43 H=>(q1 (mJ z43 bE o6) (q1 (a5 bD) (q1 (bU w5) (qN (qR ?_)))))))))))))
    refine q1 aF (q1 (aV.addI rfl rfl rfl rfl (c:=((i22+1:Nat):Int)) (by omega) (by omega)) (q1 aF (qN ?_)))
    exact iY h26l ⟨_,(aY H:),b0⟩
   refine aP.skip (qR (q1 (a5 bD) (q1 (bG cQ) (q1 (cV [pS x36.gAtom,dY x36.gList 2] bN) (q1 (iA ([(aB.mk x36.gAtom x36.gList)]:List aB) bE b6) (dF H fun z44 H=>(q1 (mJ z44 bE o6) (q1 (a5 bD) (q1 (bU w5) (qN (qR (q1 aF (q1 (aV.addI rfl rfl rfl rfl (c:=((i22+1:Nat):Int)) (by omega) (by omega)) ?_)))))))))))))
   refine q1 aF (qN ?_)
   exact iY h26l ⟨_,(aY H:),b0⟩
  refine aP.exit ?_;exact lS ⟨_,H,b0⟩
 rintro v24 H
 refine qS (qR (q1 (cV [pS x21.gAtom,dY v24 1] bN) (bO H fun x46 z45 H=>(q1 (bI Tryz.func271 (C1 fu true (aB.mk x21.gAtom v24) _ z45)) (q1 (bU eA) (qN (aP.ret ?_)))))))
 obtain rfl:_=r:=(aY H:)
 exact bM (hr:=⟨⟨_,_,_,rfl,rfl,bN,rfl,rfl⟩,trivial⟩)
def LZ(m:aB→Option (aT×Bool)):Prop:= ∀(pa0:aB) (r:aT×Bool),m pa0=some r→cE Tryz.prog 230 [(aB.pv pa0)] (.tup [(aT.pv r.1),pB r.2]:PV)
def JO(fu:Nat)(pa0 x2:aB)(x4:List ByteArray)(x6 x8:aB)(x10:List ByteArray)(x12 x14:Bool)(x16:List aB):Nat→((List aE))→Option (LR ((List aE)) (aT×Bool)):=
 fun i17 v19=>bd (c7 fu (a3 x16 i17) 0) (fun x23=>
 bd (c7 fu (a3 x16 i17) 1) (fun x25=>
 bd (C2 fu x25.gList) (fun x27=>
 bd (c7 fu (a3 x16 i17) 2) (fun x29=>
 bd (k8 fu x29) (fun x31=>
 sw (decide ((((((a3 x16 i17).gList).length:Nat):Int):Int)>3))
 (bd (c7 fu (a3 x16 i17) 3) (fun x34=>
 bd (kX fu x34) (fun x36=>
 bd (c7 fu (a3 x16 i17) 4) (fun x38=>
 bd (gA fu x38) (fun x40=>
 gd ((v19).length+(([(aE.mk x23.gAtom x27 x31 true x36 x40)]:List aE)).length≤68719476736)
 (some (.next (v19++([(aE.mk x23.gAtom x27 x31 true x36 x40)]:List aE)))))))))
 (gd ((v19).length+(([(aE.mk x23.gAtom x27 x31 false [] (aG.mk 0 s_ s_ 0 (aA.mk 0 s_ []) [] []))]:List aE)).length≤68719476736)
 (some (.next (v19++([(aE.mk x23.gAtom x27 x31 false [] (aG.mk 0 s_ s_ 0 (aA.mk 0 s_ []) [] []))]:List aE))))))))))
def JP(fu:Nat)(pa0 x2:aB)(x4:List ByteArray)(x6 x8:aB)(x10:List ByteArray)(x12 x14:Bool)(x16:List aB):Option ((aT×Bool)⊕((List aE))):=
 loopN (JO fu pa0 x2 x4 x6 x8 x10 x12 x14 x16) (x16.length-0) 0 ([])
def t8(fu:Nat)(pa0:aB):Option (aT×Bool):=
 bd (c7 fu pa0 3) (fun x2=>
 bd (kX fu x2) (fun x4=>
 bd (c7 fu pa0 1) (fun x6=>
 bd (c7 fu pa0 2) (fun x8=>
 bd (kX fu x8) (fun x10=>
 bd (l7 fu x4 vV) (fun x12=>
 bd (l7 fu x4 hH) (fun x14=>
 bd (sU fu pa0 4) (fun x16=>
 so (JP fu pa0 x2 x4 x6 x8 x10 x12 x14 x16) (fun v19=>
 bd (gK fu pa0) (fun x44=>
 sw (!(x44))
 (some ((aT.mk s_ [] false false []),false))
 (sw (decide ((((pa0.gList.length:Nat):Int):Int)=0))
 (some ((aT.mk s_ [] false false []),false))
 (bd (t9 fu (aT.mk x6.gAtom x10 x12 x14 v19)) (fun x48=>
 bd (fA fu x48 pa0) (fun x50=>
 sw (!(x50))
 (some ((aT.mk s_ [] false false []),false))
 (some ((aT.mk x6.gAtom x10 x12 x14 v19),true))))))))))))))))
theorem JQ(fu:Nat):LZ (t8 fu):=by
 intro pa0 r H
 have H:=fI H
 refine qI Tryz.func230 (fun C hC=>?_)
 refine qS (qR (q1 (jU ([pS pa0.gAtom,a9 pa0.gList])) (q1 (iV EI) (q1 aF (qN (qS (qR (q1 (cV [pS pa0.gAtom,a9 pa0.gList] bN) (bO H fun x2 z1 H=>(q1 (bI Tryz.func219 (cR fu pa0 3 _ z1)) (bO H fun x4 z3 H=>(q1 (bI Tryz.func243 (mS fu x2 _ z3)) (q1 aF ?_)))))))))))))
 refine qN (qS (bO H fun x6 z5 H=>(bO H fun x8 z7 H=>(bO H fun x10 z9 H=>(bO H fun x12 z11 H=>(bO H fun x14 z13 H=>(dW (dB [1] 0 1 (UU [pS pa0.gAtom,a9 pa0.gList] bN) (dI [12] (bI Tryz.func219 (cR fu pa0 1 _ z5)) (dI [13] (rF1 q7) (dB [1] 0 1 (UU [pS pa0.gAtom,a9 pa0.gList] bN) (dI [15] (bI Tryz.func219 (cR fu pa0 2 _ z7)) (dI [16] (bI Tryz.func243 (mS fu x8 _ z9)) ?_)))))))))))))
 refine dI [4] aF (dI [18] (bI Tryz.func125 (l8 fu x4 vV _ z11)) (dI [4] aF (dI [20] (bI Tryz.func125 (l8 fu x4 hH _ z13)) (dI [14,17,19,21] (f6 EI ZB) (dE [] (iV EI) (nI [5,22] (bU AX) (dN (qS (qR (q1 (cV [pS pa0.gAtom,a9 pa0.gList] bN) (bO H fun x16 z15 H=>(q1 (bI Tryz.func244 (wT fu pa0 4 _ z15)) (q1 aF ?_)))))))))))))
 refine qN ?_
 iterate 2 refine qS ?_
 refine qR (q1 aF (qN (aP.wk (Wk.regBox (k:=2) (j:=4) 164 16 (by decide) rfl rfl) ?_)))
 refine lR 6 (aB.trs_len _) (fun hl20=>?_)
 refine cM (σ:=(List aE)) (fun i17 v19=>⟨[(1,.ptr 0 0),(2,.ptr 1 0),(3,pB false),(5,.ptr 2 0),(6,a9 x16),(7,pN i17)],⟨[some ⟨237,[pS pa0.gAtom,a9 pa0.gList]⟩,some ⟨60,[pS s_,.nil,pB false,pB false,.nil]⟩,some ⟨60,[pS x6.gAtom,rS x10,pB x12,pB x14,j8 v19 0]⟩],[⟨164,16,aE.trs (v19),false⟩]⟩⟩) (fun v19=>⟨[(1,.ptr 0 0),(2,.ptr 1 0),(3,pB false),(5,.ptr 2 0)],⟨[some ⟨237,[pS pa0.gAtom,a9 pa0.gList]⟩,some ⟨60,[pS s_,.nil,pB false,pB false,.nil]⟩,some ⟨60,[pS x6.gAtom,rS x10,pB x12,pB x14,j8 v19 0]⟩],[⟨164,16,aE.trs (v19),false⟩]⟩⟩) (gU H) ?_ ?_
 ·rintro i17 v19 H
  iterate 2 refine qS ?_
  refine qR ?_
  iterate 2 refine q1 aF ?_
  refine q1 (eT bE (aB.trs_len _)) (q1 hZ (qN ?_))
  refine eW H (fun h21 h21l H=>?_) (fun h21 H=>?_)
  ·have h21n:=a8 h21
   refine aP.skip (qS (aP.block (qS (bO H fun x23 z22 H=>(bO H fun x25 z24 H=>(bO H fun x27 z26 H=>(bO H fun x29 z28 H=>(bO H fun x31 z30 H=>(dW (dI [6] aF (dI [7] aF (dI [31,32] (iH h21n bE) (dI [33] (j0 (aB.cs (a3 x16 i17)) bN) ?_)))))))))))))
   refine dI [34] (bI Tryz.func219 (cR fu (a3 x16 i17) 0 _ z22)) (dI [35] (rF1 q7) (dI [6] aF (dI [7] aF (dI [37,38] (iH h21n bE) (dI [39] (j0 (aB.cs (a3 x16 i17)) bN) (dI [40] (bI Tryz.func219 (cR fu (a3 x16 i17) 1 _ z24)) (dI [41] (rF1 SH) (dI [42] (bI Tryz.func245 (OO fu x25.gList _ z26)) (dI [6] aF (dI [7] aF (dI [44,45] (iH h21n bE) (dI [46] (j0 (aB.cs (a3 x16 i17)) bN) (dI [47] (bI Tryz.func219 (cR fu (a3 x16 i17) 2 _ z28)) ?_)))))))))))))
   refine dI [48] (bI Tryz.func246 (tS fu x29 _ z30)) (dI [36,43,49] (f6 w6 ab3) (dE [] (iV w6) (nI [8,50] (bU ahO) (dN ?_))))
   iterate 2 refine qS ?_
   refine qR ?_
   iterate 2 refine q1 aF ?_
   refine q1 (iH h21n bE) (q1 (qX bD) (q1 (pZ cQ) (q1 (eT bE (aB.trs_len _)) (q1 IB (qN ?_)))))
   refine bA H (fun h32 H=>?_) (fun h32 H=>?_)
   ·refine qS (qR (q1 (a5 G6) (q1 (bU sz4) (qN (qS (qR ?_))))))
    iterate 2 refine q1 aF ?_
    refine q1 (iH h21n bE) (q1 (j0 (aB.cs (a3 x16 i17)) bN) (bO H fun x34 z33 H=>(q1 (bI Tryz.func219 (cR fu (a3 x16 i17) 3 _ z33)) (bO H fun x36 z35 H=>(q1 (bI Tryz.func243 (mS fu x34 _ z35)) (q1 (a5 CN) (q1 (bU L4) (qN (qR ?_)))))))))
    iterate 2 refine q1 aF ?_
    refine q1 (iH h21n bE) (q1 (j0 (aB.cs (a3 x16 i17)) bN) (bO H fun x38 z37 H=>(q1 (bI Tryz.func219 (cR fu (a3 x16 i17) 4 _ z37)) (bO H fun x40 z39 H=>(q1 (bI Tryz.func247 (BZ fu x38 _ z39)) (q1 (a5 MF) (q1 (bU pC) (qN (qR (q1 (a5 lE) (q1 (bG EG) (q1 (cV [pS x23.gAtom,a4 x27,pI x31.gKind,pS x31.gName,a4 x31.gArgs,pB true,rS x36,pI x40.gKind,pS x40.gTrait,pS x40.gName,pI x40.gN,pI x40.gType.gKind,pS x40.gType.gName,a4 x40.gType.gArgs,gQ x40.gArgs,oM x40.gArms] V4) (q1 (iA ([(aE.mk x23.gAtom x27 x31 true x36 x40)]:List aE) uO w6) ?_)))))))))))))
    refine dF H fun z41 H=>(q1 (mJ z41 uO af6) (q1 (a5 lE) (q1 (bU af0) (qN (qR (q1 aF (q1 (aV.addI rfl rfl rfl rfl (c:=((i17+1:Nat):Int)) (by omega) (by omega)) (q1 aF (qN ?_)))))))))
    exact iY h21l ⟨_,(aY H:),b0⟩
   refine aP.skip (qR (q1 (a5 lE) (q1 (bG EG) (q1 (cV [pS x23.gAtom,a4 x27,pI x31.gKind,pS x31.gName,a4 x31.gArgs,pB false,.nil,pI 0,pS s_,pS s_,pI 0,pI 0,pS s_,.nil,.nil,.nil] V4) (q1 (iA ([(aE.mk x23.gAtom x27 x31 false [] (aG.mk 0 s_ s_ 0 (aA.mk 0 s_ []) [] []))]:List aE) uO w6) (dF H fun z42 H=>(q1 (mJ z42 uO af6) (q1 (a5 lE) (q1 (bU af0) (qN (qR (q1 aF (q1 (aV.addI rfl rfl rfl rfl (c:=((i17+1:Nat):Int)) (by omega) (by omega)) ?_)))))))))))))
   refine q1 aF (qN ?_)
   exact iY h21l ⟨_,(aY H:),b0⟩
  refine aP.exit ?_;exact lS ⟨_,H,b0⟩
 rintro v19 H
 iterate 2 refine qS ?_
 refine bO H fun x44 z43 H=>?_
 rcases kM (!(x44)) with g45|g45
 ·have H:=nR H g45
  refine dW (dD [1] (cV [pS pa0.gAtom,a9 pa0.gList] bN) (dI [79] (bI Tryz.func217 (cZ fu pa0 _ z43)) (dI [80] gT (dI [81] aF ?_))))
  iterate 4 refine CL g45 ?_
  refine dI [82] (bR g45) (dI [87] aF ?_)
  iterate 5 refine CL rfl ?_
  refine dI [88] (bR rfl) (dN (dV rfl (qS (qR (q1 (f6 EI ZB) (q1 (bU AX) (q1 aF (qN (aP.ret ?_)))))))))
  obtain rfl:_=r:=(aY H:)
  exact lB (hr:=⟨⟨_,_,_,rfl,rfl,sP,rfl,rfl⟩,rfl,trivial⟩)
 have H:=nQ H g45
 rcases kM (decide ((((pa0.gList.length:Nat):Int):Int)=0)) with g46|g46
 ·have H:=nR H g46
  refine dW (dD [1] (cV [pS pa0.gAtom,a9 pa0.gList] bN) (dI [79] (bI Tryz.func217 (cZ fu pa0 _ z43)) (dI [80] gT (dI [81] aF (dI (hg:=aZ g45) [1] (a5 bD) (dD (hg:=aZ g45) [83] (bG cQ) (dI (hg:=aZ g45) [84] (eT bE (aB.trs_len _)) (dI (hg:=aZ g45) [85] eM (dI [82,86] (b5 g45) (dI [87] aF ?_))))))))))
  iterate 5 refine CL g46 ?_
  refine dI [88] (bR g46) (dN (dV rfl (qS (qR (q1 (f6 EI ZB) (q1 (bU AX) (q1 aF (qN (aP.ret ?_)))))))))
  obtain rfl:_=r:=(aY H:)
  exact lB (hr:=⟨⟨_,_,_,rfl,rfl,sP,rfl,rfl⟩,rfl,trivial⟩)
 have H:=nQ H g46
 refine bO H fun x48 z47 H=>(bO H fun x50 z49 H=>(dW (dD [1] (cV [pS pa0.gAtom,a9 pa0.gList] bN) (dI [79] (bI Tryz.func217 (cZ fu pa0 _ z43)) (dI [80] gT (dI [81] aF (dI (hg:=aZ g45) [1] (a5 bD) (dD (hg:=aZ g45) [83] (bG cQ) (dI (hg:=aZ g45) [84] (eT bE (aB.trs_len _)) (dI (hg:=aZ g45) [85] eM (dI [82,86] (b5 g45) (dI [87] aF (dD (hg:=aZ g46) [5] (cV [pS x6.gAtom,rS x10,pB x12,pB x14,j8 v19 0] sP) ?_)))))))))))))
 refine dI (hg:=aZ g46) [89] (bI Tryz.func249 (JV fu (aT.mk x6.gAtom x10 x12 x14 v19) _ z47)) (dD (hg:=aZ g46) [1] (cV [pS pa0.gAtom,a9 pa0.gList] bN) (dI (hg:=aZ g46) [90,91] (bI Tryz.func248 (rI fu x48 pa0 _ z49)) (dI (hg:=aZ g46) [92] gT (dI [88,93] (b5 g46) (dN ?_)))))
 refine bA H (fun h51 H=>?_) (fun h51 H=>?_)
 ·refine qS (qR (q1 (f6 EI ZB) (q1 (bU AX) (q1 aF (qN (aP.ret ?_))))))
  obtain rfl:_=r:=(aY H:)
  exact lB (hr:=⟨⟨_,_,_,rfl,rfl,sP,rfl,rfl⟩,rfl,trivial⟩)
 refine aP.skip (qS (qR (q1 (cV [pS x6.gAtom,rS x10,pB x12,pB x14,j8 v19 0] sP) (q1 (bU AX) (q1 aF (qN (aP.ret ?_)))))))
 obtain rfl:_=r:=(aY H:)
 exact lB (hr:=⟨⟨_,_,_,rfl,rfl,sP,rfl,rfl⟩,rfl,trivial⟩)
def FU(m:aL→Option aB):Prop:= ∀(pd:aL) (r:aB),m pd=some r→cE Tryz.prog 250 [(aL.pv pd)] ((aB.pv r):PV)
def DI(fu:Nat)(pd:aL)(x2 x4 x6 x8:aB):Nat→((List aB))→Option (LR ((List aB)) aB):=
 fun i9 v11=>bd (b9 fu ((a3 pd.gConstructors i9).gName)) (fun x15=>
 bd (wU fu ((a3 pd.gConstructors i9).gFields)) (fun x17=>
 gd ((([x15]:List aB)).length+(x17).length≤68719476736)
 (gd ((v11).length+(([(aB.mk s_ (([x15]:List aB)++x17))]:List aB)).length≤68719476736)
 (some (.next (v11++([(aB.mk s_ (([x15]:List aB)++x17))]:List aB)))))))
def DJ(fu:Nat)(pd:aL)(x2 x4 x6 x8:aB):Option (aB⊕((List aB))):=
 loopN (DI fu pd x2 x4 x6 x8) (pd.gConstructors.length-0) 0 x8.gList
def p6(fu:Nat)(pd:aL):Option aB:=
 bd (b9 fu JY) (fun x2=>
 bd (b9 fu pd.gName) (fun x4=>
 bd (jX fu pd.gVars) (fun x6=>
 bd (kK fu ([x2,x4,x6]:List aB)) (fun x8=>
 so (DJ fu pd x2 x4 x6 x8) (fun v11=>
 bd (mL fu pd) (fun x21=>
 bd (yV fu x21 (aB.mk x8.gAtom v11)) (fun x23=>
 some x23)))))))
theorem DL(fu:Nat):FU (p6 fu):=by
 intro pd r H
 have H:=fI H
 refine qI Tryz.func250 (fun C hC=>?_)
 refine qS (qR (q1 (jU (u4 pd)) (q1 (iV b6) (qN (qS (bO H fun x2 z1 H=>(bO H fun x4 z3 H=>(bO H fun x6 z5 H=>(bO H fun x8 z7 H=>(dWa (dI [] (bI Tryz.func266 (bW fu JY _ z1)) (dI [1] (a5 R9) (dBz [6] 0 0 (vC fB) ?_)))))))))))))
 refine dI [7] (bI Tryz.func266 (bW fu pd.gName _ z3)) (dI [1] (a5 G3) (dBz [9] 0 0 (vC lK) (dI [10] (bI Tryz.func267 (kY fu pd.gVars _ z5)) (dI [5,8,11] (iA ([x2,x4,x6]:List aB) bE b6) ?_))))
 refine dEz [12] (fun _ z=>by cases z<;>exact aV.callOwn (pre:=⟨[],[]⟩) (B:= []) (R:=fun k=> .agg [pS x8.gAtom,dY x8.gList k]) (ps:= [_]) (qs:= [a9 ([x2,x4,x6]:List aB)]) [] rfl rfl Tryz.func265 (by kernel_rfl) rfl rfl rfl (mW.of trivial trivial (by decide) (by decide)) rfl lH rfl rfl rfl (fun k k'=>(.agg (.cons (.free _ rfl) (.cons Mv.acc R2.nil)))) (lP fu ([x2,x4,x6]:List aB) _ z7)) ?_;refine dA (fun _ st h=>vAl h b6) (dZ 3 [3,13] (bU eA) (dN ?_))
 iterate 2 refine qS ?_
 refine qR (q1 aF (qN ?_))
 refine aP.fact (cO 0 2 rfl rfl rfl (aD.trs_len _)) (fun hl12=>?_)
 refine cM (σ:=(List aB)) (fun i9 v11=>⟨[(1,.ptr 0 0),(2,.ptr 1 0),(3,.ptr 2 0),(4,pN i9)],⟨[some ⟨116,u4 pd⟩,some ⟨237,[pS s_,.nil]⟩,some ⟨237,[pS x8.gAtom,dY v11 0]⟩],[⟨237,2,aB.trs (v11),false⟩]⟩⟩) (fun v11=>⟨[(1,.ptr 0 0),(2,.ptr 1 0),(3,.ptr 2 0)],⟨[some ⟨116,u4 pd⟩,some ⟨237,[pS s_,.nil]⟩,some ⟨237,[pS x8.gAtom,dY v11 0]⟩],[⟨237,2,aB.trs (v11),false⟩]⟩⟩) (gU H) ?_ ?_
 ·rintro i9 v11 H
  iterate 2 refine qS ?_
  refine qR (q1 aF (q1 (a5 lT) (q1 (bG wR) (q1 (eT uF (aD.trs_len _)) (q1 hZ (qN ?_))))))
  refine eW H (fun h13 h13l H=>?_) (fun h13 H=>?_)
  ·have h13n:=a8 h13
   refine aP.skip (qS (aP.block (bO H fun x15 z14 H=>(bO H fun x17 z16 H=>(dF H fun z18 H=>(dF H fun z19 H=>(dW (dI [3] (a5 bD) (dB [21] 0 2 (vC cQ) (dI [1] (a5 lT) (dD [23] (bG wR) (dI [4] aF (dI [24,25] (iH h13n uF) ?_)))))))))))))
   refine dI [26] (qX MG) (dI [27] (pZ fB) (dI [28] (bI Tryz.func266 (bW fu ((a3 pd.gConstructors i9).gName) _ z14)) (dE [29] (t2 ([x15]:List aB) bE b6) (dI [1] (a5 lT) (dB [31] 0 1 (vC wR) (dI [4] aF (dI [32,33] (iH h13n uF) (dI [34] (qX G7) (dI [35] (pZ l5) (dI [36] (bI Tryz.func268 (H2 fu ((a3 pd.gConstructors i9).gFields) _ z16)) (dE [30,37] (mJ z18 bE o6) (dI [38] (f6 b6 l3) (dI [39] (iA ([(aB.mk s_ (([x15]:List aB)++x17))]:List aB) bE b6) ?_)))))))))))))
   refine dE [22,40] (mJ z19 bE o6) (dI [3] (a5 bD) (nI [42,41] (bU w5) (dN (qR (q1 aF (q1 (aV.addI rfl rfl rfl rfl (c:=((i9+1:Nat):Int)) (by omega) (by omega)) (q1 aF (qN ?_))))))))
   exact iY h13l ⟨_,(aY H:),b0⟩
  refine aP.exit ?_;exact lS ⟨_,H,b0⟩
 rintro v11 H
 refine qS (bO H fun x21 z20 H=>(bO H fun x23 z22 H=>(dW (dD [1] (cV [pS pd.gName,rS pd.gVars,eX pd.gConstructors] rM) (dI [43] (bI Tryz.func257 (uH fu pd _ z20)) (dD [3] (cV [pS x8.gAtom,dY v11 0] bN) (dI [44,45] (bI Tryz.func271 (C1 fu x21 (aB.mk x8.gAtom v11) _ z22)) (nI [2,46] (bU eA) (dN (aP.ret ?_))))))))))
 obtain rfl:_=r:=(aY H:)
 exact bM (hr:=⟨⟨_,_,_,rfl,rfl,bN,rfl,rfl⟩,trivial⟩)
def F3(m:aB→Option (aL×Bool)):Prop:= ∀(px:aB) (r:aL×Bool),m px=some r→cE Tryz.prog 231 [(aB.pv px)] (.tup [(aL.pv r.1),pB r.2]:PV)
def D6(fu:Nat)(px x2 x4:aB)(x6:List ByteArray)(x8:List aB):Nat→((List aD))→Option (LR ((List aD)) (aL×Bool)):=
 fun i9 v11=>bd (c7 fu (a3 x8 i9) 0) (fun x15=>
 bd (sU fu (a3 x8 i9) 1) (fun x17=>
 bd (C2 fu x17) (fun x19=>
 gd ((v11).length+(([(aD.mk x15.gAtom x19)]:List aD)).length≤68719476736)
 (some (.next (v11++([(aD.mk x15.gAtom x19)]:List aD)))))))
def D7(fu:Nat)(px x2 x4:aB)(x6:List ByteArray)(x8:List aB):Option ((aL×Bool)⊕((List aD))):=
 loopN (D6 fu px x2 x4 x6 x8) (x8.length-0) 0 ([])
def p9(fu:Nat)(px:aB):Option (aL×Bool):=
 bd (c7 fu px 1) (fun x2=>
 bd (c7 fu px 2) (fun x4=>
 bd (kX fu x4) (fun x6=>
 bd (sU fu px 3) (fun x8=>
 so (D7 fu px x2 x4 x6 x8) (fun v11=>
 bd (gK fu px) (fun x22=>
 sw (!(x22))
 (some ((aL.mk s_ [] []),false))
 (sw (decide ((((px.gList.length:Nat):Int):Int)=0))
 (some ((aL.mk s_ [] []),false))
 (bd (p6 fu (aL.mk x2.gAtom x6 v11)) (fun x26=>
 bd (fA fu x26 px) (fun x28=>
 sw (!(x28))
 (some ((aL.mk s_ [] []),false))
 (some ((aL.mk x2.gAtom x6 v11),true))))))))))))
theorem D8(fu:Nat):F3 (p9 fu):=by
 intro px r H
 have H:=fI H
 refine qI Tryz.func231 (fun C hC=>?_)
 refine qS (qR (q1 (jU ([pS px.gAtom,a9 px.gList])) (q1 (iV AM) (q1 aF (qN (qS (bO H fun x2 z1 H=>(bO H fun x4 z3 H=>(bO H fun x6 z5 H=>(dW (dB [1] 0 1 (UU [pS px.gAtom,a9 px.gList] bN) (dI [7] (bI Tryz.func219 (cR fu px 1 _ z1)) (dI [8] (rF1 q7) ?_)))))))))))))
 refine dB [1] 0 1 (UU [pS px.gAtom,a9 px.gList] bN) (dI [10] (bI Tryz.func219 (cR fu px 2 _ z3)) (dI [11] (bI Tryz.func243 (mS fu x4 _ z5)) (dI [9,12] (f6 AM VU) (dE [] (iV AM) (nI [4,13] (bU AK) (dN (qS (qR (q1 (cV [pS px.gAtom,a9 px.gList] bN) (bO H fun x8 z7 H=>(q1 (bI Tryz.func244 (wT fu px 3 _ z7)) (q1 aF (qN ?_)))))))))))))
 iterate 2 refine qS ?_
 refine qR (q1 aF (qN (aP.wk (Wk.regBox (k:=2) (j:=2) 195 2 (by decide) rfl rfl) ?_)))
 refine lR 5 (aB.trs_len _) (fun hl12=>?_)
 refine cM (σ:=(List aD)) (fun i9 v11=>⟨[(1,.ptr 0 0),(2,.ptr 1 0),(3,pB false),(4,.ptr 2 0),(5,a9 x8),(6,pN i9)],⟨[some ⟨237,[pS px.gAtom,a9 px.gList]⟩,some ⟨116,[pS s_,.nil,.nil]⟩,some ⟨116,[pS x2.gAtom,rS x6,uN v11 0]⟩],[⟨195,2,aD.trs (v11),false⟩]⟩⟩) (fun v11=>⟨[(1,.ptr 0 0),(2,.ptr 1 0),(3,pB false),(4,.ptr 2 0)],⟨[some ⟨237,[pS px.gAtom,a9 px.gList]⟩,some ⟨116,[pS s_,.nil,.nil]⟩,some ⟨116,[pS x2.gAtom,rS x6,uN v11 0]⟩],[⟨195,2,aD.trs (v11),false⟩]⟩⟩) (gU H) ?_ ?_
 ·rintro i9 v11 H
  iterate 2 refine qS ?_
  refine qR ?_
  iterate 2 refine q1 aF ?_
  refine q1 (eT bE (aB.trs_len _)) (q1 hZ (qN ?_))
  refine eW H (fun h13 h13l H=>?_) (fun h13 H=>?_)
  ·have h13n:=a8 h13
   refine aP.skip (qS (aP.block (bO H fun x15 z14 H=>(bO H fun x17 z16 H=>(bO H fun x19 z18 H=>(dF H fun z20 H=>(dW (dI [4] (a5 lT) (dD [22] (bG wR) (dI [5] aF (dI [6] aF (dI [24,25] (iH h13n bE) (dI [26] (j0 (aB.cs (a3 x8 i9)) bN) ?_)))))))))))))
   refine dI [27] (bI Tryz.func219 (cR fu (a3 x8 i9) 0 _ z14)) (dI [28] (rF1 q7) (dI [5] aF (dI [6] aF (dI [30,31] (iH h13n bE) (dI [32] (j0 (aB.cs (a3 x8 i9)) bN) (dI [33] (bI Tryz.func244 (wT fu (a3 x8 i9) 1 _ z16)) (dI [34] (bI Tryz.func245 (OO fu x17 _ z18)) (dI [29,35] (f6 YC ae6) (dI [36] (iA ([(aD.mk x15.gAtom x19)]:List aD) uF YC) (dE [23,37] (mJ z20 uF ajL) (dI [4] (a5 lT) (nI [39,38] (bU ahH) (dN ?_)))))))))))))
   refine qR (q1 aF (q1 (aV.addI rfl rfl rfl rfl (c:=((i9+1:Nat):Int)) (by omega) (by omega)) (q1 aF (qN ?_))))
   exact iY h13l ⟨_,(aY H:),b0⟩
  refine aP.exit ?_;exact lS ⟨_,H,b0⟩
 rintro v11 H
 iterate 2 refine qS ?_
 refine bO H fun x22 z21 H=>?_
 rcases kM (!(x22)) with g23|g23
 ·have H:=nR H g23
  refine dW (dD [1] (cV [pS px.gAtom,a9 px.gList] bN) (dI [40] (bI Tryz.func217 (cZ fu px _ z21)) (dI [41] gT (dI [42] aF ?_))))
  iterate 4 refine CL g23 ?_
  refine dI [43] (bR g23) (dI [48] aF ?_)
  iterate 5 refine CL rfl ?_
  refine dI [49] (bR rfl) (dN (dV rfl (qS (qR (q1 (f6 AM VU) (q1 (bU AK) (q1 aF (qN (aP.ret ?_)))))))))
  obtain rfl:_=r:=(aY H:)
  exact lB (hr:=⟨⟨_,_,_,rfl,rfl,rM,rfl,rfl⟩,rfl,trivial⟩)
 have H:=nQ H g23
 rcases kM (decide ((((px.gList.length:Nat):Int):Int)=0)) with g24|g24
 ·have H:=nR H g24
  refine dW (dD [1] (cV [pS px.gAtom,a9 px.gList] bN) (dI [40] (bI Tryz.func217 (cZ fu px _ z21)) (dI [41] gT (dI [42] aF (dI (hg:=aZ g23) [1] (a5 bD) (dD (hg:=aZ g23) [44] (bG cQ) (dI (hg:=aZ g23) [45] (eT bE (aB.trs_len _)) (dI (hg:=aZ g23) [46] eM (dI [43,47] (b5 g23) (dI [48] aF ?_))))))))))
  iterate 5 refine CL g24 ?_
  refine dI [49] (bR g24) (dN (dV rfl (qS (qR (q1 (f6 AM VU) (q1 (bU AK) (q1 aF (qN (aP.ret ?_)))))))))
  obtain rfl:_=r:=(aY H:)
  exact lB (hr:=⟨⟨_,_,_,rfl,rfl,rM,rfl,rfl⟩,rfl,trivial⟩)
 have H:=nQ H g24
 refine bO H fun x26 z25 H=>(bO H fun x28 z27 H=>(dW (dD [1] (cV [pS px.gAtom,a9 px.gList] bN) (dI [40] (bI Tryz.func217 (cZ fu px _ z21)) (dI [41] gT (dI [42] aF (dI (hg:=aZ g23) [1] (a5 bD) (dD (hg:=aZ g23) [44] (bG cQ) (dI (hg:=aZ g23) [45] (eT bE (aB.trs_len _)) (dI (hg:=aZ g23) [46] eM (dI [43,47] (b5 g23) (dI [48] aF (dD (hg:=aZ g24) [4] (cV [pS x2.gAtom,rS x6,uN v11 0] rM) ?_)))))))))))))
 refine dI (hg:=aZ g24) [50] (bI Tryz.func250 (DL fu (aL.mk x2.gAtom x6 v11) _ z25)) (dD (hg:=aZ g24) [1] (cV [pS px.gAtom,a9 px.gList] bN) (dI (hg:=aZ g24) [51,52] (bI Tryz.func248 (rI fu x26 px _ z27)) (dI (hg:=aZ g24) [53] gT (dI [49,54] (b5 g24) (dN ?_)))))
 refine bA H (fun h29 H=>?_) (fun h29 H=>?_)
 ·refine qS (qR (q1 (f6 AM VU) (q1 (bU AK) (q1 aF (qN (aP.ret ?_))))))
  obtain rfl:_=r:=(aY H:)
  exact lB (hr:=⟨⟨_,_,_,rfl,rfl,rM,rfl,rfl⟩,rfl,trivial⟩)
 refine aP.skip (qS (qR (q1 (cV [pS x2.gAtom,rS x6,uN v11 0] rM) (q1 (bU AK) (q1 aF (qN (aP.ret ?_)))))))
 obtain rfl:_=r:=(aY H:)
 exact lB (hr:=⟨⟨_,_,_,rfl,rfl,rM,rfl,rfl⟩,rfl,trivial⟩)
def TI(m:aB→Option ((List aJ))):Prop:= ∀(px:aB) (r:(List aJ)),m px=some r→cE Tryz.prog 251 [(aB.pv px)] (fO r:PV)
def QT(fu:Nat)(px:aB):Nat→((List aJ))→Option (LR ((List aJ)) ((List aJ))):=
 fun i1 v3=>bd (c7 fu (a3 px.gList i1) 0) (fun x7=>
 bd (c7 fu (a3 px.gList i1) 1) (fun x9=>
 bd (k8 fu x9) (fun x11=>
 gd ((v3).length+(([(aJ.mk x7.gAtom x11)]:List aJ)).length≤68719476736)
 (some (.next (v3++([(aJ.mk x7.gAtom x11)]:List aJ)))))))
def QU(fu:Nat)(px:aB):Option (((List aJ))⊕((List aJ))):=
 loopN (QT fu px) (px.gList.length-0) 0 ([])
def uZ(fu:Nat)(px:aB):Option ((List aJ)):=
 so (QU fu px) (fun v3=>
 some v3)
theorem ET(fu:Nat):TI (uZ fu):=by
 intro px r H
 have H:=fI H
 refine qI Tryz.func251 (fun C hC=>?_)
 refine qS (qR (q1 (jU ([pS px.gAtom,a9 px.gList])) (q1 aF (qN (qS (qR (q1 (t2 ([]:List aJ) BB PI) (q1 aF (qN ?_)))))))))
 iterate 2 refine qS ?_
 refine qR (q1 aF (qN ?_))
 refine aP.fact (cO 0 1 rfl rfl rfl (aB.trs_len _)) (fun hl4=>?_)
 refine cM (σ:=(List aJ)) (fun i1 v3=>⟨[(1,.ptr 0 0),(2,.nil),(3,aeP v3 0),(4,pN i1)],⟨[some ⟨237,[pS px.gAtom,a9 px.gList]⟩],[⟨37,4,aJ.trs (v3),false⟩]⟩⟩) (fun v3=>⟨[(2,.nil),(3,aeP v3 0)],⟨[some ⟨237,[pS px.gAtom,a9 px.gList]⟩],[⟨37,4,aJ.trs (v3),false⟩]⟩⟩) (gU H) ?_ ?_
 ·rintro i1 v3 H
  iterate 2 refine qS ?_
  refine qR (q1 aF (q1 (a5 bD) (q1 (bG cQ) (q1 (eT bE (aB.trs_len _)) (q1 hZ (qN ?_))))))
  refine eW H (fun h5 h5l H=>?_) (fun h5 H=>?_)
  ·have h5n:=a8 h5
   refine aP.skip (qS (aP.block (bO H fun x7 z6 H=>(bO H fun x9 z8 H=>(bO H fun x11 z10 H=>(dF H fun z12 H=>(dW (dI [3] aF (dI [1] (a5 bD) (dD [14] (bG cQ) (dI [4] aF (dI [15,16] (iH h5n bE) (dI [17] (j0 (aB.cs (a3 px.gList i1)) bN) ?_)))))))))))))
   refine dI [18] (bI Tryz.func219 (cR fu (a3 px.gList i1) 0 _ z6)) (dI [19] (rF1 q7) (dI [1] (a5 bD) (dD [21] (bG cQ) (dI [4] aF (dI [22,23] (iH h5n bE) (dI [24] (j0 (aB.cs (a3 px.gList i1)) bN) (dI [25] (bI Tryz.func219 (cR fu (a3 px.gList i1) 1 _ z8)) (dI [26] (bI Tryz.func246 (tS fu x9 _ z10)) (dI [20,27] (f6 PI ae8) (dI [28] (iA ([(aJ.mk x7.gAtom x11)]:List aJ) BB PI) (dE [13,29] (mJ z12 BB ajN) (dI [30] aF (dN ?_)))))))))))))
   refine qR (q1 aF (q1 (aV.addI rfl rfl rfl rfl (c:=((i1+1:Nat):Int)) (by omega) (by omega)) (q1 aF (qN ?_))))
   exact iY h5l ⟨_,(aY H:),b0⟩
  refine aP.exit ?_;exact lS ⟨_,H,b0⟩
 rintro v3 H
 refine qS (qR ?_)
 iterate 2 refine q1 aF ?_
 refine qN (aP.ret ?_)
 obtain rfl:_=r:=(aY H:)
 exact bM
def XL(m:(List aJ)→Option aB):Prop:= ∀(plist:List aJ) (r:aB),m plist=some r→cE Tryz.prog 272 [fO plist] ((aB.pv r):PV)
def TL(fu:Nat)(plist:List aJ):Nat→((List aB))→Option (LR ((List aB)) aB):=
 fun i1 v3=>bd (b9 fu ((a3 plist i1).gTrait)) (fun x7=>
 bd (k7 fu ((a3 plist i1).gType)) (fun x9=>
 bd (kK fu ([x7,x9]:List aB)) (fun x11=>
 gd ((v3).length+(([x11]:List aB)).length≤68719476736)
 (some (.next (v3++([x11]:List aB)))))))
def TM(fu:Nat)(plist:List aJ):Option (aB⊕((List aB))):=
 loopN (TL fu plist) (plist.length-0) 0 ([])
def wV(fu:Nat)(plist:List aJ):Option aB:=
 so (TM fu plist) (fun v3=>
 some (aB.mk s_ v3))
theorem H3(fu:Nat):XL (wV fu):=by
 intro plist r H
 have H:=fI H
 refine qI Tryz.func272 (fun C hC=>?_)
 refine qS (qR (q1 (iV b6) (qN (qS (qR (q1 (f6 b6 l3) (q1 (iV b6) (q1 (bU eA) (qN ?_)))))))))
 iterate 2 refine qS ?_
 refine qR (q1 aF (qN (aP.wk (Wk.regBox (k:=1) (j:=1) 237 2 (by decide) rfl rfl) ?_)))
 refine lR 0 (aJ.trs_len _) (fun hl4=>?_)
 refine cM (σ:=(List aB)) (fun i1 v3=>⟨[(0,fO plist),(2,.ptr 0 0),(3,.ptr 1 0),(4,pN i1)],⟨[some ⟨237,[pS s_,.nil]⟩,some ⟨237,[pS s_,dY v3 0]⟩],[⟨237,2,aB.trs (v3),false⟩]⟩⟩) (fun v3=>⟨[(2,.ptr 0 0),(3,.ptr 1 0)],⟨[some ⟨237,[pS s_,.nil]⟩,some ⟨237,[pS s_,dY v3 0]⟩],[⟨237,2,aB.trs (v3),false⟩]⟩⟩) (gU H) ?_ ?_
 ·rintro i1 v3 H
  iterate 2 refine qS ?_
  refine qR ?_
  iterate 2 refine q1 aF ?_
  refine q1 (eT BB (aJ.trs_len _)) (q1 hZ (qN ?_))
  refine eW H (fun h5 h5l H=>?_) (fun h5 H=>?_)
  ·have h5n:=a8 h5
   refine aP.skip (qS (aP.block (bO H fun x7 z6 H=>(bO H fun x9 z8 H=>(bO H fun x11 z10 H=>(dF H fun z12 H=>(dW (dI [3] (a5 bD) (dD [12] (bG cQ) (dI [0] aF (dI [4] aF (dI [14,15] (iH h5n BB) (dI [16] (qX aeX) ?_)))))))))))))
   refine dI [17] (pZ fB) (dI [18] (bI Tryz.func266 (bW fu ((a3 plist i1).gTrait) _ z6)) (dI [0] aF (dI [4] aF (dI [20,21] (iH h5n BB) (dI [22] (qX M9) (dI [23] (j0 (aA.cs ((a3 plist i1).gType)) cH) (dI [24] (bI Tryz.func269 (tR fu ((a3 plist i1).gType) _ z8)) (dI [19,25] (iA ([x7,x9]:List aB) bE b6) (dI [26] (bI Tryz.func265 (z0 (lP fu) ([x7,x9]:List aB) _ z10)) (dI [27] (iA ([x11]:List aB) bE b6) (dE [13,28] (mJ z12 bE o6) (dI [3] (a5 bD) (nI [30,29] (bU w5) ?_)))))))))))))
   refine dN (qR (q1 aF (q1 (aV.addI rfl rfl rfl rfl (c:=((i1+1:Nat):Int)) (by omega) (by omega)) (q1 aF (qN ?_)))))
   exact iY h5l ⟨_,(aY H:),b0⟩
  refine aP.exit ?_;exact lS ⟨_,H,b0⟩
 rintro v3 H
 refine qS (qR (q1 (cV [pS s_,dY v3 0] bN) (q1 (bU eA) (qN (aP.ret ?_)))))
 obtain rfl:_=r:=(aY H:)
 exact bM (hr:=⟨⟨_,_,_,rfl,rfl,bN,rfl,rfl⟩,trivial⟩)
def FY(m:aH→Option aB):Prop:= ∀(pa0:aH) (r:aB),m pa0=some r→cE Tryz.prog 252 [(aH.pv pa0)] ((aB.pv r):PV)
def DQ(fu:Nat)(pa0:aH)(x2:Bool):Option (aB⊕((List ByteArray))):=
 sw (pa0.gDefault)
 (gd (([]:List ByteArray).length+(([sO]:List ByteArray)).length≤68719476736)
 (some (.inr (([])++([sO]:List ByteArray)))))
 (some (.inr ([])))
def DR(fu:Nat)(pa0:aH)(x2:Bool)(v5:List ByteArray):Option (aB⊕(ByteArray×(List aB))):=
 sw (pa0.gHasAssoc)
 (bd (k7 fu pa0.gAssoc) (fun x12=>
 bd (kK fu ([x12]:List aB)) (fun x14=>
 some (.inr (x14.gAtom,x14.gList)))))
 (some (.inr (s_,([]))))
def DT(fu:Nat)(pa0:aH)(x2:Bool)(v5:List ByteArray)(v8:ByteArray)(v9:List aB)(x16 x18 x20 x22 x24 x26 x28:aB):Nat→((List aB))→Option (LR ((List aB)) aB):=
 fun i29 v31=>lt (a3 pa0.gMethods i29) (fun y34=>
 bd (b9 fu y34.gName) (fun x37=>
 bd (jX fu y34.gVars) (fun x39=>
 bd (kV fu y34.gBody) (fun x41=>
 bd (kK fu ([x37,x39,x41]:List aB)) (fun x43=>
 gd ((v31).length+(([(aB.mk x43.gAtom x43.gList)]:List aB)).length≤68719476736)
 (some (.next (v31++([(aB.mk x43.gAtom x43.gList)]:List aB)))))))))
def DU(fu:Nat)(pa0:aH)(x2:Bool)(v5:List ByteArray)(v8:ByteArray)(v9:List aB)(x16 x18 x20 x22 x24 x26 x28:aB):Option (aB⊕((List aB))):=
 loopN (DT fu pa0 x2 v5 v8 v9 x16 x18 x20 x22 x24 x26 x28) (pa0.gMethods.length-0) 0 x28.gList
def p8(fu:Nat)(pa0:aH):Option aB:=
 bd (mN fu pa0) (fun x2=>
 sw (!(x2))
 (some (aB.mk s_ []))
 (so (DQ fu pa0 x2) (fun v5=>
 so (DR fu pa0 x2 v5) (fun(v8,v9)=>
 bd (b9 fu JZ) (fun x16=>
 bd (b9 fu pa0.gTrait) (fun x18=>
 bd (jX fu pa0.gVars) (fun x20=>
 bd (k7 fu pa0.gHead) (fun x22=>
 bd (wV fu pa0.gWhere) (fun x24=>
 bd (jX fu v5) (fun x26=>
 bd (kK fu ([x16,x18,x20,x22,x24,x26,(aB.mk v8 v9)]:List aB)) (fun x28=>
 so (DU fu pa0 x2 v5 v8 v9 x16 x18 x20 x22 x24 x26 x28) (fun v31=>
 bd (yV fu true (aB.mk x28.gAtom v31)) (fun x46=>
 some x46)))))))))))))
theorem DV(fu:Nat):FY (p8 fu):=by
 intro pa0 r H
 have H:=fI H
 refine qI Tryz.func252 (fun C hC=>?_)
 refine qS (qR (q1 (jU (gO pa0)) (q1 (iV b6) (qN ?_))))
 iterate 2 refine qS ?_
 refine qR (q1 (cV [pS pa0.gTrait,rS pa0.gVars,pI pa0.gHead.gKind,pS pa0.gHead.gName,a4 pa0.gHead.gArgs,fO pa0.gWhere,pB pa0.gDefault,pB pa0.gHasAssoc,pI pa0.gAssoc.gKind,pS pa0.gAssoc.gName,a4 pa0.gAssoc.gArgs,kS pa0.gMethods] pA) (bO H fun x2 z1 H=>(q1 (bI Tryz.func258 (uJ fu pa0 _ z1)) (q1 gT (qN ?_)))))
 refine bA H (fun h3 H=>?_) (fun h3 H=>?_)
 ·refine qS (qR (q1 (f6 b6 l3) (q1 (bU eA) (qN (aP.ret ?_)))))
  obtain rfl:_=r:=(aY H:)
  exact bM (hr:=⟨⟨_,_,_,rfl,rfl,bN,rfl,rfl⟩,trivial⟩)
 refine aP.skip (qS (qR (q1 (t2 ([]:List ByteArray) b3 lA) (q1 aF (qN (qS ?_))))))
 refine o7 (σ:=(List ByteArray)) (fun v5=>⟨[(1,.ptr 0 0),(2,.ptr 1 0),(3,aS v5 0)],⟨[some ⟨55,gO pa0⟩,some ⟨237,[pS s_,.nil]⟩],[⟨9,1,aW (v5),false⟩]⟩⟩) (gU H) (fun H=>?_) ?_
 ·refine qS (qR (q1 (a5 aeY) (q1 (bG sh4) (qN ?_))))
  refine bA H (fun h6 H=>?_) (fun h6 H=>?_)
  ·refine qR (q1 aF (q1 (iA ([sO]:List ByteArray) b3 lA) (dF H fun z7 H=>(q1 (mJ z7 b3 rT) (q1 aF (qN ?_))))))
   exact dP ⟨_,(aY H:),b0⟩
  refine aP.skip ?_;exact dP ⟨_,(aY H:),b0⟩
 rintro v5 H
 refine qS (qR (q1 (f6 b6 l3) (q1 (iV b6) (q1 (bU eA) (qN (qS (aP.wk (Wk.regBox (k:=2) (j:=1) 237 2 (by decide) rfl rfl) ?_)))))))
 refine o7 (σ:=ByteArray×(List aB)) (fun(v8,v9)=>⟨[(1,.ptr 0 0),(2,.ptr 1 0),(3,aS v5 0),(4,.ptr 2 0)],⟨[some ⟨55,gO pa0⟩,some ⟨237,[pS s_,.nil]⟩,some ⟨237,[pS v8,a9 v9]⟩],[⟨9,1,aW (v5),false⟩,⟨237,2,aB.trs ([]),false⟩]⟩⟩) (gU H) (fun H=>?_) ?_
 ·refine qS (qR (q1 (a5 IV) (q1 (bG sh4) (qN ?_))))
  refine bA H (fun h10 H=>?_) (fun h10 H=>?_)
  ·refine qR (q1 (a5 IW) (q1 (cV [pI pa0.gAssoc.gKind,pS pa0.gAssoc.gName,a4 pa0.gAssoc.gArgs] cH) (bO H fun x12 z11 H=>(q1 (bI Tryz.func269 (tR fu pa0.gAssoc _ z11)) (q1 (iA ([x12]:List aB) bE b6) (bO H fun x14 z13 H=>(q1 (aV.callOwn (pre:=⟨[],[]⟩) (B:= []) (R:=fun k=> .agg [pS x14.gAtom,dY x14.gList k]) (ps:= [_]) (qs:= [a9 ([x12]:List aB)]) [] rfl rfl Tryz.func265 (by kernel_rfl) rfl rfl rfl (mW.of trivial trivial (by decide) (by decide)) rfl lH rfl rfl rfl (fun k k'=>(.agg (.cons (.free _ rfl) (.cons Mv.acc R2.nil)))) (lP fu ([x12]:List aB) _ z13)) (q1 (bU eA) (qN ?_)))))))))
   exact dP ⟨_,(aY H:),b0⟩
  refine aP.skip ?_;exact dP ⟨_,(aY H:),b0⟩
 rintro⟨v8,v9⟩ H
 refine qS (bO H fun x16 z15 H=>(bO H fun x18 z17 H=>(bO H fun x20 z19 H=>(bO H fun x22 z21 H=>(bO H fun x24 z23 H=>(bO H fun x26 z25 H=>(bO H fun x28 z27 H=>(dWa (dI [] (bI Tryz.func266 (bW fu JZ _ z15)) (dI [1] (a5 zF) (dBz [27] 0 0 (vC fB) (dI [28] (bI Tryz.func266 (bW fu pa0.gTrait _ z17)) (dI [1] (a5 r6) ?_)))))))))))))
 refine dBz [30] 0 0 (vC lK) (dI [31] (bI Tryz.func267 (kY fu pa0.gVars _ z19)) (dI [1] (a5 nL) (dBz [33] 0 0 (UU [pI pa0.gHead.gKind,pS pa0.gHead.gName,a4 pa0.gHead.gArgs] cH) (dI [34] (bI Tryz.func269 (tR fu pa0.gHead _ z21)) (dI [1] (a5 IU) (dBz [36] 0 0 (vC adF) (dI [37] (bI Tryz.func272 (H3 fu pa0.gWhere _ z23)) (dI [3] aF (dI [39] (bI Tryz.func267 (kY fu v5 _ z25)) (dBz [4] 0 0 (UU [pS v8,a9 v9] bN) (dI [26,29,32,35,38,40,41] (iA ([x16,x18,x20,x22,x24,x26,(aB.mk v8 v9)]:List aB) bE b6) ?_)))))))))))
 refine dEz [42] (fun _ z=>by cases z<;>exact aV.callOwn (pre:=⟨[],[]⟩) (B:= []) (R:=fun k=> .agg [pS x28.gAtom,dY x28.gList k]) (ps:= [_]) (qs:= [a9 ([x16,x18,x20,x22,x24,x26,(aB.mk v8 v9)]:List aB)]) [] rfl rfl Tryz.func265 (by kernel_rfl) rfl rfl rfl (mW.of trivial trivial (by decide) (by decide)) rfl lH rfl rfl rfl (fun k k'=>(.agg (.cons (.free _ rfl) (.cons Mv.acc R2.nil)))) (lP fu ([x16,x18,x20,x22,x24,x26,(aB.mk v8 v9)]:List aB) _ z27)) ?_;refine dA (fun _ st h=>vAl h b6) (dZ 5 [5,43] (bU eA) (dN ?_))
 iterate 2 refine qS ?_
 refine qR (q1 aF (qN ?_))
 refine aP.fact (cO 0 11 rfl rfl rfl (aN.trs_len _)) (fun hl32=>?_)
 refine cM (σ:=(List aB)) (fun i29 v31=>⟨[(1,.ptr 0 0),(2,.ptr 1 0),(5,.ptr 3 0),(6,pN i29)],⟨[some ⟨55,gO pa0⟩,some ⟨237,[pS s_,.nil]⟩,some ⟨237,[pS v8,a9 v9]⟩,some ⟨237,[pS x28.gAtom,dY v31 2]⟩],[⟨9,1,aW (v5),false⟩,⟨237,2,aB.trs ([]),false⟩,⟨237,2,aB.trs (v31),false⟩]⟩⟩) (fun v31=>⟨[(2,.ptr 1 0),(5,.ptr 3 0)],⟨[some ⟨55,gO pa0⟩,some ⟨237,[pS s_,.nil]⟩,some ⟨237,[pS v8,a9 v9]⟩,some ⟨237,[pS x28.gAtom,dY v31 2]⟩],[⟨9,1,aW (v5),false⟩,⟨237,2,aB.trs ([]),false⟩,⟨237,2,aB.trs (v31),false⟩]⟩⟩) (gU H) ?_ ?_
 ·rintro i29 v31 H
  iterate 2 refine qS ?_
  refine qR (q1 aF (q1 (a5 BC) (q1 (bG ZJ) (q1 (eT R7 (aN.trs_len _)) (q1 hZ (qN ?_))))))
  refine eW H (fun h33 h33l H=>?_) (fun h33 H=>?_)
  ·have h33n:=a8 h33
   refine aP.skip (qS (aP.block (qS (qR (q1 (a5 BC) (q1 (bG ZJ) (q1 aF (g0 H fun y34 h35 H=>(q1 (yO h35 h33n R7) (q1 (j0 (aN.cs y34) ahG) (q1 (iV RO) (q1 (bU ahN) (qN ?_)))))))))))))
   refine bO H fun x37 z36 H=>(bO H fun x39 z38 H=>(bO H fun x41 z40 H=>(bO H fun x43 z42 H=>(dF H fun z44 H=>(dW (dI [5] (a5 bD) (dB [56] 0 1 (vC cQ) (dI [7] (a5 abT) (dD [58] (bG fB) (dI [59] (bI Tryz.func266 (bW fu y34.gName _ z36)) (dI [7] (a5 G5) (dD [61] (bG lK) (dI [62] (bI Tryz.func267 (kY fu y34.gVars _ z38)) ?_)))))))))))))
   refine dI [7] (a5 SE) (dD [64] (cV [pI y34.gBody.gKind,pS y34.gBody.gTrait,pS y34.gBody.gName,pI y34.gBody.gN,pI y34.gBody.gType.gKind,pS y34.gBody.gType.gName,a4 y34.gBody.gType.gArgs,gQ y34.gBody.gArgs,oM y34.gBody.gArms] hP) (dI [65] (bI Tryz.func270 (J2 fu y34.gBody _ z40)) (dI [60,63,66] (iA ([x37,x39,x41]:List aB) bE b6) (dE [67] (aV.callOwn (pre:=⟨[],[]⟩) (B:= []) (R:=fun k=> .agg [pS x43.gAtom,dY x43.gList k]) (ps:= [_]) (qs:= [a9 ([x37,x39,x41]:List aB)]) [] rfl rfl Tryz.func265 (by kernel_rfl) rfl rfl rfl (mW.of trivial trivial (by decide) (by decide)) rfl lH rfl rfl rfl (fun k k'=>(.agg (.cons (.free _ rfl) (.cons Mv.acc R2.nil)))) (lP fu ([x37,x39,x41]:List aB) _ z42)) (dI [68] (iA ([(aB.mk x43.gAtom x43.gList)]:List aB) bE b6) (dE [57,69] (mJ z44 bE o6) (dI [5] (a5 bD) (nI [71,70] (bU w5) (dN (qR (q1 aF (q1 (aV.addI rfl rfl rfl rfl (c:=((i29+1:Nat):Int)) (by omega) (by omega)) (q1 aF ?_)))))))))))))
   refine qN ?_;exact iY h33l ⟨_,(aY H:),b0⟩
  refine aP.exit ?_;exact lS ⟨_,H,b0⟩
 rintro v31 H
 refine qS (qR (q1 (cV [pS x28.gAtom,dY v31 2] bN) (bO H fun x46 z45 H=>(q1 (bI Tryz.func271 (C1 fu true (aB.mk x28.gAtom v31) _ z45)) (q1 (bU eA) (qN (aP.ret ?_)))))))
 obtain rfl:_=r:=(aY H:)
 exact bM (hr:=⟨⟨_,_,_,rfl,rfl,bN,rfl,rfl⟩,trivial⟩)
def F5(m:aB→Option (aH×Bool)):Prop:= ∀(pa0:aB) (r:aH×Bool),m pa0=some r→cE Tryz.prog 232 [(aB.pv pa0)] (.tup [(aH.pv r.1),pB r.2]:PV)
def EC(fu:Nat)(pa0 x2 x4:aB)(x6:List ByteArray)(x8:aB)(x10:aA)(x12:aB)(x14:List aJ)(x16 x18:aB):Option ((aH×Bool)⊕((List aA)×Bool×Int×ByteArray)):=
 sw (decide ((((x18.gList.length:Nat):Int):Int)>0))
 (gd (0<(x18.gList).length)
 (bd (k8 fu (a3 x18.gList 0)) (fun x26=>
 some (.inr (x26.gArgs,true,x26.gKind,x26.gName)))))
 (some (.inr ([],false,0,s_)))
def ED(fu:Nat)(pa0 x2 x4:aB)(x6:List ByteArray)(x8:aB)(x10:aA)(x12:aB)(x14:List aJ)(x16 x18:aB)(v22:List aA)(v19:Bool)(v20:Int)(v21:ByteArray)(x28:List aB):Nat→((List aN))→Option (LR ((List aN)) (aH×Bool)):=
 fun i29 v31=>bd (c7 fu (a3 x28 i29) 0) (fun x35=>
 bd (c7 fu (a3 x28 i29) 1) (fun x37=>
 bd (kX fu x37) (fun x39=>
 bd (c7 fu (a3 x28 i29) 2) (fun x41=>
 bd (gA fu x41) (fun x43=>
 gd ((v31).length+(([(aN.mk x35.gAtom x39 x43)]:List aN)).length≤68719476736)
 (some (.next (v31++([(aN.mk x35.gAtom x39 x43)]:List aN)))))))))
def EE(fu:Nat)(pa0 x2 x4:aB)(x6:List ByteArray)(x8:aB)(x10:aA)(x12:aB)(x14:List aJ)(x16 x18:aB)(v22:List aA)(v19:Bool)(v20:Int)(v21:ByteArray)(x28:List aB):Option ((aH×Bool)⊕((List aN))):=
 loopN (ED fu pa0 x2 x4 x6 x8 x10 x12 x14 x16 x18 v22 v19 v20 v21 x28) (x28.length-0) 0 ([])
def qB(fu:Nat)(pa0:aB):Option (aH×Bool):=
 bd (c7 fu pa0 1) (fun x2=>
 bd (c7 fu pa0 2) (fun x4=>
 bd (kX fu x4) (fun x6=>
 bd (c7 fu pa0 3) (fun x8=>
 bd (k8 fu x8) (fun x10=>
 bd (c7 fu pa0 4) (fun x12=>
 bd (uZ fu x12) (fun x14=>
 bd (c7 fu pa0 5) (fun x16=>
 bd (c7 fu pa0 6) (fun x18=>
 so (EC fu pa0 x2 x4 x6 x8 x10 x12 x14 x16 x18) (fun(v22,v19,v20,v21)=>
 bd (sU fu pa0 7) (fun x28=>
 so (EE fu pa0 x2 x4 x6 x8 x10 x12 x14 x16 x18 v22 v19 v20 v21 x28) (fun v31=>
 bd (gK fu pa0) (fun x46=>
 sw (!(x46))
 (some ((aH.mk s_ [] (aA.mk 0 s_ []) [] false false (aA.mk 0 s_ []) []),false))
 (sw (decide ((((pa0.gList.length:Nat):Int):Int)=0))
 (some ((aH.mk s_ [] (aA.mk 0 s_ []) [] false false (aA.mk 0 s_ []) []),false))
 (bd (p8 fu (aH.mk x2.gAtom x6 x10 x14 (decide ((((x16.gList.length:Nat):Int):Int)>0)) v19 (aA.mk v20 v21 v22) v31)) (fun x50=>
 bd (fA fu x50 pa0) (fun x52=>
 sw (!(x52))
 (some ((aH.mk s_ [] (aA.mk 0 s_ []) [] false false (aA.mk 0 s_ []) []),false))
 (some ((aH.mk x2.gAtom x6 x10 x14 (decide ((((x16.gList.length:Nat):Int):Int)>0)) v19 (aA.mk v20 v21 v22) v31),true)))))))))))))))))))
theorem EF(fu:Nat):F5 (qB fu):=by
 intro pa0 r H
 have H:=fI H
 refine qI Tryz.func232 (fun C hC=>?_)
 refine qS (qR (q1 (jU ([pS pa0.gAtom,a9 pa0.gList])) (q1 (iV tU) (q1 aF (qN (qS (bO H fun x2 z1 H=>(bO H fun x4 z3 H=>(bO H fun x6 z5 H=>(bO H fun x8 z7 H=>(bO H fun x10 z9 H=>(bO H fun x12 z11 H=>(bO H fun x14 z13 H=>?_)))))))))))))
 refine bO H fun x16 z15 H=>(dW (dB [1] 0 1 (UU [pS pa0.gAtom,a9 pa0.gList] bN) (dI [8] (bI Tryz.func219 (cR fu pa0 1 _ z1)) (dI [9] (rF1 q7) (dB [1] 0 1 (UU [pS pa0.gAtom,a9 pa0.gList] bN) (dI [11] (bI Tryz.func219 (cR fu pa0 2 _ z3)) (dI [12] (bI Tryz.func243 (mS fu x4 _ z5)) (dB [1] 0 1 (UU [pS pa0.gAtom,a9 pa0.gList] bN) (dI [14] (bI Tryz.func219 (cR fu pa0 3 _ z7)) (dI [15] (bI Tryz.func246 (tS fu x8 _ z9)) (dB [1] 0 1 (UU [pS pa0.gAtom,a9 pa0.gList] bN) (dI [17] (bI Tryz.func219 (cR fu pa0 4 _ z11)) (dI [18] (bI Tryz.func251 (ET fu x12 _ z13)) ?_)))))))))))))
 refine dB [1] 0 1 (UU [pS pa0.gAtom,a9 pa0.gList] bN) (dI [20] (bI Tryz.func219 (cR fu pa0 5 _ z15)) (dI [21] (rF1 SH) (dI [22] (eT bE (aB.trs_len _)) (dI [23] IB (dI [10,13,16,19,24] (f6 tU NS) (dE [] (iV tU) (nI [4,25] (bU rR) (dN (qS (qR (q1 (cV [pS pa0.gAtom,a9 pa0.gList] bN) (bO H fun x18 z17 H=>(q1 (bI Tryz.func219 (cR fu pa0 6 _ z17)) ?_)))))))))))))
 refine q1 (iV b6) (q1 (bU eA) (qN (qS ?_)))
 refine o7 (σ:=(List aA)×Bool×Int×ByteArray) (fun(v22,v19,v20,v21)=>⟨[(1,.ptr 0 0),(2,.ptr 1 0),(3,pB false),(4,.ptr 2 0)],⟨[some ⟨237,[pS pa0.gAtom,a9 pa0.gList]⟩,some ⟨55,[pS s_,.nil,pI 0,pS s_,.nil,.nil,pB false,pB false,pI 0,pS s_,.nil,.nil]⟩,some ⟨55,[pS x2.gAtom,rS x6,pI x10.gKind,pS x10.gName,a4 x10.gArgs,fO x14,pB (decide ((((x16.gList.length:Nat):Int):Int)>0)),pB v19,pI v20,pS v21,a4 v22,.nil]⟩,some ⟨237,[pS x18.gAtom,a9 x18.gList]⟩],[]⟩⟩) (gU H) (fun H=>?_) ?_
 ·refine qS (qR (q1 (a5 bD) (q1 (bG cQ) (q1 (eT bE (aB.trs_len _)) (q1 IB (qN ?_))))))
  refine bA H (fun h23 H=>?_) (fun h23 H=>?_)
  ·refine qS (qR (q1 (a5 IV) (q1 (bU sz4) (qN (qR (q1 (a5 bD) (q1 (bG cQ) (dF H fun z24 H=>(q1 (iH z24 bE) (q1 (j0 (aB.cs (a3 x18.gList 0)) bN) (bO H fun x26 z25 H=>(q1 (bI Tryz.func246 (tS fu (a3 x18.gList 0) _ z25)) (q1 (a5 IW) ?_)))))))))))))
   refine q1 (bU hQ) (qN ?_)
   exact dP ⟨_,(aY H:),b0⟩
  refine aP.skip ?_;exact dP ⟨_,(aY H:),b0⟩
 rintro⟨v22,v19,v20,v21⟩ H
 refine qS (qR (q1 (cV [pS pa0.gAtom,a9 pa0.gList] bN) (bO H fun x28 z27 H=>(q1 (bI Tryz.func244 (wT fu pa0 7 _ z27)) (q1 aF (qN ?_))))))
 iterate 2 refine qS ?_
 refine qR (q1 aF (qN (aP.wk (Wk.regBox (k:=2) (j:=11) 161 11 (by decide) rfl rfl) ?_)))
 refine lR 6 (aB.trs_len _) (fun hl32=>?_)
 refine cM (σ:=(List aN)) (fun i29 v31=>⟨[(1,.ptr 0 0),(2,.ptr 1 0),(3,pB false),(4,.ptr 2 0),(6,a9 x28),(7,pN i29)],⟨[some ⟨237,[pS pa0.gAtom,a9 pa0.gList]⟩,some ⟨55,[pS s_,.nil,pI 0,pS s_,.nil,.nil,pB false,pB false,pI 0,pS s_,.nil,.nil]⟩,some ⟨55,[pS x2.gAtom,rS x6,pI x10.gKind,pS x10.gName,a4 x10.gArgs,fO x14,pB (decide ((((x16.gList.length:Nat):Int):Int)>0)),pB v19,pI v20,pS v21,a4 v22,L7 v31 0]⟩,some ⟨237,[pS x18.gAtom,a9 x18.gList]⟩],[⟨161,11,aN.trs (v31),false⟩]⟩⟩) (fun v31=>⟨[(1,.ptr 0 0),(2,.ptr 1 0),(3,pB false),(4,.ptr 2 0)],⟨[some ⟨237,[pS pa0.gAtom,a9 pa0.gList]⟩,some ⟨55,[pS s_,.nil,pI 0,pS s_,.nil,.nil,pB false,pB false,pI 0,pS s_,.nil,.nil]⟩,some ⟨55,[pS x2.gAtom,rS x6,pI x10.gKind,pS x10.gName,a4 x10.gArgs,fO x14,pB (decide ((((x16.gList.length:Nat):Int):Int)>0)),pB v19,pI v20,pS v21,a4 v22,L7 v31 0]⟩,some ⟨237,[pS x18.gAtom,a9 x18.gList]⟩],[⟨161,11,aN.trs (v31),false⟩]⟩⟩) (gU H) ?_ ?_
 ·rintro i29 v31 H
  iterate 2 refine qS ?_
  refine qR ?_
  iterate 2 refine q1 aF ?_
  refine q1 (eT bE (aB.trs_len _)) (q1 hZ (qN ?_))
  refine eW H (fun h33 h33l H=>?_) (fun h33 H=>?_)
  ·have h33n:=a8 h33
   refine aP.skip (qS (aP.block (bO H fun x35 z34 H=>(bO H fun x37 z36 H=>(bO H fun x39 z38 H=>(bO H fun x41 z40 H=>(bO H fun x43 z42 H=>(dF H fun z44 H=>(dW (dI [4] (a5 BC) (dD [47] (bG ZJ) (dI [6] aF (dI [7] aF ?_)))))))))))))
   refine dI [49,50] (iH h33n bE) (dI [51] (j0 (aB.cs (a3 x28 i29)) bN) (dI [52] (bI Tryz.func219 (cR fu (a3 x28 i29) 0 _ z34)) (dI [53] (rF1 q7) (dI [6] aF (dI [7] aF (dI [55,56] (iH h33n bE) (dI [57] (j0 (aB.cs (a3 x28 i29)) bN) (dI [58] (bI Tryz.func219 (cR fu (a3 x28 i29) 1 _ z36)) (dI [59] (bI Tryz.func243 (mS fu x37 _ z38)) (dI [6] aF (dI [7] aF (dI [61,62] (iH h33n bE) (dI [63] (j0 (aB.cs (a3 x28 i29)) bN) ?_)))))))))))))
   refine dI [64] (bI Tryz.func219 (cR fu (a3 x28 i29) 2 _ z40)) (dI [65] (bI Tryz.func247 (BZ fu x41 _ z42)) (dI [54,60,66] (f6 RO ahE) (dI [67] (iA ([(aN.mk x35.gAtom x39 x43)]:List aN) R7 RO) (dE [48,68] (mJ z44 R7 aj3) (dI [4] (a5 BC) (nI [70,69] (bU aj1) (dN (qR (q1 aF (q1 (aV.addI rfl rfl rfl rfl (c:=((i29+1:Nat):Int)) (by omega) (by omega)) (q1 aF (qN ?_))))))))))))
   exact iY h33l ⟨_,(aY H:),b0⟩
  refine aP.exit ?_;exact lS ⟨_,H,b0⟩
 rintro v31 H
 iterate 2 refine qS ?_
 refine bO H fun x46 z45 H=>?_
 rcases kM (!(x46)) with g47|g47
 ·have H:=nR H g47
  refine dW (dD [1] (cV [pS pa0.gAtom,a9 pa0.gList] bN) (dI [71] (bI Tryz.func217 (cZ fu pa0 _ z45)) (dI [72] gT (dI [73] aF ?_))))
  iterate 4 refine CL g47 ?_
  refine dI [74] (bR g47) (dI [79] aF ?_)
  iterate 5 refine CL rfl ?_
  refine dI [80] (bR rfl) (dN (dV rfl (qS (qR (q1 (f6 tU NS) (q1 (bU rR) (q1 aF (qN (aP.ret ?_)))))))))
  obtain rfl:_=r:=(aY H:)
  exact lB (hr:=⟨⟨_,_,_,rfl,rfl,pA,rfl,rfl⟩,rfl,trivial⟩)
 have H:=nQ H g47
 rcases kM (decide ((((pa0.gList.length:Nat):Int):Int)=0)) with g48|g48
 ·have H:=nR H g48
  refine dW (dD [1] (cV [pS pa0.gAtom,a9 pa0.gList] bN) (dI [71] (bI Tryz.func217 (cZ fu pa0 _ z45)) (dI [72] gT (dI [73] aF (dI (hg:=aZ g47) [1] (a5 bD) (dD (hg:=aZ g47) [75] (bG cQ) (dI (hg:=aZ g47) [76] (eT bE (aB.trs_len _)) (dI (hg:=aZ g47) [77] eM (dI [74,78] (b5 g47) (dI [79] aF ?_))))))))))
  iterate 5 refine CL g48 ?_
  refine dI [80] (bR g48) (dN (dV rfl (qS (qR (q1 (f6 tU NS) (q1 (bU rR) (q1 aF (qN (aP.ret ?_)))))))))
  obtain rfl:_=r:=(aY H:)
  exact lB (hr:=⟨⟨_,_,_,rfl,rfl,pA,rfl,rfl⟩,rfl,trivial⟩)
 have H:=nQ H g48
 refine bO H fun x50 z49 H=>(bO H fun x52 z51 H=>(dW (dD [1] (cV [pS pa0.gAtom,a9 pa0.gList] bN) (dI [71] (bI Tryz.func217 (cZ fu pa0 _ z45)) (dI [72] gT (dI [73] aF (dI (hg:=aZ g47) [1] (a5 bD) (dD (hg:=aZ g47) [75] (bG cQ) (dI (hg:=aZ g47) [76] (eT bE (aB.trs_len _)) (dI (hg:=aZ g47) [77] eM (dI [74,78] (b5 g47) (dI [79] aF (dD (hg:=aZ g48) [4] (cV [pS x2.gAtom,rS x6,pI x10.gKind,pS x10.gName,a4 x10.gArgs,fO x14,pB (decide ((((x16.gList.length:Nat):Int):Int)>0)),pB v19,pI v20,pS v21,a4 v22,L7 v31 0] pA) ?_)))))))))))))
 refine dI (hg:=aZ g48) [81] (bI Tryz.func252 (DV fu (aH.mk x2.gAtom x6 x10 x14 (decide ((((x16.gList.length:Nat):Int):Int)>0)) v19 (aA.mk v20 v21 v22) v31) _ z49)) (dD (hg:=aZ g48) [1] (cV [pS pa0.gAtom,a9 pa0.gList] bN) (dI (hg:=aZ g48) [82,83] (bI Tryz.func248 (rI fu x50 pa0 _ z51)) (dI (hg:=aZ g48) [84] gT (dI [80,85] (b5 g48) (dN ?_)))))
 refine bA H (fun h53 H=>?_) (fun h53 H=>?_)
 ·refine qS (qR (q1 (f6 tU NS) (q1 (bU rR) (q1 aF (qN (aP.ret ?_))))))
  obtain rfl:_=r:=(aY H:)
  exact lB (hr:=⟨⟨_,_,_,rfl,rfl,pA,rfl,rfl⟩,rfl,trivial⟩)
 refine aP.skip (qS (qR (q1 (cV [pS x2.gAtom,rS x6,pI x10.gKind,pS x10.gName,a4 x10.gArgs,fO x14,pB (decide ((((x16.gList.length:Nat):Int):Int)>0)),pB v19,pI v20,pS v21,a4 v22,L7 v31 0] pA) (q1 (bU rR) (q1 aF (qN (aP.ret ?_)))))))
 obtain rfl:_=r:=(aY H:)
 exact lB (hr:=⟨⟨_,_,_,rfl,rfl,pA,rfl,rfl⟩,rfl,trivial⟩)
def FW(m:aI→Option aB):Prop:= ∀(pf:aI) (r:aB),m pf=some r→cE Tryz.prog 253 [(aI.pv pf)] ((aB.pv r):PV)
def DM(fu:Nat)(pf:aI)(x2:Bool):Nat→((List aB))→Option (LR ((List aB)) aB):=
 fun i4 v6=>bd (b9 fu ((a3 pf.gParams i4).gName)) (fun x10=>
 bd (k7 fu ((a3 pf.gParams i4).gType)) (fun x12=>
 bd (kK fu ([x10,x12]:List aB)) (fun x14=>
 gd ((v6).length+(([x14]:List aB)).length≤68719476736)
 (some (.next (v6++([x14]:List aB)))))))
def DN(fu:Nat)(pf:aI)(x2:Bool):Option (aB⊕((List aB))):=
 loopN (DM fu pf x2) (pf.gParams.length-0) 0 ([])
def p7(fu:Nat)(pf:aI):Option aB:=
 bd (mM fu pf) (fun x2=>
 sw (!(x2))
 (some (aB.mk s_ []))
 (so (DN fu pf x2) (fun v6=>
 bd (b9 fu adE) (fun x17=>
 bd (b9 fu pf.gName) (fun x19=>
 bd (jX fu pf.gVars) (fun x21=>
 bd (wV fu pf.gWhere) (fun x23=>
 bd (k7 fu pf.gResult) (fun x25=>
 bd (kV fu pf.gBody) (fun x27=>
 bd (kK fu ([x17,x19,x21,x23,(aB.mk s_ v6),x25,x27]:List aB)) (fun x29=>
 bd (yV fu true x29) (fun x31=>
 some x31)))))))))))
theorem DO(fu:Nat):FW (p7 fu):=by
 intro pf r H
 have H:=fI H
 refine qI Tryz.func253 (fun C hC=>?_)
 refine qS (qR (q1 (jU (u5 pf)) (q1 (iV b6) (qN ?_))))
 iterate 2 refine qS ?_
 refine qR (q1 (cV [pS pf.gName,rS pf.gVars,fO pf.gWhere,NT pf.gParams,pI pf.gResult.gKind,pS pf.gResult.gName,a4 pf.gResult.gArgs,pI pf.gBody.gKind,pS pf.gBody.gTrait,pS pf.gBody.gName,pI pf.gBody.gN,pI pf.gBody.gType.gKind,pS pf.gBody.gType.gName,a4 pf.gBody.gType.gArgs,gQ pf.gBody.gArgs,oM pf.gBody.gArms] pJ) (bO H fun x2 z1 H=>(q1 (bI Tryz.func259 (uI fu pf _ z1)) (q1 gT (qN ?_)))))
 refine bA H (fun h3 H=>?_) (fun h3 H=>?_)
 ·refine qS (qR (q1 (f6 b6 l3) (q1 (bU eA) (qN (aP.ret ?_)))))
  obtain rfl:_=r:=(aY H:)
  exact bM (hr:=⟨⟨_,_,_,rfl,rfl,bN,rfl,rfl⟩,trivial⟩)
 refine aP.skip (qS (qR (q1 (f6 b6 l3) (q1 (iV b6) (q1 (bU eA) (qN ?_))))))
 iterate 2 refine qS ?_
 refine qR (q1 aF (qN (aP.wk (Wk.regBox (k:=2) (j:=1) 237 2 (by decide) rfl rfl) ?_)))
 refine aP.fact (cO 0 3 rfl rfl rfl (aR.trs_len _)) (fun hl7=>?_)
 refine cM (σ:=(List aB)) (fun i4 v6=>⟨[(1,.ptr 0 0),(2,.ptr 1 0),(3,.ptr 2 0),(4,pN i4)],⟨[some ⟨148,u5 pf⟩,some ⟨237,[pS s_,.nil]⟩,some ⟨237,[pS s_,dY v6 0]⟩],[⟨237,2,aB.trs (v6),false⟩]⟩⟩) (fun v6=>⟨[(1,.ptr 0 0),(2,.ptr 1 0),(3,.ptr 2 0)],⟨[some ⟨148,u5 pf⟩,some ⟨237,[pS s_,.nil]⟩,some ⟨237,[pS s_,dY v6 0]⟩],[⟨237,2,aB.trs (v6),false⟩]⟩⟩) (gU H) ?_ ?_
 ·rintro i4 v6 H
  iterate 2 refine qS ?_
  refine qR (q1 aF (q1 (a5 s5) (q1 (bG KT) (q1 (eT BA (aR.trs_len _)) (q1 hZ (qN ?_))))))
  refine eW H (fun h8 h8l H=>?_) (fun h8 H=>?_)
  ·have h8n:=a8 h8
   refine aP.skip (qS (aP.block (bO H fun x10 z9 H=>(bO H fun x12 z11 H=>(bO H fun x14 z13 H=>(dF H fun z15 H=>(dW (dI [3] (a5 bD) (dD [17] (bG cQ) (dI [1] (a5 s5) (dD [19] (bG KT) (dI [4] aF (dI [20,21] (iH h8n BA) ?_)))))))))))))
   refine dI [22] (qX abW) (dI [23] (pZ fB) (dI [24] (bI Tryz.func266 (bW fu ((a3 pf.gParams i4).gName) _ z9)) (dI [1] (a5 s5) (dD [26] (bG KT) (dI [4] aF (dI [27,28] (iH h8n BA) (dI [29] (qX abX) (dI [30] (j0 (aA.cs ((a3 pf.gParams i4).gType)) cH) (dI [31] (bI Tryz.func269 (tR fu ((a3 pf.gParams i4).gType) _ z11)) (dI [25,32] (iA ([x10,x12]:List aB) bE b6) (dI [33] (bI Tryz.func265 (z0 (lP fu) ([x10,x12]:List aB) _ z13)) (dI [34] (iA ([x14]:List aB) bE b6) (dE [18,35] (mJ z15 bE o6) ?_)))))))))))))
   refine dI [3] (a5 bD) (nI [37,36] (bU w5) (dN (qR (q1 aF (q1 (aV.addI rfl rfl rfl rfl (c:=((i4+1:Nat):Int)) (by omega) (by omega)) (q1 aF (qN ?_)))))))
   exact iY h8l ⟨_,(aY H:),b0⟩
  refine aP.exit ?_;exact lS ⟨_,H,b0⟩
 rintro v6 H
 refine qS (bO H fun x17 z16 H=>(bO H fun x19 z18 H=>(bO H fun x21 z20 H=>(bO H fun x23 z22 H=>(bO H fun x25 z24 H=>(bO H fun x27 z26 H=>(bO H fun x29 z28 H=>(bO H fun x31 z30 H=>(dW (dI [] (bI Tryz.func266 (bW fu adE _ z16)) (dI [1] (a5 MA) (dD [39] (bG fB) (dI [40] (bI Tryz.func266 (bW fu pf.gName _ z18)) ?_)))))))))))))
 refine dI [1] (a5 G4) (dD [42] (bG lK) (dI [43] (bI Tryz.func267 (kY fu pf.gVars _ z20)) (dI [1] (a5 SB) (dD [45] (bG adF) (dI [46] (bI Tryz.func272 (H3 fu pf.gWhere _ z22)) (dD [3] (cV [pS s_,dY v6 0] bN) (dI [1] (a5 SC) (dD [49] (cV [pI pf.gResult.gKind,pS pf.gResult.gName,a4 pf.gResult.gArgs] cH) (dI [50] (bI Tryz.func269 (tR fu pf.gResult _ z24)) (dI [1] (a5 SD) (dD [52] (cV [pI pf.gBody.gKind,pS pf.gBody.gTrait,pS pf.gBody.gName,pI pf.gBody.gN,pI pf.gBody.gType.gKind,pS pf.gBody.gType.gName,a4 pf.gBody.gType.gArgs,gQ pf.gBody.gArgs,oM pf.gBody.gArms] hP) (dI [53] (bI Tryz.func270 (J2 fu pf.gBody _ z26)) (dI [38,41,44,47,48,51,54] (iA ([x17,x19,x21,x23,(aB.mk s_ v6),x25,x27]:List aB) bE b6) ?_)))))))))))))
 refine dI [55] (bI Tryz.func265 (z0 (lP fu) ([x17,x19,x21,x23,(aB.mk s_ v6),x25,x27]:List aB) _ z28)) (dI [56] (bI Tryz.func271 (C1 fu true x29 _ z30)) (nI [2,57] (bU eA) (dN (aP.ret ?_))))
 obtain rfl:_=r:=(aY H:)
 exact bM (hr:=⟨⟨_,_,_,rfl,rfl,bN,rfl,rfl⟩,trivial⟩)
def F4(m:aB→Option (aI×Bool)):Prop:= ∀(pa0:aB) (r:aI×Bool),m pa0=some r→cE Tryz.prog 233 [(aB.pv pa0)] (.tup [(aI.pv r.1),pB r.2]:PV)
def D9(fu:Nat)(pa0 x2 x4:aB)(x6:List ByteArray)(x8:aB)(x10:List aJ)(x12:aB)(x14:aA)(x16:aB)(x18:aG)(x20:aB):Nat→((List aR))→Option (LR ((List aR)) (aI×Bool)):=
 fun i21 v23=>bd (c7 fu (a3 x20.gList i21) 0) (fun x27=>
 bd (c7 fu (a3 x20.gList i21) 1) (fun x29=>
 bd (k8 fu x29) (fun x31=>
 gd ((v23).length+(([(aR.mk x27.gAtom x31)]:List aR)).length≤68719476736)
 (some (.next (v23++([(aR.mk x27.gAtom x31)]:List aR)))))))
def EA(fu:Nat)(pa0 x2 x4:aB)(x6:List ByteArray)(x8:aB)(x10:List aJ)(x12:aB)(x14:aA)(x16:aB)(x18:aG)(x20:aB):Option ((aI×Bool)⊕((List aR))):=
 loopN (D9 fu pa0 x2 x4 x6 x8 x10 x12 x14 x16 x18 x20) (x20.gList.length-0) 0 ([])
def qA(fu:Nat)(pa0:aB):Option (aI×Bool):=
 bd (c7 fu pa0 1) (fun x2=>
 bd (c7 fu pa0 2) (fun x4=>
 bd (kX fu x4) (fun x6=>
 bd (c7 fu pa0 3) (fun x8=>
 bd (uZ fu x8) (fun x10=>
 bd (c7 fu pa0 5) (fun x12=>
 bd (k8 fu x12) (fun x14=>
 bd (c7 fu pa0 6) (fun x16=>
 bd (gA fu x16) (fun x18=>
 bd (c7 fu pa0 4) (fun x20=>
 so (EA fu pa0 x2 x4 x6 x8 x10 x12 x14 x16 x18 x20) (fun v23=>
 bd (gK fu pa0) (fun x34=>
 sw (!(x34))
 (some ((aI.mk s_ [] [] [] (aA.mk 0 s_ []) (aG.mk 0 s_ s_ 0 (aA.mk 0 s_ []) [] [])),false))
 (sw (decide ((((pa0.gList.length:Nat):Int):Int)=0))
 (some ((aI.mk s_ [] [] [] (aA.mk 0 s_ []) (aG.mk 0 s_ s_ 0 (aA.mk 0 s_ []) [] [])),false))
 (bd (p7 fu (aI.mk x2.gAtom x6 x10 v23 x14 x18)) (fun x38=>
 bd (fA fu x38 pa0) (fun x40=>
 sw (!(x40))
 (some ((aI.mk s_ [] [] [] (aA.mk 0 s_ []) (aG.mk 0 s_ s_ 0 (aA.mk 0 s_ []) [] [])),false))
 (some ((aI.mk x2.gAtom x6 x10 v23 x14 x18),true))))))))))))))))))
theorem EB(fu:Nat):F4 (qA fu):=by
 intro pa0 r H
 have H:=fI H
 refine qI Tryz.func233 (fun C hC=>?_)
 refine qS (qR (q1 (jU ([pS pa0.gAtom,a9 pa0.gList])) (q1 (iV AN) (q1 aF (qN (qS (bO H fun x2 z1 H=>(bO H fun x4 z3 H=>(bO H fun x6 z5 H=>(bO H fun x8 z7 H=>(bO H fun x10 z9 H=>(bO H fun x12 z11 H=>(bO H fun x14 z13 H=>?_)))))))))))))
 refine bO H fun x16 z15 H=>(bO H fun x18 z17 H=>(dW (dB [1] 0 1 (UU [pS pa0.gAtom,a9 pa0.gList] bN) (dI [7] (bI Tryz.func219 (cR fu pa0 1 _ z1)) (dI [8] (rF1 q7) (dB [1] 0 1 (UU [pS pa0.gAtom,a9 pa0.gList] bN) (dI [10] (bI Tryz.func219 (cR fu pa0 2 _ z3)) (dI [11] (bI Tryz.func243 (mS fu x4 _ z5)) (dB [1] 0 1 (UU [pS pa0.gAtom,a9 pa0.gList] bN) (dI [13] (bI Tryz.func219 (cR fu pa0 3 _ z7)) (dI [14] (bI Tryz.func251 (ET fu x8 _ z9)) (dB [1] 0 1 (UU [pS pa0.gAtom,a9 pa0.gList] bN) (dI [16] (bI Tryz.func219 (cR fu pa0 5 _ z11)) ?_)))))))))))))
 refine dI [17] (bI Tryz.func246 (tS fu x12 _ z13)) (dB [1] 0 1 (UU [pS pa0.gAtom,a9 pa0.gList] bN) (dI [19] (bI Tryz.func219 (cR fu pa0 6 _ z15)) (dI [20] (bI Tryz.func247 (BZ fu x16 _ z17)) (dI [9,12,15,18,21] (f6 AN VV) (dE [] (iV AN) (nI [4,22] (bU yZ) (dN (qS (qR (q1 (cV [pS pa0.gAtom,a9 pa0.gList] bN) (bO H fun x20 z19 H=>(q1 (bI Tryz.func219 (cR fu pa0 4 _ z19)) (q1 (iV b6) ?_)))))))))))))
 refine q1 (bU eA) (qN ?_)
 iterate 2 refine qS ?_
 refine qR (q1 aF (qN (aP.wk (Wk.regBox (k:=2) (j:=3) 226 4 (by decide) rfl rfl) ?_)))
 refine aP.fact (cO 3 1 rfl rfl rfl (aB.trs_len _)) (fun hl24=>?_)
 refine cM (σ:=(List aR)) (fun i21 v23=>⟨[(1,.ptr 0 0),(2,.ptr 1 0),(3,pB false),(4,.ptr 2 0),(5,.ptr 3 0),(6,pN i21)],⟨[some ⟨237,[pS pa0.gAtom,a9 pa0.gList]⟩,some ⟨148,[pS s_,.nil,.nil,.nil,pI 0,pS s_,.nil,pI 0,pS s_,pS s_,pI 0,pI 0,pS s_,.nil,.nil,.nil]⟩,some ⟨148,[pS x2.gAtom,rS x6,fO x10,R3 v23 0,pI x14.gKind,pS x14.gName,a4 x14.gArgs,pI x18.gKind,pS x18.gTrait,pS x18.gName,pI x18.gN,pI x18.gType.gKind,pS x18.gType.gName,a4 x18.gType.gArgs,gQ x18.gArgs,oM x18.gArms]⟩,some ⟨237,[pS x20.gAtom,a9 x20.gList]⟩],[⟨226,4,aR.trs (v23),false⟩]⟩⟩) (fun v23=>⟨[(1,.ptr 0 0),(2,.ptr 1 0),(3,pB false),(4,.ptr 2 0)],⟨[some ⟨237,[pS pa0.gAtom,a9 pa0.gList]⟩,some ⟨148,[pS s_,.nil,.nil,.nil,pI 0,pS s_,.nil,pI 0,pS s_,pS s_,pI 0,pI 0,pS s_,.nil,.nil,.nil]⟩,some ⟨148,[pS x2.gAtom,rS x6,fO x10,R3 v23 0,pI x14.gKind,pS x14.gName,a4 x14.gArgs,pI x18.gKind,pS x18.gTrait,pS x18.gName,pI x18.gN,pI x18.gType.gKind,pS x18.gType.gName,a4 x18.gType.gArgs,gQ x18.gArgs,oM x18.gArms]⟩,some ⟨237,[pS x20.gAtom,a9 x20.gList]⟩],[⟨226,4,aR.trs (v23),false⟩]⟩⟩) (gU H) ?_ ?_
 ·rintro i21 v23 H
  iterate 2 refine qS ?_
  refine qR (q1 aF (q1 (a5 bD) (q1 (bG cQ) (q1 (eT bE (aB.trs_len _)) (q1 hZ (qN ?_))))))
  refine eW H (fun h25 h25l H=>?_) (fun h25 H=>?_)
  ·have h25n:=a8 h25
   refine aP.skip (qS (aP.block (bO H fun x27 z26 H=>(bO H fun x29 z28 H=>(bO H fun x31 z30 H=>(dF H fun z32 H=>(dW (dI [4] (a5 s5) (dD [32] (bG KT) (dI [5] (a5 bD) (dD [34] (bG cQ) (dI [6] aF (dI [35,36] (iH h25n bE) ?_)))))))))))))
   refine dI [37] (j0 (aB.cs (a3 x20.gList i21)) bN) (dI [38] (bI Tryz.func219 (cR fu (a3 x20.gList i21) 0 _ z26)) (dI [39] (rF1 q7) (dI [5] (a5 bD) (dD [41] (bG cQ) (dI [6] aF (dI [42,43] (iH h25n bE) (dI [44] (j0 (aB.cs (a3 x20.gList i21)) bN) (dI [45] (bI Tryz.func219 (cR fu (a3 x20.gList i21) 1 _ z28)) (dI [46] (bI Tryz.func246 (tS fu x29 _ z30)) (dI [40,47] (f6 RP ae7) (dI [48] (iA ([(aR.mk x27.gAtom x31)]:List aR) BA RP) (dE [33,49] (mJ z32 BA ahT) (dI [4] (a5 s5) ?_)))))))))))))
   refine nI [51,50] (bU ahM) (dN (qR (q1 aF (q1 (aV.addI rfl rfl rfl rfl (c:=((i21+1:Nat):Int)) (by omega) (by omega)) (q1 aF (qN ?_))))))
   exact iY h25l ⟨_,(aY H:),b0⟩
  refine aP.exit ?_;exact lS ⟨_,H,b0⟩
 rintro v23 H
 iterate 2 refine qS ?_
 refine bO H fun x34 z33 H=>?_
 rcases kM (!(x34)) with g35|g35
 ·have H:=nR H g35
  refine dW (dD [1] (cV [pS pa0.gAtom,a9 pa0.gList] bN) (dI [52] (bI Tryz.func217 (cZ fu pa0 _ z33)) (dI [53] gT (dI [54] aF ?_))))
  iterate 4 refine CL g35 ?_
  refine dI [55] (bR g35) (dI [60] aF ?_)
  iterate 5 refine CL rfl ?_
  refine dI [61] (bR rfl) (dN (dV rfl (qS (qR (q1 (f6 AN VV) (q1 (bU yZ) (q1 aF (qN (aP.ret ?_)))))))))
  obtain rfl:_=r:=(aY H:)
  exact lB (hr:=⟨⟨_,_,_,rfl,rfl,pJ,rfl,rfl⟩,rfl,trivial⟩)
 have H:=nQ H g35
 rcases kM (decide ((((pa0.gList.length:Nat):Int):Int)=0)) with g36|g36
 ·have H:=nR H g36
  refine dW (dD [1] (cV [pS pa0.gAtom,a9 pa0.gList] bN) (dI [52] (bI Tryz.func217 (cZ fu pa0 _ z33)) (dI [53] gT (dI [54] aF (dI (hg:=aZ g35) [1] (a5 bD) (dD (hg:=aZ g35) [56] (bG cQ) (dI (hg:=aZ g35) [57] (eT bE (aB.trs_len _)) (dI (hg:=aZ g35) [58] eM (dI [55,59] (b5 g35) (dI [60] aF ?_))))))))))
  iterate 5 refine CL g36 ?_
  refine dI [61] (bR g36) (dN (dV rfl (qS (qR (q1 (f6 AN VV) (q1 (bU yZ) (q1 aF (qN (aP.ret ?_)))))))))
  obtain rfl:_=r:=(aY H:)
  exact lB (hr:=⟨⟨_,_,_,rfl,rfl,pJ,rfl,rfl⟩,rfl,trivial⟩)
 have H:=nQ H g36
 refine bO H fun x38 z37 H=>(bO H fun x40 z39 H=>(dW (dD [1] (cV [pS pa0.gAtom,a9 pa0.gList] bN) (dI [52] (bI Tryz.func217 (cZ fu pa0 _ z33)) (dI [53] gT (dI [54] aF (dI (hg:=aZ g35) [1] (a5 bD) (dD (hg:=aZ g35) [56] (bG cQ) (dI (hg:=aZ g35) [57] (eT bE (aB.trs_len _)) (dI (hg:=aZ g35) [58] eM (dI [55,59] (b5 g35) (dI [60] aF (dD (hg:=aZ g36) [4] (cV [pS x2.gAtom,rS x6,fO x10,R3 v23 0,pI x14.gKind,pS x14.gName,a4 x14.gArgs,pI x18.gKind,pS x18.gTrait,pS x18.gName,pI x18.gN,pI x18.gType.gKind,pS x18.gType.gName,a4 x18.gType.gArgs,gQ x18.gArgs,oM x18.gArms] pJ) ?_)))))))))))))
 refine dI (hg:=aZ g36) [62] (bI Tryz.func253 (DO fu (aI.mk x2.gAtom x6 x10 v23 x14 x18) _ z37)) (dD (hg:=aZ g36) [1] (cV [pS pa0.gAtom,a9 pa0.gList] bN) (dI (hg:=aZ g36) [63,64] (bI Tryz.func248 (rI fu x38 pa0 _ z39)) (dI (hg:=aZ g36) [65] gT (dI [61,66] (b5 g36) (dN ?_)))))
 refine bA H (fun h41 H=>?_) (fun h41 H=>?_)
 ·refine qS (qR (q1 (f6 AN VV) (q1 (bU yZ) (q1 aF (qN (aP.ret ?_))))))
  obtain rfl:_=r:=(aY H:)
  exact lB (hr:=⟨⟨_,_,_,rfl,rfl,pJ,rfl,rfl⟩,rfl,trivial⟩)
 refine aP.skip (qS (qR (q1 (cV [pS x2.gAtom,rS x6,fO x10,R3 v23 0,pI x14.gKind,pS x14.gName,a4 x14.gArgs,pI x18.gKind,pS x18.gTrait,pS x18.gName,pI x18.gN,pI x18.gType.gKind,pS x18.gType.gName,a4 x18.gType.gArgs,gQ x18.gArgs,oM x18.gArms] pJ) (q1 (bU yZ) (q1 aF (qN (aP.ret ?_)))))))
 obtain rfl:_=r:=(aY H:)
 exact lB (hr:=⟨⟨_,_,_,rfl,rfl,pJ,rfl,rfl⟩,rfl,trivial⟩)
end
end Go.Proofs.YtpioomclpaiomaaGreat.W
