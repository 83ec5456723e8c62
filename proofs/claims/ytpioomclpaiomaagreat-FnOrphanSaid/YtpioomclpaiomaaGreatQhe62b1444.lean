/- Words, rules and walks of several kinds, laid together: MaP3, MaP4, MaP5. No conditions but those that each theorem states. -/
import Derived.Test.YtpioomclpaiomaaGreatQh23a14147
import Derived.Test.YtpioomclpaiomaaGreatQh484d5f53
import Derived.Test.YtpioomclpaiomaaGreatQh5e29f3dd
set_option linter.unusedSimpArgs false
set_option linter.unusedVariables false
namespace Go.Proofs.YtpioomclpaiomaaGreat.W
set_option maxRecDepth 100000
set_option maxHeartbeats 40000000
noncomputable section
open Go.RowKit Go.Proofs
set_option linter.unusedSimpArgs false
set_option linter.unusedVariables false
attribute [local irreducible] lt
def RB(m:Int→Option ByteArray):Prop:= ∀(pn:Int) (r:ByteArray),m pn=some r→cH Tryz.prog 281 [pI pn] (pS r:PV)
def DQ(fu:Nat)(pn:Int):(Int×ByteArray)→Option (LR (Int×ByteArray) ByteArray):=
 fun(v2,v3)=>sw (!decide ((v2:Int)=0))
 (sw (decide (((v2).tmod 10:Int)<0))
 (gd ((bytesStr ([(AW (aQ (48+(aQ (0-((v2).tmod 10))))))]:List UInt8)).size+(v3).size≤1099511627776)
 (some (.next ((aQ ((v2).tdiv 10)),((bytesStr ([(AW (aQ (48+(aQ (0-((v2).tmod 10))))))]:List UInt8))++v3)))))
 (gd ((bytesStr ([(AW (aQ (48+((v2).tmod 10))))]:List UInt8)).size+(v3).size≤1099511627776)
 (some (.next ((aQ ((v2).tdiv 10)),((bytesStr ([(AW (aQ (48+((v2).tmod 10))))]:List UInt8))++v3))))))
 (some (.brk (v2,v3)))
def DO(fu:Nat)(pn:Int):Option (ByteArray⊕(Int×ByteArray)):=
 loopW (DQ fu pn) fu (pn,s_)
def l7(fu:Nat)(pn:Int):Option ByteArray:=
 sw (decide ((pn:Int)=0))
 (some s_0)
 (so (DO fu pn) (fun(v2,v3)=>
 sw (decide ((pn:Int)<0))
 (gd ((zY).size+(v3).size≤1099511627776)
 (some (zY++v3)))
 (some v3)))
theorem wC(fu:Nat):RB (l7 fu):=by
 intro pn r H
 have H:=fC H
 refine qI Tryz.func281 (fun C hC=>?_)
 refine qS (qR (q1 aF (qN ?_)))
 iterate 2 refine qS ?_
 refine qR (q1 aF (q1 dP (qN ?_)))
 refine a9 H (fun h1 H=>?_) (fun h1 H=>?_)
 ·refine qS (qR (q1 aF (qN (aO.ret ?_))))
  obtain rfl:_=r:=(aY H:)
  exact bN
 refine aO.skip (qS (qR (q1 aF (q1 gU (q1 aF (qN (qS (qR (q1 aF (qN (qS ?_)))))))))))
 refine J6 (σ:=Int×ByteArray) (fun(v2,v3)=>⟨[(0,pI v2),(2,pS s_),(3,pB (decide ((pn:Int)<0))),(4,pS v3)],⟨[],[]⟩⟩) (fun(v2,v3)=>⟨[(2,pS s_),(3,pB (decide ((pn:Int)<0))),(4,pS v3)],⟨[],[]⟩⟩) (f9 H) ?_ ?_
 ·rintro k4 ⟨v2,v3⟩ H
  iterate 2 refine qS ?_
  refine qR (q1 aF (q1 QI (qN ?_)))
  refine a9 H (fun h5 H=>?_) (fun h5 H=>?_)
  ·refine aO.skip (aO.block (qS (qR (q1 aF (q1 (aW.remI (a:=v2) (b:=10) rfl rfl rfl rfl (by decide)) (q1 aF (qN ?_)))))))
   iterate 2 refine qS ?_
   refine qR (q1 aF (q1 gU (qN ?_)))
   refine a9 H (fun h6 H=>?_) (fun h6 H=>?_)
   ·refine qR (q1 aF (q1 zZ (q1 aF (qN (qS (qR (q1 aF (q1 LQ (q1 (aW.convU8 (a:=aQ (48+(aQ (0-((v2).tmod 10))))) rfl rfl rfl ⟨_,Tryz.underlying3⟩ Tryz.underlying5) (q1 (iI ([(AW (aQ (48+(aQ (0-((v2).tmod 10))))))]:List UInt8) U7 zr5) (q1 (aW.bytesStr rfl rfl rfl rfl Tryz.underlying22 Tryz.underlying5 Tryz.underlying9) (q1 aF (dK H fun z7 H=>?_)))))))))))))
    refine q1 (aW.addS rfl rfl rfl rfl (Nat.le_trans z7 (by decide))) (q1 aF (qN (qR (q1 aF (q1 (aW.quoI (a:=v2) (b:=10) rfl rfl rfl rfl (by decide)) (q1 aF (qN ?_)))))))
    exact lwN ⟨_,(aY H:),bZ⟩
   refine aO.skip (qS (qR (q1 aF (q1 LQ (q1 (aW.convU8 (a:=aQ (48+((v2).tmod 10))) rfl rfl rfl ⟨_,Tryz.underlying3⟩ Tryz.underlying5) (q1 (iI ([(AW (aQ (48+((v2).tmod 10))))]:List UInt8) U7 zr5) (q1 (aW.bytesStr rfl rfl rfl rfl Tryz.underlying22 Tryz.underlying5 Tryz.underlying9) (q1 aF (dK H fun z8 H=>(q1 (aW.addS rfl rfl rfl rfl (Nat.le_trans z8 (by decide))) (q1 aF (qN (qR ?_)))))))))))))
   refine q1 aF (q1 (aW.quoI (a:=v2) (b:=10) rfl rfl rfl rfl (by decide)) (q1 aF (qN ?_)))
   exact lwN ⟨_,(aY H:),bZ⟩
  refine aO.exit ?_;exact lwB ⟨_,(aY H:),bZ⟩
 rintro⟨v2,v3⟩ H
 iterate 2 refine qS ?_
 refine qR (q1 aF (qN ?_))
 refine a9 H (fun h9 H=>?_) (fun h9 H=>?_)
 ·refine qS (qR (q1 aF (dK H fun z10 H=>(q1 (aW.addS rfl rfl rfl rfl (Nat.le_trans z10 (by decide))) (q1 aF (qN (aO.ret ?_)))))))
  obtain rfl:_=r:=(aY H:)
  exact bN
 refine aO.skip (qS (qR ?_))
 iterate 2 refine q1 aF ?_
 refine qN (aO.ret ?_)
 obtain rfl:_=r:=(aY H:)
 exact bN
def ac4(m:ByteArray→Int→Option (Int×Bool)):Prop:= ∀(ps:ByteArray) (pmost:Int) (r:Int×Bool),m ps pmost=some r→cH Tryz.prog 279 [pS ps,pI pmost] (.tup [pI r.1,pB r.2]:PV)
def N2(fu:Nat)(ps:ByteArray)(pmost:Int):Option ((Int×Bool)⊕ByteArray):=
 sw (decide ((((y2 ps 0).toNat:Int):Int)=45))
 (gd ((0:Int)≤1∧(1:Int)≤((ps.size:Nat):Int)∧(((ps.size:Nat):Int):Int)≤((ps.size:Nat):Int))
 (some (.inr (ps.extract (1:Int).toNat (((ps.size:Nat):Int):Int).toNat))))
 (some (.inr ps))
def MQ(fu:Nat)(ps:ByteArray)(pmost:Int)(v3:ByteArray):Nat→Int→Option (LR Int (Int×Bool)):=
 fun i8 v9=>gd (i8<(v3).size)
 (sw (decide ((((y2 v3 i8).toNat:Int):Int)<48))
 (some (.ret (0,false)))
 (sw (decide ((((y2 v3 i8).toNat:Int):Int)>57))
 (some (.ret (0,false)))
 (some (.next (aQ ((aQ (10*v9))+((AW (((y2 v3 i8).toNat:Int)-48)).toNat:Int)))))))
def ME(fu:Nat)(ps:ByteArray)(pmost:Int)(v3:ByteArray):Option ((Int×Bool)⊕Int):=
 loopN (MQ fu ps pmost v3) (v3.size-0) 0 0
def NX(fu:Nat)(ps:ByteArray)(pmost:Int)(v3:ByteArray)(v9:Int):Option ((Int×Bool)⊕Int):=
 sw (decide ((((y2 ps 0).toNat:Int):Int)=45))
 (some (.inr (aQ (0-v9))))
 (some (.inr v9))
def MR(fu:Nat)(ps:ByteArray)(pmost:Int):Nat→Int→Option (LR Int (Int×Bool)):=
 fun i22 v23=>gd (i22<(ps).size)
 (sw (decide ((((y2 ps i22).toNat:Int):Int)<48))
 (some (.ret (0,false)))
 (sw (decide ((((y2 ps i22).toNat:Int):Int)>57))
 (some (.ret (0,false)))
 (some (.next (aQ ((aQ (10*v23))+((AW (((y2 ps i22).toNat:Int)-48)).toNat:Int)))))))
def NA(fu:Nat)(ps:ByteArray)(pmost:Int):Option ((Int×Bool)⊕Int):=
 loopN (MR fu ps pmost) (ps.size-0) 0 0
def IM(fu:Nat)(ps:ByteArray)(pmost:Int):Option (Int×Bool):=
 sw (decide ((((ps.size:Nat):Int):Int)>0))
 (gd (0<(ps).size)
 (so (N2 fu ps pmost) (fun v3=>
 sw (decide ((((v3.size:Nat):Int):Int)<1))
 (some (0,false))
 (sw (decide ((((v3.size:Nat):Int):Int)>pmost))
 (some (0,false))
 (so (ME fu ps pmost v3) (fun v9=>
 so (NX fu ps pmost v3 v9) (fun v15=>
 bd (l7 fu v15) (fun x18=>
 sw (!decide (x18=ps))
 (some (0,false))
 (some (v15,true))))))))))
 (sw (decide ((((ps.size:Nat):Int):Int)<1))
 (some (0,false))
 (sw (decide ((((ps.size:Nat):Int):Int)>pmost))
 (some (0,false))
 (so (NA fu ps pmost) (fun v23=>
 bd (l7 fu v23) (fun x30=>
 sw (!decide (x30=ps))
 (some (0,false))
 (some (v23,true)))))))
theorem aaJ(fu:Nat):ac4 (IM fu):=by
 intro ps pmost r H
 have H:=fC H
 refine qI Tryz.func279 (fun C hC=>?_)
 refine qS (qR ?_)
 iterate 2 refine q1 aF ?_
 refine qN (qS (qR (q1 aF (q1 (aW.lenS rfl rfl rfl Tryz.underlying9) (q1 HB (q1 aF ?_))))))
 refine dY 13 H (fun g1 H=>?_) fun g1 H=>?_
 ·refine qg g1 aF (dK H fun z2 H=>(qg g1 (aW.indexS (k:=0) rfl rfl rfl rfl z2 Tryz.underlying9) (qg g1 dP (q1 (bS g1) (q1 aF (qN (qS (qR ?_))))))))
  iterate 2 refine q1 aF ?_
  refine qN (qS ?_)
  refine oM (σ:=ByteArray) (fun v3=>⟨[(0,pS ps),(1,pI pmost),(4,pI 0),(5,pB false),(6,pB (decide ((((y2 ps 0).toNat:Int):Int)=45))),(7,pS v3)],⟨[],[]⟩⟩) (f9 H) (fun H=>?_) ?_
  ·refine qS (qR (q1 aF (qN ?_)))
   refine a9 H (fun h4 H=>?_) (fun h4 H=>?_)
   ·refine qR (q1 aF (dK H fun z5 H=>(q1 (aW.sliceS (l:=1) (k:=((ps.size:Nat):Int)) rfl rfl rfl rfl rfl z5 Tryz.underlying9) (q1 aF (qN ?_)))))
    exact dH ⟨_,(aY H:),bZ⟩
   refine aO.skip ?_;exact dH ⟨_,(aY H:),bZ⟩
  rintro v3 H
  iterate 2 refine qS ?_
  refine qR (q1 aF (q1 (aW.lenS rfl rfl rfl Tryz.underlying9) (q1 gU (q1 aF ?_))))
  refine dY 25 H (fun g6 H=>?_) fun g6 H=>?_
  ·have g6n:v3.size<1:=by have:=of_decide_eq_true g6;omega
   iterate 4 refine qk g6 ?_
   refine q1 (bS g6) (qN (dT rfl (qS (qR ?_))))
   iterate 2 refine q1 aF ?_
   refine qN (aO.ret ?_)
   obtain rfl:_=r:=(aY H:)
   exact rA
  refine qg g6 aF (qg g6 (aW.lenS rfl rfl rfl Tryz.underlying9) (qg g6 aF (qg g6 HB (q1 (b4 g6) (qN ?_)))))
  refine a9 H (fun h7 H=>?_) (fun h7 H=>?_)
  ·refine qS (qR ?_)
   iterate 2 refine q1 aF ?_
   refine qN (aO.ret ?_)
   obtain rfl:_=r:=(aY H:)
   exact rA
  refine aO.skip (qS (qR (q1 aF (qN ?_))))
  iterate 2 refine qS ?_
  refine qR (q1 aF (qN ?_))
  refine szF 7 (fun hl10=>?_)
  refine cG (σ:=Int) (fun i8 v9=>⟨[(0,pS ps),(4,pI 0),(5,pB false),(6,pB (decide ((((y2 ps 0).toNat:Int):Int)=45))),(7,pS v3),(8,pI v9),(9,pN i8)],⟨[],[]⟩⟩) (fun v9=>⟨[(0,pS ps),(4,pI 0),(5,pB false),(6,pB (decide ((((y2 ps 0).toNat:Int):Int)=45))),(8,pI v9)],⟨[],[]⟩⟩) (f9 H) ?_ ?_
  ·rintro i8 v9 H
   iterate 2 refine qS ?_
   refine qR ?_
   iterate 2 refine q1 aF ?_
   refine q1 (aW.lenS rfl rfl rfl Tryz.underlying9) (q1 gU (qN ?_))
   refine eJ H (fun h11 h11l H=>?_) (fun h11 H=>?_)
   ·have h11n:i8<v3.size:=by have:=of_decide_eq_true h11;omega
    refine aO.skip (qS (aO.block ?_))
    iterate 2 refine qS ?_
    refine qR ?_
    iterate 2 refine q1 aF ?_
    refine dK H fun z12 H=>(q1 (aW.indexS (k:=i8) rfl rfl rfl rfl z12 Tryz.underlying9) (q1 gU (q1 aF ?_)))
    refine dY 41 H (fun g13 H=>?_) fun g13 H=>?_
    ·refine qk g13 ?_
     iterate 3 refine qk g13 ?_
     refine q1 (bS g13) (qN (dT rfl (qS (qR ?_))))
     iterate 2 refine q1 aF ?_
     refine qN (aO.ret ?_)
     obtain rfl:_=r:=(pY (aY H):)
     exact rA
    iterate 2 refine qg g13 aF ?_
    refine qg g13 (aW.indexS (k:=i8) rfl rfl rfl rfl z12 Tryz.underlying9) (qg g13 HB (q1 (b4 g13) (qN ?_)))
    refine a9 H (fun h14 H=>?_) (fun h14 H=>?_)
    ·refine qS (qR ?_)
     iterate 2 refine q1 aF ?_
     refine qN (aO.ret ?_)
     obtain rfl:_=r:=(pY (aY H):)
     exact rA
    refine aO.skip (qR (q1 aF (q1 (aW.mulW rfl rfl rfl rfl) ?_)))
    iterate 2 refine q1 aF ?_
    refine q1 (aW.indexS (k:=i8) rfl rfl rfl rfl z12 Tryz.underlying9) (q1 (aW.subU8 rfl rfl rfl rfl) ?_)
    refine q1 (aW.convI rfl rfl rfl ⟨_,Tryz.underlying5⟩ Tryz.underlying3 (by first|omega|(have:=UInt8.toNat_lt (AW (((y2 v3 i8).toNat:Int)-48));omega)) (by first|omega|(have:=UInt8.toNat_lt (AW (((y2 v3 i8).toNat:Int)-48));omega))) ?_;refine q1 LQ (q1 aF (qN (qR (q1 aF (q1 (aW.addI rfl rfl rfl rfl (c:=((i8+1:Nat):Int)) (by omega) (by omega)) (q1 aF (qN ?_)))))))
    exact jA h11l ⟨_,(aY H:),bZ⟩
   refine aO.exit ?_;exact k7 ⟨_,H,bZ⟩
  rintro v9 H
  refine qS ?_;refine oM (σ:=Int) (fun v15=>⟨[(0,pS ps),(4,pI 0),(5,pB false),(8,pI v15)],⟨[],[]⟩⟩) (f9 H) (fun H=>?_) ?_
  ·refine qS (qR (q1 aF (qN ?_)))
   refine a9 H (fun h16 H=>?_) (fun h16 H=>?_)
   ·refine qR (q1 aF (q1 zZ (q1 aF (qN ?_))))
    exact dH ⟨_,(aY H:),bZ⟩
   refine aO.skip ?_;exact dH ⟨_,(aY H:),bZ⟩
  rintro v15 H
  iterate 2 refine qS ?_
  refine qR (q1 aF (bO H fun x18 z17 H=>(q1 (bJ Tryz.func281 (wC fu v15 _ z17)) (q1 aF (q1 O9 (qN ?_))))))
  refine a9 H (fun h19 H=>?_) (fun h19 H=>?_)
  ·refine qS (qR ?_)
   iterate 2 refine q1 aF ?_
   refine qN (aO.ret ?_)
   obtain rfl:_=r:=(aY H:)
   exact rA
  refine aO.skip (qS (qR ?_))
  iterate 3 refine q1 aF ?_
  refine qN (aO.ret ?_)
  obtain rfl:_=r:=(aY H:)
  exact rA
 iterate 3 refine qk g1 ?_
 refine q1 (b4 g1) (q1 aF (qN (qS (qR ?_))))
 iterate 2 refine q1 aF ?_
 refine qN ?_
 iterate 2 refine qS ?_
 refine qR (q1 aF (qN (kL rfl (aO.skip ?_))))
 iterate 2 refine qS ?_
 refine qR (q1 aF (q1 (aW.lenS rfl rfl rfl Tryz.underlying9) (q1 gU (q1 aF ?_))))
 refine dY 25 H (fun g20 H=>?_) fun g20 H=>?_
 ·have g20n:ps.size<1:=by have:=of_decide_eq_true g20;omega
  iterate 4 refine qk g20 ?_
  refine q1 (bS g20) (qN (dT rfl (qS (qR ?_))))
  iterate 2 refine q1 aF ?_
  refine qN (aO.ret ?_)
  obtain rfl:_=r:=(aY H:)
  exact rA
 refine qg g20 aF (qg g20 (aW.lenS rfl rfl rfl Tryz.underlying9) (qg g20 aF (qg g20 HB (q1 (b4 g20) (qN ?_)))))
 refine a9 H (fun h21 H=>?_) (fun h21 H=>?_)
 ·refine qS (qR ?_)
  iterate 2 refine q1 aF ?_
  refine qN (aO.ret ?_)
  obtain rfl:_=r:=(aY H:)
  exact rA
 refine aO.skip (qS (qR (q1 aF (qN ?_))))
 iterate 2 refine qS ?_
 refine qR (q1 aF (qN ?_))
 refine szF 0 (fun hl24=>?_)
 refine cG (σ:=Int) (fun i22 v23=>⟨[(0,pS ps),(4,pI 0),(5,pB false),(6,pB false),(7,pS ps),(8,pI v23),(9,pN i22)],⟨[],[]⟩⟩) (fun v23=>⟨[(0,pS ps),(4,pI 0),(5,pB false),(6,pB false),(8,pI v23)],⟨[],[]⟩⟩) (f9 H) ?_ ?_
 ·rintro i22 v23 H
  iterate 2 refine qS ?_
  refine qR ?_
  iterate 2 refine q1 aF ?_
  refine q1 (aW.lenS rfl rfl rfl Tryz.underlying9) (q1 gU (qN ?_))
  refine eJ H (fun h25 h25l H=>?_) (fun h25 H=>?_)
  ·have h25n:i22<ps.size:=by have:=of_decide_eq_true h25;omega
   refine aO.skip (qS (aO.block ?_))
   iterate 2 refine qS ?_
   refine qR ?_
   iterate 2 refine q1 aF ?_
   refine dK H fun z26 H=>(q1 (aW.indexS (k:=i22) rfl rfl rfl rfl z26 Tryz.underlying9) (q1 gU (q1 aF ?_)))
   refine dY 41 H (fun g27 H=>?_) fun g27 H=>?_
   ·refine qk g27 ?_
    iterate 3 refine qk g27 ?_
    refine q1 (bS g27) (qN (dT rfl (qS (qR ?_))))
    iterate 2 refine q1 aF ?_
    refine qN (aO.ret ?_)
    obtain rfl:_=r:=(pY (aY H):)
    exact rA
   iterate 2 refine qg g27 aF ?_
   refine qg g27 (aW.indexS (k:=i22) rfl rfl rfl rfl z26 Tryz.underlying9) (qg g27 HB (q1 (b4 g27) (qN ?_)))
   refine a9 H (fun h28 H=>?_) (fun h28 H=>?_)
   ·refine qS (qR ?_)
    iterate 2 refine q1 aF ?_
    refine qN (aO.ret ?_)
    obtain rfl:_=r:=(pY (aY H):)
    exact rA
   refine aO.skip (qR (q1 aF (q1 (aW.mulW rfl rfl rfl rfl) ?_)))
   iterate 2 refine q1 aF ?_
   refine q1 (aW.indexS (k:=i22) rfl rfl rfl rfl z26 Tryz.underlying9) (q1 (aW.subU8 rfl rfl rfl rfl) ?_)
   refine q1 (aW.convI rfl rfl rfl ⟨_,Tryz.underlying5⟩ Tryz.underlying3 (by first|omega|(have:=UInt8.toNat_lt (AW (((y2 ps i22).toNat:Int)-48));omega)) (by first|omega|(have:=UInt8.toNat_lt (AW (((y2 ps i22).toNat:Int)-48));omega))) ?_;refine q1 LQ (q1 aF (qN (qR (q1 aF (q1 (aW.addI rfl rfl rfl rfl (c:=((i22+1:Nat):Int)) (by omega) (by omega)) (q1 aF (qN ?_)))))))
   exact jA h25l ⟨_,(aY H:),bZ⟩
  refine aO.exit ?_;exact k7 ⟨_,H,bZ⟩
 rintro v23 H
 iterate 2 refine qS ?_
 refine qR (q1 aF (qN (kL rfl (aO.skip ?_))))
 iterate 2 refine qS ?_
 refine qR (q1 aF (bO H fun x30 z29 H=>(q1 (bJ Tryz.func281 (wC fu v23 _ z29)) (q1 aF (q1 O9 (qN ?_))))))
 refine a9 H (fun h31 H=>?_) (fun h31 H=>?_)
 ·refine qS (qR ?_)
  iterate 2 refine q1 aF ?_
  refine qN (aO.ret ?_)
  obtain rfl:_=r:=(aY H:)
  exact rA
 refine aO.skip (qS (qR ?_))
 iterate 3 refine q1 aF ?_
 refine qN (aO.ret ?_)
 obtain rfl:_=r:=(aY H:)
 exact rA
def VI(m:ByteArray→Option (Int×Bool)):Prop:= ∀(ps:ByteArray) (r:Int×Bool),m ps=some r→cH Tryz.prog 262 [pS ps] (.tup [pI r.1,pB r.2]:PV)
def vY(fu:Nat)(ps:ByteArray):Option (Int×Bool):=
 bd (IM fu ps 12) (fun(x2,x3)=>
 some (x2,x3))
theorem SS(fu:Nat):VI (vY fu):=by
 intro ps r H
 have H:=fC H
 refine qI Tryz.func262 (fun C hC=>?_)
 refine qS (qR ?_)
 iterate 2 refine q1 aF ?_
 refine qN (qS (qR (q1 aF (f8 H fun x2 x3 z1 H=>(q1 (bJ Tryz.func279 (aaJ fu ps 12 _ z1)) ?_)))))
 iterate 2 refine q1 KJ ?_
 iterate 2 refine q1 aF ?_
 refine qN (aO.ret ?_)
 obtain rfl:_=r:=(aY H:)
 exact rA
def acA(m:Int→Option aG):Prop:= ∀(pn:Int) (r:aG),m pn=some r→cH Tryz.prog 159 [pI pn] ((aG.pv r):PV)
def qD(fu:Nat)(pn:Int):Option aG:=
 some (aG.mk 1 s_ s_ pn (aB.mk 0 s_ []) [] [])
theorem rW(fu:Nat):acA (qD fu):=by
 intro pn r H
 have H:=fC H
 refine qI Tryz.func159 (fun C hC=>?_)
 refine qS (qR (q1 (hH jD) (qN (qS (qR (q1 aF (q1 (fM jD vA) (q1 (bV nH) (qN (aO.ret ?_))))))))))
 obtain rfl:_=r:=(aY H:)
 exact bN (hr:=⟨⟨_,_,_,rfl,rfl,gC,rfl,rfl⟩,trivial⟩)
def abN(m:ByteArray→Option aG):Prop:= ∀(ps:ByteArray) (r:aG),m ps=some r→cH Tryz.prog 157 [pS ps] ((aG.pv r):PV)
def rX(fu:Nat)(ps:ByteArray):Option aG:=
 some (aG.mk 3 s_ ps 0 (aB.mk 0 s_ []) [] [])
theorem vB(fu:Nat):abN (rX fu):=by
 intro ps r H
 have H:=fC H
 refine qI Tryz.func157 (fun C hC=>?_)
 refine qS (qR (q1 (hH jD) (qN (qS (qR (q1 aF (q1 (fM jD vA) (q1 (bV nH) (qN (aO.ret ?_))))))))))
 obtain rfl:_=r:=(aY H:)
 exact bN (hr:=⟨⟨_,_,_,rfl,rfl,gC,rfl,rfl⟩,trivial⟩)
def ad4(m:Int→Int→Option Int):Prop:= ∀(pa:Int) (pb:Int) (r:Int),m pa pb=some r→cH Tryz.prog 261 [pI pa,pI pb] (pI r:PV)
def nO(fu:Nat)(pa pb:Int):Option Int:=
 sw (decide ((pa:Int)<pb))
 (some pa)
 (some pb)
theorem n8(fu:Nat):ad4 (nO fu):=by
 intro pa pb r H
 have H:=fC H
 refine qI Tryz.func261 (fun C hC=>?_)
 refine qS (qR (q1 aF (qN ?_)))
 iterate 2 refine qS ?_
 refine qR ?_
 iterate 2 refine q1 aF ?_
 refine q1 gU (qN ?_)
 refine a9 H (fun h1 H=>?_) (fun h1 H=>?_)
 ·refine qS (qR ?_)
  iterate 2 refine q1 aF ?_
  refine qN (aO.ret ?_)
  obtain rfl:_=r:=(aY H:)
  exact bN
 refine aO.skip (qS (qR ?_))
 iterate 2 refine q1 aF ?_
 refine qN (aO.ret ?_)
 obtain rfl:_=r:=(aY H:)
 exact bN
abbrev gB:=aA→Option aG
abbrev fH:=(List aA)→Option ((List aG))
abbrev hP:=aA→Option bC
def rF(m:gB):Prop:= ∀(pa0:aA) (r:aG),m pa0=some r→cH Tryz.prog 247 [(aA.pv pa0)] ((aG.pv r):PV)
def tB(m:fH):Prop:= ∀(plist:List aA) (r:(List aG)),m plist=some r→cH Tryz.prog 263 [a8 plist] (fD r:PV)
def xL(m:hP):Prop:= ∀(px:aA) (r:bC),m px=some r→cH Tryz.prog 264 [(aA.pv px)] ((bC.pv r):PV)
def WM(fu:Nat)(r_sl12Expr:gB)(r_sl12Exprs:fH)(r_sl12Arm:hP)(pa0 y15 y18:aA)(x67:Int)(x70:List aG):Nat→((List bC))→Option (LR ((List bC)) aG):=
 fun i71 v73=>bd (r_sl12Arm (a5 pa0.gList i71)) (fun x77=>
 gd ((v73).length+(([x77]:List bC)).length≤68719476736)
 (some (.next (v73++([x77]:List bC)))))
def T9(fu:Nat)(r_sl12Expr:gB)(r_sl12Exprs:fH)(r_sl12Arm:hP)(pa0 y15 y18:aA)(x67:Int)(x70:List aG):Option (aG⊕((List bC))):=
 loopN (WM fu r_sl12Expr r_sl12Exprs r_sl12Arm pa0 y15 y18 x67 x70) (pa0.gList.length-2) 2 ([])
def DZ(fu:Nat)(r_sl12Expr:gB)(r_sl12Exprs:fH)(r_sl12Arm:hP)(pa0:aA):Option aG:=
 sw (!decide (pa0.gAtom=s_))
 (bd (vY fu pa0.gAtom) (fun(x3,x4)=>
 sw (x4)
 (bd (qD fu x3) (fun x7=>
 some x7))
 (sw (decide (pa0.gAtom=nC))
 (some (aG.mk 2 s_ s_ 1 (aB.mk 0 s_ []) [] []))
 (sw (decide (pa0.gAtom=jX))
 (some (aG.mk 2 s_ s_ 0 (aB.mk 0 s_ []) [] []))
 (bd (rX fu pa0.gAtom) (fun x11=>
 some x11))))))
 (gd (([]:List aA).length+(pa0.gList).length≤68719476736)
 (gd ((([])++pa0.gList).length+(([(aA.mk s_ []),(aA.mk s_ []),(aA.mk s_ [])]:List aA)).length≤68719476736)
 (gd (1<((([])++pa0.gList)++([(aA.mk s_ []),(aA.mk s_ []),(aA.mk s_ [])]:List aA)).length)
 (lt (a5 ((([])++pa0.gList)++([(aA.mk s_ []),(aA.mk s_ []),(aA.mk s_ [])]:List aA)) 1) (fun y15=>
 gd (0<((([])++pa0.gList)++([(aA.mk s_ []),(aA.mk s_ []),(aA.mk s_ [])]:List aA)).length)
 (lt (a5 ((([])++pa0.gList)++([(aA.mk s_ []),(aA.mk s_ []),(aA.mk s_ [])]:List aA)) 0) (fun y18=>
 sw (decide (y18.gAtom=I4))
 (bd (nO fu 2 ((pa0.gList.length:Nat):Int)) (fun x22=>
 gd ((0:Int)≤x22∧(x22:Int)≤((pa0.gList.length:Nat):Int)∧(((pa0.gList.length:Nat):Int):Int)≤((pa0.gList.length:Nat):Int))
 (bd (r_sl12Exprs (List.drop (x22:Int).toNat (List.take (((pa0.gList.length:Nat):Int):Int).toNat pa0.gList))) (fun x25=>
 some (aG.mk 4 s_ y15.gAtom 0 (aB.mk 0 s_ []) x25 [])))))
 (sw (decide (y18.gAtom=mM))
 (gd (2<((([])++pa0.gList)++([(aA.mk s_ []),(aA.mk s_ []),(aA.mk s_ [])]:List aA)).length)
 (lt (a5 ((([])++pa0.gList)++([(aA.mk s_ []),(aA.mk s_ []),(aA.mk s_ [])]:List aA)) 2) (fun y28=>
 bd (nO fu 3 ((pa0.gList.length:Nat):Int)) (fun x31=>
 gd ((0:Int)≤x31∧(x31:Int)≤((pa0.gList.length:Nat):Int)∧(((pa0.gList.length:Nat):Int):Int)≤((pa0.gList.length:Nat):Int))
 (bd (r_sl12Exprs (List.drop (x31:Int).toNat (List.take (((pa0.gList.length:Nat):Int):Int).toNat pa0.gList))) (fun x34=>
 some (aG.mk 5 y15.gAtom y28.gAtom 0 (aB.mk 0 s_ []) x34 [])))))))
 (sw (decide (y18.gAtom=zJ))
 (bd (nO fu 2 ((pa0.gList.length:Nat):Int)) (fun x37=>
 gd ((0:Int)≤x37∧(x37:Int)≤((pa0.gList.length:Nat):Int)∧(((pa0.gList.length:Nat):Int):Int)≤((pa0.gList.length:Nat):Int))
 (bd (r_sl12Exprs (List.drop (x37:Int).toNat (List.take (((pa0.gList.length:Nat):Int):Int).toNat pa0.gList))) (fun x40=>
 some (aG.mk 6 s_ y15.gAtom 0 (aB.mk 0 s_ []) x40 [])))))
 (sw (decide (y18.gAtom=zK))
 (bd (nO fu 2 ((pa0.gList.length:Nat):Int)) (fun x43=>
 gd ((0:Int)≤x43∧(x43:Int)≤((pa0.gList.length:Nat):Int)∧(((pa0.gList.length:Nat):Int):Int)≤((pa0.gList.length:Nat):Int))
 (bd (r_sl12Exprs (List.drop (x43:Int).toNat (List.take (((pa0.gList.length:Nat):Int):Int).toNat pa0.gList))) (fun x46=>
 some (aG.mk 8 s_ y15.gAtom 0 (aB.mk 0 s_ []) x46 [])))))
 (sw (decide (y18.gAtom=y1))
 (gd ((0:Int)≤1∧(1:Int)≤((pa0.gList.length:Nat):Int)∧(((pa0.gList.length:Nat):Int):Int)≤((pa0.gList.length:Nat):Int))
 (bd (r_sl12Exprs (List.drop (1:Int).toNat (List.take (((pa0.gList.length:Nat):Int):Int).toNat pa0.gList))) (fun x50=>
 some (aG.mk 9 s_ s_ 0 (aB.mk 0 s_ []) x50 []))))
 (sw (decide (y18.gAtom=tP))
 (bd (nO fu 2 ((pa0.gList.length:Nat):Int)) (fun x53=>
 gd ((0:Int)≤x53∧(x53:Int)≤((pa0.gList.length:Nat):Int)∧(((pa0.gList.length:Nat):Int):Int)≤((pa0.gList.length:Nat):Int))
 (bd (r_sl12Exprs (List.drop (x53:Int).toNat (List.take (((pa0.gList.length:Nat):Int):Int).toNat pa0.gList))) (fun x56=>
 some (aG.mk 11 y15.gAtom s_ 0 (aB.mk 0 s_ []) x56 [])))))
 (sw (decide (y18.gAtom=QJ))
 (bd (kM fu y15) (fun x59=>
 bd (nO fu 2 ((pa0.gList.length:Nat):Int)) (fun x61=>
 gd ((0:Int)≤x61∧(x61:Int)≤((pa0.gList.length:Nat):Int)∧(((pa0.gList.length:Nat):Int):Int)≤((pa0.gList.length:Nat):Int))
 (bd (r_sl12Exprs (List.drop (x61:Int).toNat (List.take (((pa0.gList.length:Nat):Int):Int).toNat pa0.gList))) (fun x64=>
 some (aG.mk 12 s_ s_ 0 x59 x64 []))))))
 (sw (decide (y18.gAtom=tC))
 (bd (nO fu 2 ((pa0.gList.length:Nat):Int)) (fun x67=>
 gd ((0:Int)≤1∧(1:Int)≤x67∧(x67:Int)≤((pa0.gList.length:Nat):Int))
 (bd (r_sl12Exprs (List.drop (1:Int).toNat (List.take (x67:Int).toNat pa0.gList))) (fun x70=>
 so (T9 fu r_sl12Expr r_sl12Exprs r_sl12Arm pa0 y15 y18 x67 x70) (fun v73=>
 some (aG.mk 7 s_ s_ 0 (aB.mk 0 s_ []) x70 v73))))))
 (bd (nO fu 1 ((pa0.gList.length:Nat):Int)) (fun x80=>
 gd ((0:Int)≤x80∧(x80:Int)≤((pa0.gList.length:Nat):Int)∧(((pa0.gList.length:Nat):Int):Int)≤((pa0.gList.length:Nat):Int))
 (bd (r_sl12Exprs (List.drop (x80:Int).toNat (List.take (((pa0.gList.length:Nat):Int):Int).toNat pa0.gList))) (fun x83=>
 some (aG.mk 10 s_ y18.gAtom 0 (aB.mk 0 s_ []) x83 [])))))))))))))))))))
theorem N7(fu:Nat)(r_sl12Expr:gB)(r_sl12Exprs:fH)(r_sl12Arm:hP)(h_sl12Expr:rF r_sl12Expr)(h_sl12Exprs:tB r_sl12Exprs)(h_sl12Arm:xL r_sl12Arm):rF (DZ fu r_sl12Expr r_sl12Exprs r_sl12Arm):=by
 intro pa0 r H
 have H:=fC H
 refine qI Tryz.func247 (fun C hC=>?_)
 refine qS (qR (q1 (lA ([pS pa0.gAtom,a8 pa0.gList])) (q1 (hH jD) (qN ?_))))
 iterate 2 refine qS ?_
 refine qR (q1 (aZ eS) (q1 (bB e8) (q1 O9 (qN ?_))))
 refine a9 H (fun h1 H=>?_) (fun h1 H=>?_)
 ·refine qS (qR (q1 (aZ eS) (q1 (bB e8) (f8 H fun x3 x4 z2 H=>(q1 (bJ Tryz.func262 (SS fu pa0.gAtom _ z2)) (q1 aF ?_))))))
  iterate 2 refine q1 KJ ?_
  iterate 2 refine q1 aF ?_
  refine qN (qS (aO.block (qS (qR ?_))))
  iterate 2 refine q1 aF ?_
  refine qN ?_;refine a9 H (fun h5 H=>?_) (fun h5 H=>?_)
  ·refine qS (qR (q1 aF (bO H fun x7 z6 H=>(q1 (bJ Tryz.func159 (rW fu x3 _ z6)) (q1 (bV nH) (qN (aO.ret ?_)))))))
   obtain rfl:_=r:=(aY H:)
   exact bN (hr:=⟨⟨_,_,_,rfl,rfl,gC,rfl,rfl⟩,trivial⟩)
  refine qS (qR (q1 (aZ eS) (q1 (bB e8) (q1 EC (q1 aF (qN ?_))))))
  refine a9 H (fun h8 H=>?_) (fun h8 H=>?_)
  ·refine qS (qR (q1 (fM jD vA) (q1 (bV nH) (qN (aO.ret ?_)))))
   obtain rfl:_=r:=(aY H:)
   exact bN (hr:=⟨⟨_,_,_,rfl,rfl,gC,rfl,rfl⟩,trivial⟩)
  refine qS (qR (q1 (aZ eS) (q1 (bB e8) (q1 EC (q1 aF (qN ?_))))))
  refine a9 H (fun h9 H=>?_) (fun h9 H=>?_)
  ·refine qS (qR (q1 (fM jD vA) (q1 (bV nH) (qN (aO.ret ?_)))))
   obtain rfl:_=r:=(aY H:)
   exact bN (hr:=⟨⟨_,_,_,rfl,rfl,gC,rfl,rfl⟩,trivial⟩)
  refine aO.skip (qS (qR (q1 (aZ eS) (q1 (bB e8) (bO H fun x11 z10 H=>(q1 (bJ Tryz.func157 (vB fu pa0.gAtom _ z10)) (q1 (bV nH) (qN (aO.ret ?_)))))))))
  obtain rfl:_=r:=(aY H:)
  exact bN (hr:=⟨⟨_,_,_,rfl,rfl,gC,rfl,rfl⟩,trivial⟩)
 refine aO.skip (qS (qR (q1 (rC ([]:List aA) bH b3) (q1 (aZ bF) (q1 (bB cN) (dK H fun z12 H=>(q1 (lC z12 bH oA) ?_)))))))
 iterate 3 refine q1 (fM b3 lG) ?_
 refine q1 (iI ([(aA.mk s_ []),(aA.mk s_ []),(aA.mk s_ [])]:List aA) bH b3) (dK H fun z13 H=>(q1 (lC z13 bH oA) (q1 aF (qN (qS (qR (q1 (aZ bF) (q1 (bB cN) (q1 (eM bH (aA.trs_len _)) (q1 aF (qN (qS (qR ?_)))))))))))))
 refine q1 aF (dK H fun z14 H=>(gE H fun y15 h16 H=>(q1 (pA h16 z14 bH) (q1 (nD eS) (q1 (mR e8) (q1 aF (qN ?_)))))))
 iterate 2 refine qS ?_
 refine qR (q1 aF (dK H fun z17 H=>(gE H fun y18 h19 H=>(q1 (pA h19 z17 bH) (q1 (nD eS) (q1 (mR e8) (qN (aO.block (qS (qR (q1 EC (q1 aF (qN ?_)))))))))))))
 refine a9 H (fun h20 H=>?_) (fun h20 H=>?_)
 ·refine qS (bO H fun x22 z21 H=>(dK H fun z23 H=>(bO H fun x25 z24 H=>(dW (dI [7] aF (dI [1] (aZ bF) (dD [59] (bB cN) (dI [6] aF (dI [61] (bJ Tryz.func261 (n8 fu 2 ((pa0.gList.length:Nat):Int) _ z21)) ?_)))))))))
  refine dI [60,62] (aW.congrP (aW.sliceR (es:=aA.trs (pa0.gList)) (l:=x22) (k:=((pa0.gList.length:Nat):Int)) rfl rfl rfl rfl rfl (by rw [aA.trs_len];exact rfl) (by rw [aA.trs_len];exact z23) bH) (aA.trs_part _ _ _)) ?_;refine dI [63] (bJ Tryz.func263 (h_sl12Exprs (List.drop (x22:Int).toNat (List.take (((pa0.gList.length:Nat):Int):Int).toNat pa0.gList)) _ z24)) (dI [58,64] (fM jD vA) (mZ [2,65] (bV nH) (dN (aO.ret ?_))))
  obtain rfl:_=r:=(aY H:)
  exact bN (hr:=⟨⟨_,_,_,rfl,rfl,gC,rfl,rfl⟩,trivial⟩)
 refine qS (qR (q1 EC (q1 aF (qN ?_))))
 refine a9 H (fun h26 H=>?_) (fun h26 H=>?_)
 ·refine qS (dK H fun z27 H=>(gE H fun y28 h29 H=>(bO H fun x31 z30 H=>(dK H fun z32 H=>(bO H fun x34 z33 H=>(dW (dI [7] aF (dI [5] aF (dI [69] (pA h29 z27 bH) (dI [70] (nD eS) (dI [71] (mR e8) (dI [1] (aZ bF) (dD [73] (bB cN) ?_)))))))))))))
  refine dI [6] aF (dI [75] (bJ Tryz.func261 (n8 fu 3 ((pa0.gList.length:Nat):Int) _ z30)) ?_)
  refine dI [74,76] (aW.congrP (aW.sliceR (es:=aA.trs (pa0.gList)) (l:=x31) (k:=((pa0.gList.length:Nat):Int)) rfl rfl rfl rfl rfl (by rw [aA.trs_len];exact rfl) (by rw [aA.trs_len];exact z32) bH) (aA.trs_part _ _ _)) ?_;refine dI [77] (bJ Tryz.func263 (h_sl12Exprs (List.drop (x31:Int).toNat (List.take (((pa0.gList.length:Nat):Int):Int).toNat pa0.gList)) _ z33)) (dI [68,72,78] (fM jD vA) (mZ [2,79] (bV nH) (dN (aO.ret ?_))))
  obtain rfl:_=r:=(aY H:)
  exact bN (hr:=⟨⟨_,_,_,rfl,rfl,gC,rfl,rfl⟩,trivial⟩)
 refine qS (qR (q1 EC (q1 aF (qN ?_))))
 refine a9 H (fun h35 H=>?_) (fun h35 H=>?_)
 ·refine qS (bO H fun x37 z36 H=>(dK H fun z38 H=>(bO H fun x40 z39 H=>(dW (dI [7] aF (dI [1] (aZ bF) (dD [83] (bB cN) (dI [6] aF (dI [85] (bJ Tryz.func261 (n8 fu 2 ((pa0.gList.length:Nat):Int) _ z36)) ?_)))))))))
  refine dI [84,86] (aW.congrP (aW.sliceR (es:=aA.trs (pa0.gList)) (l:=x37) (k:=((pa0.gList.length:Nat):Int)) rfl rfl rfl rfl rfl (by rw [aA.trs_len];exact rfl) (by rw [aA.trs_len];exact z38) bH) (aA.trs_part _ _ _)) ?_;refine dI [87] (bJ Tryz.func263 (h_sl12Exprs (List.drop (x37:Int).toNat (List.take (((pa0.gList.length:Nat):Int):Int).toNat pa0.gList)) _ z39)) (dI [82,88] (fM jD vA) (mZ [2,89] (bV nH) (dN (aO.ret ?_))))
  obtain rfl:_=r:=(aY H:)
  exact bN (hr:=⟨⟨_,_,_,rfl,rfl,gC,rfl,rfl⟩,trivial⟩)
 refine qS (qR (q1 EC (q1 aF (qN ?_))))
 refine a9 H (fun h41 H=>?_) (fun h41 H=>?_)
 ·refine qS (bO H fun x43 z42 H=>(dK H fun z44 H=>(bO H fun x46 z45 H=>(dW (dI [7] aF (dI [1] (aZ bF) (dD [93] (bB cN) (dI [6] aF (dI [95] (bJ Tryz.func261 (n8 fu 2 ((pa0.gList.length:Nat):Int) _ z42)) ?_)))))))))
  refine dI [94,96] (aW.congrP (aW.sliceR (es:=aA.trs (pa0.gList)) (l:=x43) (k:=((pa0.gList.length:Nat):Int)) rfl rfl rfl rfl rfl (by rw [aA.trs_len];exact rfl) (by rw [aA.trs_len];exact z44) bH) (aA.trs_part _ _ _)) ?_;refine dI [97] (bJ Tryz.func263 (h_sl12Exprs (List.drop (x43:Int).toNat (List.take (((pa0.gList.length:Nat):Int):Int).toNat pa0.gList)) _ z45)) (dI [92,98] (fM jD vA) (mZ [2,99] (bV nH) (dN (aO.ret ?_))))
  obtain rfl:_=r:=(aY H:)
  exact bN (hr:=⟨⟨_,_,_,rfl,rfl,gC,rfl,rfl⟩,trivial⟩)
 refine qS (qR (q1 EC (q1 aF (qN ?_))))
 refine a9 H (fun h47 H=>?_) (fun h47 H=>?_)
 ·refine qS (qR (q1 (aZ bF) (q1 (bB cN) (dK H fun z48 H=>?_))))
  refine q1 (aW.congrP (aW.sliceR (es:=aA.trs (pa0.gList)) (l:=1) (k:=((pa0.gList.length:Nat):Int)) rfl rfl rfl rfl rfl (by rw [aA.trs_len];exact rfl) (by rw [aA.trs_len];exact z48) bH) (aA.trs_part _ _ _)) ?_;refine bO H fun x50 z49 H=>(q1 (bJ Tryz.func263 (h_sl12Exprs (List.drop (1:Int).toNat (List.take (((pa0.gList.length:Nat):Int):Int).toNat pa0.gList)) _ z49)) (q1 (fM jD vA) (q1 (bV nH) (qN (aO.ret ?_)))))
  obtain rfl:_=r:=(aY H:)
  exact bN (hr:=⟨⟨_,_,_,rfl,rfl,gC,rfl,rfl⟩,trivial⟩)
 refine qS (qR (q1 EC (q1 aF (qN ?_))))
 refine a9 H (fun h51 H=>?_) (fun h51 H=>?_)
 ·refine qS (bO H fun x53 z52 H=>(dK H fun z54 H=>(bO H fun x56 z55 H=>(dW (dI [7] aF (dI [1] (aZ bF) (dD [110] (bB cN) (dI [6] aF (dI [112] (bJ Tryz.func261 (n8 fu 2 ((pa0.gList.length:Nat):Int) _ z52)) ?_)))))))))
  refine dI [111,113] (aW.congrP (aW.sliceR (es:=aA.trs (pa0.gList)) (l:=x53) (k:=((pa0.gList.length:Nat):Int)) rfl rfl rfl rfl rfl (by rw [aA.trs_len];exact rfl) (by rw [aA.trs_len];exact z54) bH) (aA.trs_part _ _ _)) ?_;refine dI [114] (bJ Tryz.func263 (h_sl12Exprs (List.drop (x53:Int).toNat (List.take (((pa0.gList.length:Nat):Int):Int).toNat pa0.gList)) _ z55)) (dI [109,115] (fM jD vA) (mZ [2,116] (bV nH) (dN (aO.ret ?_))))
  obtain rfl:_=r:=(aY H:)
  exact bN (hr:=⟨⟨_,_,_,rfl,rfl,gC,rfl,rfl⟩,trivial⟩)
 refine qS (qR (q1 EC (q1 aF (qN ?_))))
 refine a9 H (fun h57 H=>?_) (fun h57 H=>?_)
 ·refine qS (bO H fun x59 z58 H=>(bO H fun x61 z60 H=>(dK H fun z62 H=>(bO H fun x64 z63 H=>(dW (dI [5] aF (dI [119] (pA h16 z14 bH) (dI [120] (j7 (aA.cs y15) bP) (dI [121] (bJ Tryz.func246 (sV fu y15 _ z58)) (dI [1] (aZ bF) (dD [123] (bB cN) (dI [6] aF (dI [125] (bJ Tryz.func261 (n8 fu 2 ((pa0.gList.length:Nat):Int) _ z60)) ?_)))))))))))))
  refine dI [124,126] (aW.congrP (aW.sliceR (es:=aA.trs (pa0.gList)) (l:=x61) (k:=((pa0.gList.length:Nat):Int)) rfl rfl rfl rfl rfl (by rw [aA.trs_len];exact rfl) (by rw [aA.trs_len];exact z62) bH) (aA.trs_part _ _ _)) ?_;refine dI [127] (bJ Tryz.func263 (h_sl12Exprs (List.drop (x61:Int).toNat (List.take (((pa0.gList.length:Nat):Int):Int).toNat pa0.gList)) _ z63)) (dI [122,128] (fM jD vA) (mZ [2,129] (bV nH) (dN (aO.ret ?_))))
  obtain rfl:_=r:=(aY H:)
  exact bN (hr:=⟨⟨_,_,_,rfl,rfl,gC,rfl,rfl⟩,trivial⟩)
 refine qS (qR (q1 EC (q1 aF (qN ?_))))
 refine a9 H (fun h65 H=>?_) (fun h65 H=>?_)
 ·refine qS (bO H fun x67 z66 H=>(dK H fun z68 H=>(bO H fun x70 z69 H=>(dW (dI [1] (aZ bF) (dB [132] 0 1 (s5 cN) (dI [6] aF (dI [134] (bJ Tryz.func261 (n8 fu 2 ((pa0.gList.length:Nat):Int) _ z66)) ?_))))))))
  refine dI [133,135] (aW.congrP (aW.sliceR (es:=aA.trs (pa0.gList)) (l:=1) (k:=x67) rfl rfl rfl rfl rfl (by rw [aA.trs_len];exact rfl) (by rw [aA.trs_len];exact z68) bH) (aA.trs_part _ _ _)) ?_;refine dI [136] (bJ Tryz.func263 (h_sl12Exprs (List.drop (1:Int).toNat (List.take (x67:Int).toNat pa0.gList)) _ z69)) (dI [137] (fM jD vA) (dE [] (hH jD) (mZ [8,138] (bV nH) (dN ?_))))
  iterate 2 refine qS ?_
  refine qR (q1 aF (qN (aO.wk (Wk.regBox (k:=2) (j:=8) 92 11 (by decide) rfl rfl) ?_)))
  refine nF 38 (aA.trs_len _) (fun hl74=>?_)
  refine cG (σ:=(List bC)) (fun i71 v73=>⟨[(1,.ptr 0 0),(2,.ptr 1 0),(5,dM ((([])++pa0.gList)++([(aA.mk s_ []),(aA.mk s_ []),(aA.mk s_ [])]:List aA)) 0),(6,pN pa0.gList.length),(8,.ptr 2 0),(9,pN i71)],⟨[some ⟨237,[pS pa0.gAtom,a8 pa0.gList]⟩,some ⟨87,[pI 0,pS s_,pS s_,pI 0,pI 0,pS s_,.nil,.nil,.nil]⟩,some ⟨87,[pI 7,pS s_,pS s_,pI 0,pI 0,pS s_,.nil,fD x70,acX v73 1]⟩],[⟨237,2,aA.trs ((([])++pa0.gList)++([(aA.mk s_ []),(aA.mk s_ []),(aA.mk s_ [])]:List aA)),false⟩,⟨92,11,bC.trs (v73),false⟩]⟩⟩) (fun v73=>⟨[(1,.ptr 0 0),(2,.ptr 1 0),(5,dM ((([])++pa0.gList)++([(aA.mk s_ []),(aA.mk s_ []),(aA.mk s_ [])]:List aA)) 0),(6,pN pa0.gList.length),(8,.ptr 2 0)],⟨[some ⟨237,[pS pa0.gAtom,a8 pa0.gList]⟩,some ⟨87,[pI 0,pS s_,pS s_,pI 0,pI 0,pS s_,.nil,.nil,.nil]⟩,some ⟨87,[pI 7,pS s_,pS s_,pI 0,pI 0,pS s_,.nil,fD x70,acX v73 1]⟩],[⟨237,2,aA.trs ((([])++pa0.gList)++([(aA.mk s_ []),(aA.mk s_ []),(aA.mk s_ [])]:List aA)),false⟩,⟨92,11,bC.trs (v73),false⟩]⟩⟩) (f9 H) ?_ ?_
  ·rintro i71 v73 H
   iterate 2 refine qS ?_
   refine qR ?_
   iterate 2 refine q1 aF ?_
   refine q1 gU (qN ?_)
   refine eJ H (fun h75 h75l H=>?_) (fun h75 H=>?_)
   ·have h75n:=a7 h75
    refine aO.skip (qS (aO.block (bO H fun x77 z76 H=>(dK H fun z78 H=>(dW (dI [8] (aZ fE) (dD [144] (bB oP) (dI [1] (aZ bF) (dD [146] (bB cN) (dI [9] aF (dI [147,148] (j0 h75n bH) (dI [149] (j7 (aA.cs (a5 pa0.gList i71)) bP) (dI [150] (bJ Tryz.func264 (h_sl12Arm (a5 pa0.gList i71) _ z76)) ?_)))))))))))))
    refine dI [151] (iI ([x77]:List bC) mL KT) (dE [145,152] (lC z78 mL ahX) (dI [8] (aZ fE) (mZ [154,153] (bV aiD) (dN (qR (q1 aF (q1 (aW.addI rfl rfl rfl rfl (c:=((i71+1:Nat):Int)) (by omega) (by omega)) (q1 aF (qN ?_)))))))))
    exact jA h75l ⟨_,(aY H:),bZ⟩
   refine aO.exit ?_;exact k7 ⟨_,H,bZ⟩
  rintro v73 H
  refine qS (qR (q1 (c6 [pI 7,pS s_,pS s_,pI 0,pI 0,pS s_,.nil,fD x70,acX v73 1] gC) (q1 (bV nH) (qN (aO.ret ?_)))))
  obtain rfl:_=r:=(aY H:)
  exact bN (hr:=⟨⟨_,_,_,rfl,rfl,gC,rfl,rfl⟩,trivial⟩)
 refine aO.skip (qS (bO H fun x80 z79 H=>(dK H fun z81 H=>(bO H fun x83 z82 H=>(dW (dI [5] aF (dI [156] (pA h19 z17 bH) (dI [157] (nD eS) (dI [158] (mR e8) (dI [1] (aZ bF) (dD [160] (bB cN) (dI [6] aF (dI [162] (bJ Tryz.func261 (n8 fu 1 ((pa0.gList.length:Nat):Int) _ z79)) ?_)))))))))))))
 refine dI [161,163] (aW.congrP (aW.sliceR (es:=aA.trs (pa0.gList)) (l:=x80) (k:=((pa0.gList.length:Nat):Int)) rfl rfl rfl rfl rfl (by rw [aA.trs_len];exact rfl) (by rw [aA.trs_len];exact z81) bH) (aA.trs_part _ _ _)) ?_;refine dI [164] (bJ Tryz.func263 (h_sl12Exprs (List.drop (x80:Int).toNat (List.take (((pa0.gList.length:Nat):Int):Int).toNat pa0.gList)) _ z82)) (dI [159,165] (fM jD vA) (mZ [2,166] (bV nH) (dN (aO.ret ?_))))
 obtain rfl:_=r:=(aY H:)
 exact bN (hr:=⟨⟨_,_,_,rfl,rfl,gC,rfl,rfl⟩,trivial⟩)
def R2(fu:Nat)(r_sl12Expr:gB)(r_sl12Exprs:fH)(r_sl12Arm:hP)(plist:List aA):Nat→((List aG))→Option (LR ((List aG)) ((List aG))):=
 fun i1 v3=>bd (r_sl12Expr (a5 plist i1)) (fun x7=>
 gd ((v3).length+(([x7]:List aG)).length≤68719476736)
 (some (.next (v3++([x7]:List aG)))))
def RL(fu:Nat)(r_sl12Expr:gB)(r_sl12Exprs:fH)(r_sl12Arm:hP)(plist:List aA):Option (((List aG))⊕((List aG))):=
 loopN (R2 fu r_sl12Expr r_sl12Exprs r_sl12Arm plist) (plist.length-0) 0 ([])
def AE(fu:Nat)(r_sl12Expr:gB)(r_sl12Exprs:fH)(r_sl12Arm:hP)(plist:List aA):Option ((List aG)):=
 so (RL fu r_sl12Expr r_sl12Exprs r_sl12Arm plist) (fun v3=>
 some v3)
theorem MV(fu:Nat)(r_sl12Expr:gB)(r_sl12Exprs:fH)(r_sl12Arm:hP)(h_sl12Expr:rF r_sl12Expr)(h_sl12Exprs:tB r_sl12Exprs)(h_sl12Arm:xL r_sl12Arm):tB (AE fu r_sl12Expr r_sl12Exprs r_sl12Arm):=by
 intro plist r H
 have H:=fC H
 refine qI Tryz.func263 (fun C hC=>?_)
 refine qS (qR (q1 aF (qN (qS (qR (q1 (rC ([]:List aG) lB jD) (q1 aF (qN ?_))))))))
 iterate 2 refine qS ?_
 refine qR (q1 aF (qN ?_))
 refine nF 0 (aA.trs_len _) (fun hl4=>?_)
 refine cG (σ:=(List aG)) (fun i1 v3=>⟨[(0,a8 plist),(2,.nil),(3,L0 v3 0),(4,pN i1)],⟨[],[⟨87,9,aG.trs (v3),false⟩]⟩⟩) (fun v3=>⟨[(2,.nil),(3,L0 v3 0)],⟨[],[⟨87,9,aG.trs (v3),false⟩]⟩⟩) (f9 H) ?_ ?_
 ·rintro i1 v3 H
  iterate 2 refine qS ?_
  refine qR ?_
  iterate 2 refine q1 aF ?_
  refine q1 (eM bH (aA.trs_len _)) (q1 gU (qN ?_))
  refine eJ H (fun h5 h5l H=>?_) (fun h5 H=>?_)
  ·have h5n:=a7 h5
   refine aO.skip (qS (aO.block (qR ?_)))
   iterate 3 refine q1 aF ?_
   refine q1 (j0 h5n bH) (q1 (j7 (aA.cs (a5 plist i1)) bP) (bO H fun x7 z6 H=>(q1 (bJ Tryz.func247 (h_sl12Expr (a5 plist i1) _ z6)) (q1 (iI ([x7]:List aG) lB jD) (dK H fun z8 H=>(q1 (lC z8 lB ag2) (q1 aF (qN (qR (q1 aF (q1 (aW.addI rfl rfl rfl rfl (c:=((i1+1:Nat):Int)) (by omega) (by omega)) (q1 aF (qN ?_)))))))))))))
   exact jA h5l ⟨_,(aY H:),bZ⟩
  refine aO.exit ?_;exact k7 ⟨_,H,bZ⟩
 rintro v3 H
 refine qS (qR ?_)
 iterate 2 refine q1 aF ?_
 refine qN (aO.ret ?_)
 obtain rfl:_=r:=(aY H:)
 exact bN
def I5(fu:Nat)(r_sl12Expr:gB)(r_sl12Exprs:fH)(r_sl12Arm:hP)(px:aA):Option bC:=
 sw (decide ((((px.gList.length:Nat):Int):Int)<2))
 (some (bC.mk s_ [] (aG.mk 0 s_ s_ 0 (aB.mk 0 s_ []) [] [])))
 (gd ((0:Int)≤1∧(1:Int)≤aQ (((px.gList.length:Nat):Int)-1)∧(aQ (((px.gList.length:Nat):Int)-1):Int)≤((px.gList.length:Nat):Int))
 (bd (uO fu (List.drop (1:Int).toNat (List.take (aQ (((px.gList.length:Nat):Int)-1):Int).toNat px.gList))) (fun(x4,x5)=>
 gd (0<(px.gList).length)
 (gd (0≤aQ (((px.gList.length:Nat):Int)-1)∧(aQ (((px.gList.length:Nat):Int)-1)).toNat<(px.gList).length)
 (lt (a5 px.gList ((aQ (((px.gList.length:Nat):Int)-1)).toNat)) (fun y8=>
 bd (r_sl12Expr y8) (fun x11=>
 some (bC.mk ((a5 px.gList 0).gAtom) x4 x11))))))))
theorem SJ(fu:Nat)(r_sl12Expr:gB)(r_sl12Exprs:fH)(r_sl12Arm:hP)(h_sl12Expr:rF r_sl12Expr)(h_sl12Exprs:tB r_sl12Exprs)(h_sl12Arm:xL r_sl12Arm):xL (I5 fu r_sl12Expr r_sl12Exprs r_sl12Arm):=by
 intro px r H
 have H:=fC H
 refine qI Tryz.func264 (fun C hC=>?_)
 refine qS (qR (q1 (lA ([pS px.gAtom,a8 px.gList])) (q1 (hH KT) (qN (qS (qR (q1 (aZ bF) (q1 (bB cN) (q1 (eM bH (aA.trs_len _)) (q1 aF (qN ?_)))))))))))
 iterate 2 refine qS ?_
 refine qR (q1 aF (q1 gU (qN ?_)))
 refine a9 H (fun h1 H=>?_) (fun h1 H=>?_)
 ·have h1n:px.gList.length<2:=by have:=of_decide_eq_true h1;omega
  refine qS (qR (q1 (fM KT aeZ) (q1 (bV afY) (qN (aO.ret ?_)))))
  obtain rfl:_=r:=(aY H:)
  exact bN (hr:=⟨⟨_,_,_,rfl,rfl,af0,rfl,rfl⟩,trivial⟩)
 refine aO.skip (qS (qR (q1 (aZ bF) (q1 (bB cN) (q1 aF (q1 zZ (dK H fun z2 H=>?_)))))))
 refine q1 (aW.congrP (aW.sliceR (es:=aA.trs (px.gList)) (l:=1) (k:=aQ (((px.gList.length:Nat):Int)-1)) rfl rfl rfl rfl rfl (by rw [aA.trs_len];exact rfl) (by rw [aA.trs_len];exact z2) bH) (aA.trs_part _ _ _)) ?_;refine f8 H fun x4 x5 z3 H=>(q1 (bJ Tryz.func218 (AM fu (List.drop (1:Int).toNat (List.take (aQ (((px.gList.length:Nat):Int)-1):Int).toNat px.gList)) _ z3)) (q1 aF ?_))
 iterate 2 refine q1 KJ ?_
 iterate 2 refine q1 aF ?_
 refine qN (qS (dK H fun z6 H=>(dK H fun z7 H=>(gE H fun y8 h9 H=>(bO H fun x11 z10 H=>(dW (dI [1] (aZ bF) (dD [21] (bB cN) (dI [22] (j0 z6 bH) (dI [23] (nD eS) (dI [24] (mR e8) (dI [4] aF (dI [1] (aZ bF) ?_)))))))))))))
 refine dD [27] (bB cN) (dI [3] aF (dI [29] zZ (dI [28,30] (rIm h9 z7 bH) (dI [31] (j7 (aA.cs y8) bP) (dI [32] (bJ Tryz.func247 (h_sl12Expr y8 _ z10)) (dI [25,26,33] (fM KT aeZ) (mZ [2,34] (bV afY) (dN (aO.ret ?_)))))))))
 obtain rfl:_=r:=(aY H:)
 exact bN (hr:=⟨⟨_,_,_,rfl,rfl,af0,rfl,rfl⟩,trivial⟩)
mutual
def fS:Nat→aA→Option aG
 |0,_=>none
 |fu+1,pa0=>DZ fu (fS fu) (iK fu) (lK fu) pa0
def iK:Nat→(List aA)→Option ((List aG))
 |0,_=>none
 |fu+1,plist=>AE fu (fS fu) (iK fu) (lK fu) plist
def lK:Nat→aA→Option bC
 |0,_=>none
 |fu+1,px=>I5 fu (fS fu) (iK fu) (lK fu) px
end
theorem TK(fu:Nat):rF (fS fu)∧tB (iK fu)∧xL (lK fu):=by
 induction fu with
 |zero=>exact⟨(fun pa0 r H=>by simp only [fS] at H;cases H),(fun plist r H=>by simp only [iK] at H;cases H),(fun px r H=>by simp only [lK] at H;cases H)⟩
 |succ fu ih=>exact⟨(fun pa0 r H=>by simp only [fS] at H;exact N7 fu (fS fu) (iK fu) (lK fu) ih.1 ih.2.1 ih.2.2 pa0 r H),(fun plist r H=>by simp only [iK] at H;exact MV fu (fS fu) (iK fu) (lK fu) ih.1 ih.2.1 ih.2.2 plist r H),(fun px r H=>by simp only [lK] at H;exact SJ fu (fS fu) (iK fu) (lK fu) ih.1 ih.2.1 ih.2.2 px r H)⟩
theorem A1(fu:Nat):rF (fS fu):=(TK fu).1
abbrev mS:=aG→Option aA
abbrev iR:=(List aA)→(List aG)→Option aA
def AR(m:mS):Prop:= ∀(pa0:aG) (r:aA),m pa0=some r→cH Tryz.prog 270 [(aG.pv pa0)] ((aA.pv r):PV)
def yA(m:iR):Prop:= ∀(phead:List aA) (plist:List aG) (r:aA),m phead plist=some r→dG Tryz.prog 282 [dM phead 0,fD plist] ⟨[],[⟨237,2,aA.trs (phead),false⟩]⟩ (fun q t=>q=(.agg [pS r.gAtom,dM r.gList 0]:PV)∧t=⟨[],[⟨237,2,aA.trs (r.gList),false⟩]⟩)
def adG(fu:Nat)(r_sl12Sx:mS)(r_sl12Args:iR)(pa0:aG)(x68 x70:aA):Nat→((List aA))→Option (LR ((List aA)) aA):=
 fun i71 v73=>lt (a5 pa0.gArms i71) (fun y76=>
 bd (b7 fu y76.gConstructor) (fun x79=>
 bd (yH fu y76.gVars) (fun x81=>
 gd ((([x79]:List aA)).length+(x81).length≤68719476736)
 (bd (r_sl12Sx y76.gBody) (fun x84=>
 gd ((([x79]:List aA)++x81).length+(([x84]:List aA)).length≤68719476736)
 (gd ((v73).length+(([(aA.mk s_ ((([x79]:List aA)++x81)++([x84]:List aA)))]:List aA)).length≤68719476736)
 (some (.next (v73++([(aA.mk s_ ((([x79]:List aA)++x81)++([x84]:List aA)))]:List aA))))))))))
def abU(fu:Nat)(r_sl12Sx:mS)(r_sl12Args:iR)(pa0:aG)(x68 x70:aA):Option (aA⊕((List aA))):=
 loopN (adG fu r_sl12Sx r_sl12Args pa0 x68 x70) (pa0.gArms.length-0) 0 x70.gList
def MD(fu:Nat)(r_sl12Sx:mS)(r_sl12Args:iR)(pa0:aG):Option aA:=
 sw (decide ((pa0.gKind:Int)=1))
 (bd (l7 fu pa0.gN) (fun x3=>
 bd (b7 fu x3) (fun x5=>
 some x5)))
 (sw (decide ((pa0.gKind:Int)=2))
 (gd (0≤pa0.gN∧(pa0.gN).toNat<(([jX,nC]:List ByteArray)).length)
 (bd (b7 fu (a5 ([jX,nC]:List ByteArray) ((pa0.gN).toNat))) (fun x9=>
 some x9)))
 (sw (decide ((pa0.gKind:Int)=3))
 (bd (b7 fu pa0.gName) (fun x12=>
 some x12))
 (sw (decide ((pa0.gKind:Int)=4))
 (bd (b7 fu I4) (fun x15=>
 bd (b7 fu pa0.gName) (fun x17=>
 bd (r_sl12Args ([x15,x17]:List aA) pa0.gArgs) (fun x19=>
 some (aA.mk x19.gAtom x19.gList)))))
 (sw (decide ((pa0.gKind:Int)=5))
 (bd (b7 fu mM) (fun x22=>
 bd (b7 fu pa0.gTrait) (fun x24=>
 bd (b7 fu pa0.gName) (fun x26=>
 bd (r_sl12Args ([x22,x24,x26]:List aA) pa0.gArgs) (fun x28=>
 some (aA.mk x28.gAtom x28.gList))))))
 (sw (decide ((pa0.gKind:Int)=6))
 (bd (b7 fu zJ) (fun x31=>
 bd (b7 fu pa0.gName) (fun x33=>
 bd (r_sl12Args ([x31,x33]:List aA) pa0.gArgs) (fun x35=>
 some (aA.mk x35.gAtom x35.gList)))))
 (sw (decide ((pa0.gKind:Int)=8))
 (bd (b7 fu zK) (fun x38=>
 bd (b7 fu pa0.gName) (fun x40=>
 bd (r_sl12Args ([x38,x40]:List aA) pa0.gArgs) (fun x42=>
 some (aA.mk x42.gAtom x42.gList)))))
 (sw (decide ((pa0.gKind:Int)=9))
 (bd (b7 fu y1) (fun x45=>
 bd (r_sl12Args ([x45]:List aA) pa0.gArgs) (fun x47=>
 some (aA.mk x47.gAtom x47.gList))))
 (sw (decide ((pa0.gKind:Int)=10))
 (bd (b7 fu pa0.gName) (fun x50=>
 bd (r_sl12Args ([x50]:List aA) pa0.gArgs) (fun x52=>
 some (aA.mk x52.gAtom x52.gList))))
 (sw (decide ((pa0.gKind:Int)=11))
 (bd (b7 fu tP) (fun x55=>
 bd (b7 fu pa0.gTrait) (fun x57=>
 bd (r_sl12Args ([x55,x57]:List aA) pa0.gArgs) (fun x59=>
 some (aA.mk x59.gAtom x59.gList)))))
 (sw (decide ((pa0.gKind:Int)=12))
 (bd (b7 fu QJ) (fun x62=>
 bd (kK fu pa0.gType) (fun x64=>
 bd (r_sl12Args ([x62,x64]:List aA) pa0.gArgs) (fun x66=>
 some (aA.mk x66.gAtom x66.gList)))))
 (bd (b7 fu tC) (fun x68=>
 bd (r_sl12Args ([x68]:List aA) pa0.gArgs) (fun x70=>
 so (abU fu r_sl12Sx r_sl12Args pa0 x68 x70) (fun v73=>
 some (aA.mk x70.gAtom v73)))))))))))))))
theorem WK(fu:Nat)(r_sl12Sx:mS)(r_sl12Args:iR)(h_sl12Sx:AR r_sl12Sx)(h_sl12Args:yA r_sl12Args):AR (MD fu r_sl12Sx r_sl12Args):=by
 intro pa0 r H
 have H:=fC H
 refine qI Tryz.func270 (fun C hC=>?_)
 refine qS (qR (q1 (lA (gK pa0)) (q1 (hH b3) (qN ?_))))
 iterate 2 refine qS ?_
 refine qR (q1 (aZ pV) (q1 (bB iG) (qN (aO.block (qS (qR (q1 dP (q1 aF (qN ?_)))))))))
 refine a9 H (fun h1 H=>?_) (fun h1 H=>?_)
 ·refine qS (qR (q1 (aZ BD) (q1 (bB iG) (bO H fun x3 z2 H=>(q1 (bJ Tryz.func281 (wC fu pa0.gN _ z2)) (bO H fun x5 z4 H=>(q1 (bJ Tryz.func266 (bY fu x3 _ z4)) (q1 (bV dR) (qN (aO.ret ?_))))))))))
  obtain rfl:_=r:=(aY H:)
  exact bN (hr:=⟨⟨_,_,_,rfl,rfl,bP,rfl,rfl⟩,trivial⟩)
 refine qS (qR (q1 dP (q1 aF (qN ?_))))
 refine a9 H (fun h6 H=>?_) (fun h6 H=>?_)
 ·refine qS (qR (q1 (iI ([jX,nC]:List ByteArray) bW jZ) (q1 (aZ BD) (q1 (bB iG) (dK H fun z7 H=>(q1 (rIy z7 bW) (q1 (mR e8) (bO H fun x9 z8 H=>(q1 (bJ Tryz.func266 (bY fu (a5 ([jX,nC]:List ByteArray) ((pa0.gN).toNat)) _ z8)) (q1 (bV dR) (qN (aO.ret ?_))))))))))))
  obtain rfl:_=r:=(aY H:)
  exact bN (hr:=⟨⟨_,_,_,rfl,rfl,bP,rfl,rfl⟩,trivial⟩)
 refine qS (qR (q1 dP (q1 aF (qN ?_))))
 refine a9 H (fun h10 H=>?_) (fun h10 H=>?_)
 ·refine qS (qR (q1 (aZ nN) (q1 (bB e8) (bO H fun x12 z11 H=>(q1 (bJ Tryz.func266 (bY fu pa0.gName _ z11)) (q1 (bV dR) (qN (aO.ret ?_))))))))
  obtain rfl:_=r:=(aY H:)
  exact bN (hr:=⟨⟨_,_,_,rfl,rfl,bP,rfl,rfl⟩,trivial⟩)
 refine qS (qR (q1 dP (q1 aF (qN ?_))))
 refine a9 H (fun h13 H=>?_) (fun h13 H=>?_)
 ·refine qS (bO H fun x15 z14 H=>(bO H fun x17 z16 H=>(bO H fun x19 z18 H=>(dW (dI [] (bJ Tryz.func266 (bY fu I4 _ z14)) (dI [1] (aZ nN) (dD [31] (bB e8) (dI [32] (bJ Tryz.func266 (bY fu pa0.gName _ z16)) (dE [30,33] (rC ([x15,x17]:List aA) bH b3) (dI [1] (aZ gW) (dB [35] 0 1 (s5 rI) (dE [34,36] (gF [] [0] Tryz.func282 (h_sl12Args ([x15,x17]:List aA) pa0.gArgs _ z18)) (mZ [2,37] (bV dR) ?_)))))))))))))
  refine dN (aO.ret ?_)
  obtain rfl:_=r:=(aY H:)
  exact bN (hr:=⟨⟨_,_,_,rfl,rfl,bP,rfl,rfl⟩,trivial⟩)
 refine qS (qR (q1 dP (q1 aF (qN ?_))))
 refine a9 H (fun h20 H=>?_) (fun h20 H=>?_)
 ·refine qS (bO H fun x22 z21 H=>(bO H fun x24 z23 H=>(bO H fun x26 z25 H=>(bO H fun x28 z27 H=>(dW (dI [] (bJ Tryz.func266 (bY fu mM _ z21)) (dI [1] (aZ IH) (dD [41] (bB e8) (dI [42] (bJ Tryz.func266 (bY fu pa0.gTrait _ z23)) (dI [1] (aZ nN) (dD [44] (bB e8) (dI [45] (bJ Tryz.func266 (bY fu pa0.gName _ z25)) (dE [40,43,46] (rC ([x22,x24,x26]:List aA) bH b3) ?_)))))))))))))
  refine dI [1] (aZ gW) (dB [48] 0 1 (s5 rI) (dE [47,49] (gF [] [0] Tryz.func282 (h_sl12Args ([x22,x24,x26]:List aA) pa0.gArgs _ z27)) (mZ [2,50] (bV dR) (dN (aO.ret ?_)))))
  obtain rfl:_=r:=(aY H:)
  exact bN (hr:=⟨⟨_,_,_,rfl,rfl,bP,rfl,rfl⟩,trivial⟩)
 refine qS (qR (q1 dP (q1 aF (qN ?_))))
 refine a9 H (fun h29 H=>?_) (fun h29 H=>?_)
 ·refine qS (bO H fun x31 z30 H=>(bO H fun x33 z32 H=>(bO H fun x35 z34 H=>(dW (dI [] (bJ Tryz.func266 (bY fu zJ _ z30)) (dI [1] (aZ nN) (dD [54] (bB e8) (dI [55] (bJ Tryz.func266 (bY fu pa0.gName _ z32)) (dE [53,56] (rC ([x31,x33]:List aA) bH b3) (dI [1] (aZ gW) (dB [58] 0 1 (s5 rI) (dE [57,59] (gF [] [0] Tryz.func282 (h_sl12Args ([x31,x33]:List aA) pa0.gArgs _ z34)) (mZ [2,60] (bV dR) ?_)))))))))))))
  refine dN (aO.ret ?_)
  obtain rfl:_=r:=(aY H:)
  exact bN (hr:=⟨⟨_,_,_,rfl,rfl,bP,rfl,rfl⟩,trivial⟩)
 refine qS (qR (q1 dP (q1 aF (qN ?_))))
 refine a9 H (fun h36 H=>?_) (fun h36 H=>?_)
 ·refine qS (bO H fun x38 z37 H=>(bO H fun x40 z39 H=>(bO H fun x42 z41 H=>(dW (dI [] (bJ Tryz.func266 (bY fu zK _ z37)) (dI [1] (aZ nN) (dD [64] (bB e8) (dI [65] (bJ Tryz.func266 (bY fu pa0.gName _ z39)) (dE [63,66] (rC ([x38,x40]:List aA) bH b3) (dI [1] (aZ gW) (dB [68] 0 1 (s5 rI) (dE [67,69] (gF [] [0] Tryz.func282 (h_sl12Args ([x38,x40]:List aA) pa0.gArgs _ z41)) (mZ [2,70] (bV dR) ?_)))))))))))))
  refine dN (aO.ret ?_)
  obtain rfl:_=r:=(aY H:)
  exact bN (hr:=⟨⟨_,_,_,rfl,rfl,bP,rfl,rfl⟩,trivial⟩)
 refine qS (qR (q1 dP (q1 aF (qN ?_))))
 refine a9 H (fun h43 H=>?_) (fun h43 H=>?_)
 ·refine qS (bO H fun x45 z44 H=>(bO H fun x47 z46 H=>(dW (dI [] (bJ Tryz.func266 (bY fu y1 _ z44)) (dE [73] (rC ([x45]:List aA) bH b3) (dI [1] (aZ gW) (dB [75] 0 1 (s5 rI) (dE [74,76] (gF [] [0] Tryz.func282 (h_sl12Args ([x45]:List aA) pa0.gArgs _ z46)) (mZ [2,77] (bV dR) (dN (aO.ret ?_)))))))))))
  obtain rfl:_=r:=(aY H:)
  exact bN (hr:=⟨⟨_,_,_,rfl,rfl,bP,rfl,rfl⟩,trivial⟩)
 refine qS (qR (q1 dP (q1 aF (qN ?_))))
 refine a9 H (fun h48 H=>?_) (fun h48 H=>?_)
 ·refine qS (bO H fun x50 z49 H=>(bO H fun x52 z51 H=>(dW (dI [1] (aZ nN) (dD [80] (bB e8) (dI [81] (bJ Tryz.func266 (bY fu pa0.gName _ z49)) (dE [82] (rC ([x50]:List aA) bH b3) (dI [1] (aZ gW) (dB [84] 0 1 (s5 rI) (dE [83,85] (gF [] [0] Tryz.func282 (h_sl12Args ([x50]:List aA) pa0.gArgs _ z51)) (mZ [2,86] (bV dR) (dN (aO.ret ?_)))))))))))))
  obtain rfl:_=r:=(aY H:)
  exact bN (hr:=⟨⟨_,_,_,rfl,rfl,bP,rfl,rfl⟩,trivial⟩)
 refine qS (qR (q1 dP (q1 aF (qN ?_))))
 refine a9 H (fun h53 H=>?_) (fun h53 H=>?_)
 ·refine qS (bO H fun x55 z54 H=>(bO H fun x57 z56 H=>(bO H fun x59 z58 H=>(dW (dI [] (bJ Tryz.func266 (bY fu tP _ z54)) (dI [1] (aZ IH) (dD [90] (bB e8) (dI [91] (bJ Tryz.func266 (bY fu pa0.gTrait _ z56)) (dE [89,92] (rC ([x55,x57]:List aA) bH b3) (dI [1] (aZ gW) (dB [94] 0 1 (s5 rI) (dE [93,95] (gF [] [0] Tryz.func282 (h_sl12Args ([x55,x57]:List aA) pa0.gArgs _ z58)) (mZ [2,96] (bV dR) ?_)))))))))))))
  refine dN (aO.ret ?_)
  obtain rfl:_=r:=(aY H:)
  exact bN (hr:=⟨⟨_,_,_,rfl,rfl,bP,rfl,rfl⟩,trivial⟩)
 refine qS (qR (q1 dP (q1 aF (qN ?_))))
 refine a9 H (fun h60 H=>?_) (fun h60 H=>?_)
 ·refine qS (bO H fun x62 z61 H=>(bO H fun x64 z63 H=>(bO H fun x66 z65 H=>(dW (dI [] (bJ Tryz.func266 (bY fu QJ _ z61)) (dI [1] (aZ pP) (dD [100] (c6 [pI pa0.gType.gKind,pS pa0.gType.gName,a6 pa0.gType.gArgs] dL) (dI [101] (bJ Tryz.func269 (sT fu pa0.gType _ z63)) (dE [99,102] (rC ([x62,x64]:List aA) bH b3) (dI [1] (aZ gW) (dB [104] 0 1 (s5 rI) (dE [103,105] (gF [] [0] Tryz.func282 (h_sl12Args ([x62,x64]:List aA) pa0.gArgs _ z65)) (mZ [2,106] (bV dR) ?_)))))))))))))
  refine dN (aO.ret ?_)
  obtain rfl:_=r:=(aY H:)
  exact bN (hr:=⟨⟨_,_,_,rfl,rfl,bP,rfl,rfl⟩,trivial⟩)
 refine aO.skip (qS (bO H fun x68 z67 H=>(bO H fun x70 z69 H=>(dWa (dI [] (bJ Tryz.func266 (bY fu tC _ z67)) ?_)))))
 refine dEz [107] (fun _ z=>by cases z<;>exact rC ([x68]:List aA) bH b3) ?_;refine dI [1] (aZ gW) (dBz [109] 0 1 (s5 rI) ?_)
 refine dEz [108,110] (fun _ z=>by cases z<;>exact gF [] [0] Tryz.func282 (h_sl12Args ([x68]:List aA) pa0.gArgs _ z69)) ?_;refine dA (fun _ st h=>vAl h b3) (dZ 3 [3,111] (bV dR) (dN ?_))
 iterate 2 refine qS ?_
 refine qR (q1 aF (qN ?_))
 refine aO.fact (cB 0 8 rfl rfl rfl (bC.trs_len _)) (fun hl74=>?_)
 refine cG (σ:=(List aA)) (fun i71 v73=>⟨[(1,.ptr 0 0),(2,.ptr 1 0),(3,.ptr 2 0),(4,pN i71)],⟨[some ⟨87,gK pa0⟩,some ⟨237,[pS s_,.nil]⟩,some ⟨237,[pS x70.gAtom,dM v73 0]⟩],[⟨237,2,aA.trs (v73),false⟩]⟩⟩) (fun v73=>⟨[(2,.ptr 1 0),(3,.ptr 2 0)],⟨[some ⟨87,gK pa0⟩,some ⟨237,[pS s_,.nil]⟩,some ⟨237,[pS x70.gAtom,dM v73 0]⟩],[⟨237,2,aA.trs (v73),false⟩]⟩⟩) (f9 H) ?_ ?_
 ·rintro i71 v73 H
  iterate 2 refine qS ?_
  refine qR (q1 aF (q1 (aZ fE) (q1 (bB oP) (q1 (eM mL (bC.trs_len _)) (q1 gU (qN ?_))))))
  refine eJ H (fun h75 h75l H=>?_) (fun h75 H=>?_)
  ·have h75n:=a7 h75
   refine aO.skip (qS (aO.block (qS (qR (q1 (aZ fE) (q1 (bB oP) (q1 aF (gE H fun y76 h77 H=>(q1 (pA h77 h75n mL) (q1 (j7 (bC.cs y76) af0) (q1 (hH KT) (q1 (bV afY) (qN ?_)))))))))))))
   refine qS (bO H fun x79 z78 H=>(bO H fun x81 z80 H=>(dK H fun z82 H=>(dW (dI [5] (aZ yZ) (dD [124] (bB e8) (dI [125] (bJ Tryz.func266 (bY fu y76.gConstructor _ z78)) (dE [126] (rC ([x79]:List aA) bH b3) (dI [5] (aZ yX) (dB [128] 0 1 (s5 jM) (dI [129] (bJ Tryz.func280 (KD fu y76.gVars _ z80)) (dE [127,130] (lC z82 bH oA) (dI [131] aF ?_)))))))))))))
   refine dN (bO H fun x84 z83 H=>(dK H fun z85 H=>(dK H fun z86 H=>(dW (dI [3] (aZ bF) (dB [132] 0 1 (s5 cN) (dI [6] aF (dI [5] (aZ EK) (dD [135] (c6 [pI y76.gBody.gKind,pS y76.gBody.gTrait,pS y76.gBody.gName,pI y76.gBody.gN,pI y76.gBody.gType.gKind,pS y76.gBody.gType.gName,a6 y76.gBody.gType.gArgs,fD y76.gBody.gArgs,lH y76.gBody.gArms] gC) (dI [136] (bJ Tryz.func270 (h_sl12Sx y76.gBody _ z83)) (dI [137] (iI ([x84]:List aA) bH b3) (dE [134,138] (lC z85 bH oA) (dI [139] (fM b3 lG) ?_)))))))))))))
   refine dI [140] (iI ([(aA.mk s_ ((([x79]:List aA)++x81)++([x84]:List aA)))]:List aA) bH b3) (dE [133,141] (lC z86 bH oA) (dI [3] (aZ bF) (mZ [143,142] (bV vI) (dN (qR (q1 aF (q1 (aW.addI rfl rfl rfl rfl (c:=((i71+1:Nat):Int)) (by omega) (by omega)) (q1 aF (qN ?_)))))))))
   exact jA h75l ⟨_,(aY H:),bZ⟩
  refine aO.exit ?_;exact k7 ⟨_,H,bZ⟩
 rintro v73 H
 refine qS (qR (q1 (c6 [pS x70.gAtom,dM v73 0] bP) (q1 (bV dR) (qN (aO.ret ?_)))))
 obtain rfl:_=r:=(aY H:)
 exact bN (hr:=⟨⟨_,_,_,rfl,rfl,bP,rfl,rfl⟩,trivial⟩)
def XB(fu:Nat)(r_sl12Sx:mS)(r_sl12Args:iR)(phead:List aA)(plist:List aG):Nat→((List aA))→Option (LR ((List aA)) aA):=
 fun i1 v3=>lt (a5 plist i1) (fun y6=>
 bd (r_sl12Sx y6) (fun x9=>
 gd ((v3).length+(([x9]:List aA)).length≤68719476736)
 (some (.next (v3++([x9]:List aA))))))
def WE(fu:Nat)(r_sl12Sx:mS)(r_sl12Args:iR)(phead:List aA)(plist:List aG):Option (aA⊕((List aA))):=
 loopN (XB fu r_sl12Sx r_sl12Args phead plist) (plist.length-0) 0 phead
def EZ(fu:Nat)(r_sl12Sx:mS)(r_sl12Args:iR)(phead:List aA)(plist:List aG):Option aA:=
 so (WE fu r_sl12Sx r_sl12Args phead plist) (fun v3=>
 some (aA.mk s_ v3))
theorem OR(fu:Nat)(r_sl12Sx:mS)(r_sl12Args:iR)(h_sl12Sx:AR r_sl12Sx)(h_sl12Args:yA r_sl12Args):yA (EZ fu r_sl12Sx r_sl12Args):=by
 intro phead plist r H
 have H:=fC H
 refine qI Tryz.func282 (fun C hC=>?_)
 refine qS (qR (q1 (hH b3) (qN (qS (qR (q1 aF (q1 (fM b3 lG) (q1 (hH b3) (q1 (bV dR) (qN ?_))))))))))
 iterate 2 refine qS ?_
 refine qR (q1 aF (qN ?_))
 refine nF 1 (aG.trs_len _) (fun hl4=>?_)
 refine cG (σ:=(List aA)) (fun i1 v3=>⟨[(1,fD plist),(4,.ptr 0 0),(5,.ptr 1 0),(6,pN i1)],⟨[some ⟨237,[pS s_,.nil]⟩,some ⟨237,[pS s_,dM v3 0]⟩],[⟨237,2,aA.trs (v3),false⟩]⟩⟩) (fun v3=>⟨[(4,.ptr 0 0),(5,.ptr 1 0)],⟨[some ⟨237,[pS s_,.nil]⟩,some ⟨237,[pS s_,dM v3 0]⟩],[⟨237,2,aA.trs (v3),false⟩]⟩⟩) (f9 H) ?_ ?_
 ·rintro i1 v3 H
  iterate 2 refine qS ?_
  refine qR ?_
  iterate 2 refine q1 aF ?_
  refine q1 (eM lB (aG.trs_len _)) (q1 gU (qN ?_))
  refine eJ H (fun h5 h5l H=>?_) (fun h5 H=>?_)
  ·have h5n:=a7 h5
   refine aO.skip (qS (aO.block (gE H fun y6 h7 H=>(bO H fun x9 z8 H=>(dK H fun z10 H=>(dW (dI [5] (aZ bF) (dD [15] (bB cN) (dI [1] aF (dI [6] aF (dI [17,18] (pA h7 h5n lB) (dI [19] (j7 (aG.cs y6) gC) (dI [20] (bJ Tryz.func270 (h_sl12Sx y6 _ z8)) ?_)))))))))))))
   refine dI [21] (iI ([x9]:List aA) bH b3) (dE [16,22] (lC z10 bH oA) (dI [5] (aZ bF) (mZ [24,23] (bV vI) (dN (qR (q1 aF (q1 (aW.addI rfl rfl rfl rfl (c:=((i1+1:Nat):Int)) (by omega) (by omega)) (q1 aF (qN ?_)))))))))
   exact jA h5l ⟨_,(aY H:),bZ⟩
  refine aO.exit ?_;exact k7 ⟨_,H,bZ⟩
 rintro v3 H
 refine qS (qR (q1 (c6 [pS s_,dM v3 0] bP) (q1 (bV dR) (qN (aO.ret ?_)))))
 obtain rfl:_=r:=(aY H:)
 exact bN (hr:=⟨⟨_,_,_,rfl,rfl,bP,rfl,rfl⟩,trivial⟩)
mutual
def kJ:Nat→aG→Option aA
 |0,_=>none
 |fu+1,pa0=>MD fu (kJ fu) (mI fu) pa0
def mI:Nat→(List aA)→(List aG)→Option aA
 |0,_,_=>none
 |fu+1,phead,plist=>EZ fu (kJ fu) (mI fu) phead plist
end
theorem X3(fu:Nat):AR (kJ fu)∧yA (mI fu):=by
 induction fu with
 |zero=>exact⟨(fun pa0 r H=>by simp only [kJ] at H;cases H),(fun phead plist r H=>by simp only [mI] at H;cases H)⟩
 |succ fu ih=>exact⟨(fun pa0 r H=>by simp only [kJ] at H;exact WK fu (kJ fu) (mI fu) ih.1 ih.2 pa0 r H),(fun phead plist r H=>by simp only [mI] at H;exact OR fu (kJ fu) (mI fu) ih.1 ih.2 phead plist r H)⟩
theorem H2(fu:Nat):AR (kJ fu):=(X3 fu).1
end
end Go.Proofs.YtpioomclpaiomaaGreat.W

namespace Go.Proofs.YtpioomclpaiomaaGreat.W
set_option maxRecDepth 100000
set_option maxHeartbeats 40000000
noncomputable section
open Go.RowKit Go.Proofs
set_option linter.unusedSimpArgs false
set_option linter.unusedVariables false
attribute [local irreducible] lt
abbrev lY:=aG→Int→Option Int
def xY(m:lY):Prop:= ∀(pe:aG) (pleft:Int) (r:Int),m pe pleft=some r→cH Tryz.prog 293 [(aG.pv pe),pI pleft] (pI r:PV)
def WH(fu:Nat)(r_sl11Left:lY)(pe:aG)(pleft:Int):Nat→Int→Option (LR Int Int):=
 fun i1 v2=>sw (decide ((v2:Int)≥0))
 (lt (a5 pe.gArgs i1) (fun y6=>
 bd (r_sl11Left y6 v2) (fun x9=>
 some (.next x9))))
 (some (.brk v2))
def WZ(fu:Nat)(r_sl11Left:lY)(pe:aG)(pleft:Int):Option (Int⊕Int):=
 loopN (WH fu r_sl11Left pe pleft) (pe.gArgs.length-0) 0 (aQ (pleft-1))
def WC(fu:Nat)(r_sl11Left:lY)(pe:aG)(pleft v2:Int):Nat→Int→Option (LR Int Int):=
 fun i10 v11=>sw (decide ((v11:Int)≥0))
 (lt (a5 pe.gArms i10) (fun y15=>
 bd (r_sl11Left y15.gBody v11) (fun x18=>
 some (.next x18))))
 (some (.brk v11))
def XC(fu:Nat)(r_sl11Left:lY)(pe:aG)(pleft v2:Int):Option (Int⊕Int):=
 loopN (WC fu r_sl11Left pe pleft v2) (pe.gArms.length-0) 0 v2
def FU(fu:Nat)(r_sl11Left:lY)(pe:aG)(pleft:Int):Option Int:=
 so (WZ fu r_sl11Left pe pleft) (fun v2=>
 so (XC fu r_sl11Left pe pleft v2) (fun v11=>
 some v11))
theorem PB(fu:Nat)(r_sl11Left:lY)(h_sl11Left:xY r_sl11Left):xY (FU fu r_sl11Left):=by
 intro pe pleft r H
 have H:=fC H
 refine qI Tryz.func293 (fun C hC=>?_)
 refine qS (qR (q1 (lA (gK pe)) (q1 aF (qN (qS (qR (q1 aF (q1 zZ (q1 aF (qN ?_))))))))))
 iterate 2 refine qS ?_
 refine qR (q1 aF (qN ?_))
 refine aO.fact (cB 0 7 rfl rfl rfl (aG.trs_len _)) (fun hl3=>?_)
 refine cG (σ:=Int) (fun i1 v2=>⟨[(1,pI v2),(2,.ptr 0 0),(4,pI 0),(5,pN i1)],⟨[some ⟨87,gK pe⟩],[]⟩⟩) (fun v2=>⟨[(1,pI v2),(2,.ptr 0 0),(4,pI 0)],⟨[some ⟨87,gK pe⟩],[]⟩⟩) (f9 H) ?_ ?_
 ·rintro i1 v2 H
  iterate 2 refine qS ?_
  refine qR (q1 aF (q1 (aZ gW) (q1 (bB rI) (q1 (eM lB (aG.trs_len _)) (q1 gU (q1 aF ?_))))))
  refine AL.splitB 14 rfl (fun g4=>?_) (fun g4=>?_)
  ·have g4l:=uP g4
   have H:=lnT g4l H
   have g4n:=a7 g4
   refine qg g4 aF (qg g4 P7 (q1 (bS g4) (qN ?_)))
   refine a9 H (fun h5 H=>?_) (fun h5 H=>?_)
   ·refine aO.skip (qS (aO.block (qR (q1 (aZ gW) (q1 (bB rI) (q1 aF (gE H fun y6 h7 H=>(q1 (pA h7 g4n lB) (q1 (j7 (aG.cs y6) gC) (q1 aF (bO H fun x9 z8 H=>(q1 (bJ Tryz.func293 (h_sl11Left y6 v2 _ z8)) (q1 aF ?_)))))))))))))
    refine qN (qR (q1 aF (q1 (aW.addI rfl rfl rfl rfl (c:=((i1+1:Nat):Int)) (by omega) (by omega)) (q1 aF (qN ?_)))))
    exact jA g4l ⟨_,(aY H:),bZ⟩
   refine aO.exit ?_;exact lpB ⟨_,(aY H:),bZ⟩
  have H:=lnE (uZ g4) H
  iterate 2 refine qk g4 ?_
  refine q1 (b4 g4) (qN (kL rfl (aO.exit ?_)))
  exact k7 ⟨_,H,bZ⟩
 rintro v2 H
 iterate 2 refine qS ?_
 refine qR (q1 aF (qN ?_))
 refine aO.fact (cB 0 8 rfl rfl rfl (bC.trs_len _)) (fun hl12=>?_)
 refine cG (σ:=Int) (fun i10 v11=>⟨[(1,pI v11),(2,.ptr 0 0),(4,pI 0),(6,pN i10)],⟨[some ⟨87,gK pe⟩],[]⟩⟩) (fun v11=>⟨[(1,pI v11),(4,pI 0)],⟨[some ⟨87,gK pe⟩],[]⟩⟩) (f9 H) ?_ ?_
 ·rintro i10 v11 H
  iterate 2 refine qS ?_
  refine qR (q1 aF (q1 (aZ fE) (q1 (bB oP) (q1 (eM mL (bC.trs_len _)) (q1 gU (q1 aF ?_))))))
  refine AL.splitB 32 rfl (fun g13=>?_) (fun g13=>?_)
  ·have g13l:=uP g13
   have H:=lnT g13l H
   have g13n:=a7 g13
   refine qg g13 aF (qg g13 P7 (q1 (bS g13) (qN ?_)))
   refine a9 H (fun h14 H=>?_) (fun h14 H=>?_)
   ·refine aO.skip (qS (aO.block (qR (q1 (aZ fE) (q1 (bB oP) (q1 aF (gE H fun y15 h16 H=>(q1 (pA h16 g13n mL) (q1 (nD EK) (q1 (j7 (aG.cs y15.gBody) gC) (q1 aF (bO H fun x18 z17 H=>(q1 (bJ Tryz.func293 (h_sl11Left y15.gBody v11 _ z17)) ?_)))))))))))))
    refine q1 aF (qN (qR (q1 aF (q1 (aW.addI rfl rfl rfl rfl (c:=((i10+1:Nat):Int)) (by omega) (by omega)) (q1 aF (qN ?_))))))
    exact jA g13l ⟨_,(aY H:),bZ⟩
   refine aO.exit ?_;exact lpB ⟨_,(aY H:),bZ⟩
  have H:=lnE (uZ g13) H
  iterate 2 refine qk g13 ?_
  refine q1 (b4 g13) (qN (kL rfl (aO.exit ?_)))
  exact k7 ⟨_,H,bZ⟩
 rintro v11 H
 refine qS (qR ?_)
 iterate 2 refine q1 aF ?_
 refine qN (aO.ret ?_)
 obtain rfl:_=r:=(aY H:)
 exact bN
def k8:Nat→aG→Int→Option Int
 |0,_,_=>none
 |fu+1,pe,pleft=>FU fu (k8 fu) pe pleft
theorem TW(fu:Nat):xY (k8 fu):=by
 induction fu with
 |zero=>exact(fun pe pleft r H=>by simp only [k8] at H;cases H)
 |succ fu ih=>exact(fun pe pleft r H=>by simp only [k8] at H;exact PB fu (k8 fu) ih pe pleft r H)
theorem VF(fu:Nat):xY (k8 fu):=(TW fu)
def ab4(m:Int→Option (Bool×Bool×Bool×Bool×Int×Bool)):Prop:= ∀(pk:Int) (r:Bool×Bool×Bool×Bool×Int×Bool),m pk=some r→cH Tryz.prog 296 [pI pk] (.tup [pB r.1,pB r.2.1,pB r.2.2.1,pB r.2.2.2.1,pI r.2.2.2.2.1,pB r.2.2.2.2.2]:PV)
def YV(fu:Nat)(pk:Int):Option ((Bool×Bool×Bool×Bool×Int×Bool)⊕Bool):=
 sw (decide ((pk:Int)=1))
 (some (.inr (decide ((pk:Int)=1))))
 (some (.inr (decide ((pk:Int)=2))))
def aaH(fu:Nat)(pk:Int)(v1:Bool):Option ((Bool×Bool×Bool×Bool×Int×Bool)⊕Bool):=
 sw (decide ((pk:Int)=4))
 (some (.inr (decide ((pk:Int)=4))))
 (some (.inr (decide ((pk:Int)=6))))
def aaS(fu:Nat)(pk:Int)(v1 v5:Bool):Option ((Bool×Bool×Bool×Bool×Int×Bool)⊕Bool):=
 sw (decide ((pk:Int)=8))
 (some (.inr (decide ((pk:Int)=8))))
 (some (.inr (decide ((pk:Int)=10))))
def H5(fu:Nat)(pk:Int):Option (Bool×Bool×Bool×Bool×Int×Bool):=
 so (YV fu pk) (fun v1=>
 sw (v1)
 (some (false,false,true,false,0,false))
 (sw (decide ((pk:Int)=3))
 (some (false,true,false,false,0,false))
 (so (aaH fu pk v1) (fun v5=>
 sw (v5)
 (some (false,true,false,false,(-1),false))
 (sw (decide ((pk:Int)=5))
 (some (true,true,false,false,(-1),false))
 (sw (decide ((pk:Int)=7))
 (some (false,false,false,false,1,true))
 (so (aaS fu pk v1 v5) (fun v10=>
 sw (v10)
 (some (false,true,false,false,2,false))
 (sw (decide ((pk:Int)=9))
 (some (false,false,false,false,3,false))
 (sw (decide ((pk:Int)=11))
 (some (true,false,false,false,1,false))
 (some (false,false,false,true,1,false))))))))))))
theorem Y7(fu:Nat):ab4 (H5 fu):=by
 intro pk r H
 have H:=fC H
 refine qI Tryz.func296 (fun C hC=>?_)
 refine qS (qR ?_)
 iterate 6 refine q1 aF ?_
 refine qN ?_
 iterate 2 refine qS ?_
 refine qR (q1 aF (qN (aO.block (qS ?_))))
 refine oM (σ:=Bool) (fun v1=>⟨[(2,pB false),(3,pB false),(4,pB false),(5,pB false),(6,pI 0),(7,pB false),(8,pI pk),(9,pB v1)],⟨[],[]⟩⟩) (f9 H) (fun H=>?_) ?_
 ·refine qS (qR (q1 dP (q1 aF (qN ?_))))
  refine a9 H (fun h2 H=>?_) (fun h2 H=>?_)
  ·refine aO.skip ?_;exact dH ⟨_,(aY H:),bZ⟩
  refine qR (q1 dP (q1 aF (qN ?_)))
  exact dH ⟨_,(aY H:),bZ⟩
 rintro v1 H
 refine a9 H (fun h3 H=>?_) (fun h3 H=>?_)
 ·refine qS (qR ?_)
  iterate 6 refine q1 aF ?_
  refine qN (aO.ret ?_)
  obtain rfl:_=r:=(aY H:)
  exact qe (ps:= [_,_,_,_,_,_]) ⟨rfl,rfl⟩ ⟨rfl,rfl,rfl,rfl,rfl,rfl,trivial⟩
 refine qS (qR (q1 dP (q1 aF (qN ?_))))
 refine a9 H (fun h4 H=>?_) (fun h4 H=>?_)
 ·refine qS (qR ?_)
  iterate 6 refine q1 aF ?_
  refine qN (aO.ret ?_)
  obtain rfl:_=r:=(aY H:)
  exact qe (ps:= [_,_,_,_,_,_]) ⟨rfl,rfl⟩ ⟨rfl,rfl,rfl,rfl,rfl,rfl,trivial⟩
 refine qS ?_;refine oM (σ:=Bool) (fun v5=>⟨[(2,pB false),(3,pB false),(4,pB false),(5,pB false),(6,pI 0),(7,pB false),(8,pI pk),(14,pB v5)],⟨[],[]⟩⟩) (f9 H) (fun H=>?_) ?_
 ·refine qS (qR (q1 dP (q1 aF (qN ?_))))
  refine a9 H (fun h6 H=>?_) (fun h6 H=>?_)
  ·refine aO.skip ?_;exact dH ⟨_,(aY H:),bZ⟩
  refine qR (q1 dP (q1 aF (qN ?_)))
  exact dH ⟨_,(aY H:),bZ⟩
 rintro v5 H
 refine a9 H (fun h7 H=>?_) (fun h7 H=>?_)
 ·refine qS (qR ?_)
  iterate 6 refine q1 aF ?_
  refine qN (aO.ret ?_)
  obtain rfl:_=r:=(aY H:)
  exact qe (ps:= [_,_,_,_,_,_]) ⟨rfl,rfl⟩ ⟨rfl,rfl,rfl,rfl,rfl,rfl,trivial⟩
 refine qS (qR (q1 dP (q1 aF (qN ?_))))
 refine a9 H (fun h8 H=>?_) (fun h8 H=>?_)
 ·refine qS (qR ?_)
  iterate 6 refine q1 aF ?_
  refine qN (aO.ret ?_)
  obtain rfl:_=r:=(aY H:)
  exact qe (ps:= [_,_,_,_,_,_]) ⟨rfl,rfl⟩ ⟨rfl,rfl,rfl,rfl,rfl,rfl,trivial⟩
 refine qS (qR (q1 dP (q1 aF (qN ?_))))
 refine a9 H (fun h9 H=>?_) (fun h9 H=>?_)
 ·refine qS (qR ?_)
  iterate 6 refine q1 aF ?_
  refine qN (aO.ret ?_)
  obtain rfl:_=r:=(aY H:)
  exact qe (ps:= [_,_,_,_,_,_]) ⟨rfl,rfl⟩ ⟨rfl,rfl,rfl,rfl,rfl,rfl,trivial⟩
 refine qS ?_;refine oM (σ:=Bool) (fun v10=>⟨[(2,pB false),(3,pB false),(4,pB false),(5,pB false),(6,pI 0),(7,pB false),(8,pI pk),(21,pB v10)],⟨[],[]⟩⟩) (f9 H) (fun H=>?_) ?_
 ·refine qS (qR (q1 dP (q1 aF (qN ?_))))
  refine a9 H (fun h11 H=>?_) (fun h11 H=>?_)
  ·refine aO.skip ?_;exact dH ⟨_,(aY H:),bZ⟩
  refine qR (q1 dP (q1 aF (qN ?_)))
  exact dH ⟨_,(aY H:),bZ⟩
 rintro v10 H
 refine a9 H (fun h12 H=>?_) (fun h12 H=>?_)
 ·refine qS (qR ?_)
  iterate 6 refine q1 aF ?_
  refine qN (aO.ret ?_)
  obtain rfl:_=r:=(aY H:)
  exact qe (ps:= [_,_,_,_,_,_]) ⟨rfl,rfl⟩ ⟨rfl,rfl,rfl,rfl,rfl,rfl,trivial⟩
 refine qS (qR (q1 dP (q1 aF (qN ?_))))
 refine a9 H (fun h13 H=>?_) (fun h13 H=>?_)
 ·refine qS (qR ?_)
  iterate 6 refine q1 aF ?_
  refine qN (aO.ret ?_)
  obtain rfl:_=r:=(aY H:)
  exact qe (ps:= [_,_,_,_,_,_]) ⟨rfl,rfl⟩ ⟨rfl,rfl,rfl,rfl,rfl,rfl,trivial⟩
 refine qS (qR (q1 dP (q1 aF (qN ?_))))
 refine a9 H (fun h14 H=>?_) (fun h14 H=>?_)
 ·refine qS (qR ?_)
  iterate 6 refine q1 aF ?_
  refine qN (aO.ret ?_)
  obtain rfl:_=r:=(aY H:)
  exact qe (ps:= [_,_,_,_,_,_]) ⟨rfl,rfl⟩ ⟨rfl,rfl,rfl,rfl,rfl,rfl,trivial⟩
 refine aO.skip (qS (qR ?_))
 iterate 6 refine q1 aF ?_
 refine qN (aO.ret ?_)
 obtain rfl:_=r:=(aY H:)
 exact qe (ps:= [_,_,_,_,_,_]) ⟨rfl,rfl⟩ ⟨rfl,rfl,rfl,rfl,rfl,rfl,trivial⟩
def YG(m:ByteArray→Option Bool):Prop:= ∀(ps:ByteArray) (r:Bool),m ps=some r→cH Tryz.prog 297 [pS ps] (pB r:PV)
def ED(fu:Nat)(ps:ByteArray):Option Bool:=
 bd (lO fu ([vG,zY,G7,GU,F8]:List ByteArray) ps) (fun x2=>
 some x2)
theorem W7(fu:Nat):YG (ED fu):=by
 intro ps r H
 have H:=fC H
 refine qI Tryz.func297 (fun C hC=>?_)
 refine qS (qR (q1 aF (qN (qS (qR (q1 (iI ([vG,zY,G7,GU,F8]:List ByteArray) bW jZ) (q1 aF (bO H fun x2 z1 H=>(q1 (bJ Tryz.func125 (lR fu ([vG,zY,G7,GU,F8]:List ByteArray) ps _ z1)) (q1 aF (qN (aO.ret ?_))))))))))))
 obtain rfl:_=r:=(aY H:)
 exact bN
def YR(m:aB→Option Bool):Prop:= ∀(pt:aB) (r:Bool),m pt=some r→cH Tryz.prog 277 [(aB.pv pt)] (pB r:PV)
def pK(fu:Nat)(pt:aB):Option Bool:=
 sw (decide ((pt.gKind:Int)=0))
 (sw (decide (pt.gName=s_))
 (some (decide ((((pt.gArgs.length:Nat):Int):Int)=0)))
 (some false))
 (some false)
theorem sW(fu:Nat):YR (pK fu):=by
 intro pt r H
 have H:=fC H
 refine qI Tryz.func277 (fun C hC=>?_)
 refine qS (qR (q1 (lA (fB pt)) (q1 aF (qN (qS (qR (q1 (aZ oQ) (q1 (bB iG) (q1 dP (q1 aF ?_))))))))))
 refine dY 6 H (fun g1 H=>?_) fun g1 H=>?_
 ·refine qg g1 (aZ l6) (qg g1 (bB e8) (qg g1 EC (q1 (bS g1) (q1 aF ?_))))
  refine dY 11 H (fun g2 H=>?_) fun g2 H=>?_
  ·refine qg g2 (aZ iT) (qg g2 (bB nY) (qg g2 (eM fX (aB.trs_len _)) (qg g2 dP (q1 (bS g2) (q1 aF (qN (aO.ret ?_)))))))
   obtain rfl:_=r:=(aY H:)
   exact bN
  iterate 4 refine qk g2 ?_
  refine q1 (b4 g2) (q1 aF (qN (aO.ret ?_)))
  obtain rfl:_=r:=(aY H:)
  exact bN
 iterate 3 refine qk g1 ?_
 refine q1 (b4 g1) (q1 aF ?_)
 iterate 4 refine qk rfl ?_
 refine q1 (b4 rfl) (q1 aF (qN (aO.ret ?_)))
 obtain rfl:_=r:=(aY H:)
 exact bN
abbrev hQ:=aG→Option Bool
def yS(m:hQ):Prop:= ∀(pa0:aG) (r:Bool),m pa0=some r→cH Tryz.prog 294 [(aG.pv pa0)] (pB r:PV)
def VV(fu:Nat)(r_sl11Form:hQ)(pa0:aG)(x2 x3 x4 x5:Bool)(x6:Int)(x7:Bool):Option (Bool⊕Unit):=
 bd (nX fu pa0.gKind 1 12) (fun x9=>
 sw (!(x9))
 (some (.inl false))
 (bd (c5 fu pa0.gTrait) (fun x12=>
 sw (!decide ((x12:Bool)=x2))
 (some (.inl false))
 (sw (!(x2))
 (sw (!decide (pa0.gTrait=s_))
 (some (.inl false))
 (sw (!(x4))
 (sw (!decide ((pa0.gN:Int)=0))
 (some (.inl false))
 (sw (!decide ((decide ((((pa0.gArms.length:Nat):Int):Int)>0):Bool)=x7))
 (some (.inl false))
 (some (.inr ()))))
 (sw (!decide ((decide ((((pa0.gArms.length:Nat):Int):Int)>0):Bool)=x7))
 (some (.inl false))
 (some (.inr ())))))
 (sw (!(x4))
 (sw (!decide ((pa0.gN:Int)=0))
 (some (.inl false))
 (sw (!decide ((decide ((((pa0.gArms.length:Nat):Int):Int)>0):Bool)=x7))
 (some (.inl false))
 (some (.inr ()))))
 (sw (!decide ((decide ((((pa0.gArms.length:Nat):Int):Int)>0):Bool)=x7))
 (some (.inl false))
 (some (.inr ()))))))))
def UM(fu:Nat)(r_sl11Form:hQ)(pa0:aG)(x2 x3 x4 x5:Bool)(x6:Int)(x7:Bool):Option (Bool⊕Unit):=
 sw (decide ((pa0.gKind:Int)=10))
 (bd (ED fu pa0.gName) (fun x26=>
 sw (!(x26))
 (some (.inl false))
 (sw (!decide ((pa0.gKind:Int)=10))
 (bd (c5 fu pa0.gName) (fun x30=>
 sw (!decide ((x30:Bool)=x3))
 (some (.inl false))
 (sw (!(x3))
 (sw (!decide (pa0.gName=s_))
 (some (.inl false))
 (some (.inr ())))
 (some (.inr ())))))
 (some (.inr ())))))
 (sw (!decide ((pa0.gKind:Int)=10))
 (bd (c5 fu pa0.gName) (fun x36=>
 sw (!decide ((x36:Bool)=x3))
 (some (.inl false))
 (sw (!(x3))
 (sw (!decide (pa0.gName=s_))
 (some (.inl false))
 (some (.inr ())))
 (some (.inr ())))))
 (some (.inr ())))
def U3(fu:Nat)(r_sl11Form:hQ)(pa0:aG)(x2 x3 x4 x5:Bool)(x6:Int)(x7:Bool):Option (Bool⊕Unit):=
 sw (decide ((x6:Int)≥0))
 (sw (!decide ((((pa0.gArgs.length:Nat):Int):Int)=x6))
 (some (.inl false))
 (sw (decide ((pa0.gKind:Int)=5))
 (sw (decide ((((pa0.gArgs.length:Nat):Int):Int)=0))
 (some (.inl false))
 (sw (x5)
 (bd (iL fu pa0.gType) (fun x46=>
 sw (!(x46))
 (some (.inl false))
 (some (.inr ()))))
 (bd (pK fu pa0.gType) (fun x49=>
 sw (!(x49))
 (some (.inl false))
 (some (.inr ()))))))
 (sw (x5)
 (bd (iL fu pa0.gType) (fun x53=>
 sw (!(x53))
 (some (.inl false))
 (some (.inr ()))))
 (bd (pK fu pa0.gType) (fun x56=>
 sw (!(x56))
 (some (.inl false))
 (some (.inr ())))))))
 (sw (decide ((pa0.gKind:Int)=5))
 (sw (decide ((((pa0.gArgs.length:Nat):Int):Int)=0))
 (some (.inl false))
 (sw (x5)
 (bd (iL fu pa0.gType) (fun x62=>
 sw (!(x62))
 (some (.inl false))
 (some (.inr ()))))
 (bd (pK fu pa0.gType) (fun x65=>
 sw (!(x65))
 (some (.inl false))
 (some (.inr ()))))))
 (sw (x5)
 (bd (iL fu pa0.gType) (fun x69=>
 sw (!(x69))
 (some (.inl false))
 (some (.inr ()))))
 (bd (pK fu pa0.gType) (fun x72=>
 sw (!(x72))
 (some (.inl false))
 (some (.inr ()))))))
def XG(fu:Nat)(r_sl11Form:hQ)(pa0:aG)(x2 x3 x4 x5:Bool)(x6:Int)(x7:Bool):Option (Bool⊕Unit):=
 sw (decide ((pa0.gKind:Int)=1))
 (bd (nX fu pa0.gN (-999999) 999999) (fun x76=>
 sw (!(x76))
 (some (.inl false))
 (some (.inr ()))))
 (sw (decide ((pa0.gKind:Int)=2))
 (bd (nX fu pa0.gN 0 1) (fun x80=>
 sw (!(x80))
 (some (.inl false))
 (some (.inr ()))))
 (some (.inr ())))
def UP(fu:Nat)(r_sl11Form:hQ)(pa0:aG)(x2 x3 x4 x5:Bool)(x6:Int)(x7:Bool):Nat→Unit→Option (LR Unit Bool):=
 fun i82 _=>lt (a5 pa0.gArgs i82) (fun y85=>
 bd (r_sl11Form y85) (fun x88=>
 sw (!(x88))
 (some (.ret false))
 (some (.next ()))))
def WL(fu:Nat)(r_sl11Form:hQ)(pa0:aG)(x2 x3 x4 x5:Bool)(x6:Int)(x7:Bool):Option (Bool⊕Unit):=
 loopN (UP fu r_sl11Form pa0 x2 x3 x4 x5 x6 x7) (pa0.gArgs.length-0) 0 ()
def WW(fu:Nat)(r_sl11Form:hQ)(pa0:aG)(x2 x3 x4 x5:Bool)(x6:Int)(x7:Bool):Nat→Unit→Option (LR Unit Bool):=
 fun i90 _=>lt (a5 pa0.gArms i90) (fun y93=>
 bd (c5 fu y93.gConstructor) (fun x96=>
 sw (!(x96))
 (some (.ret false))
 (bd (xW fu y93.gVars) (fun x99=>
 sw (!(x99))
 (some (.ret false))
 (bd (iJ fu y93.gVars) (fun x102=>
 sw (!(x102))
 (some (.ret false))
 (bd (r_sl11Form y93.gBody) (fun x105=>
 sw (!(x105))
 (some (.ret false))
 (some (.next ()))))))))))
def UZ(fu:Nat)(r_sl11Form:hQ)(pa0:aG)(x2 x3 x4 x5:Bool)(x6:Int)(x7:Bool):Option (Bool⊕Unit):=
 loopN (WW fu r_sl11Form pa0 x2 x3 x4 x5 x6 x7) (pa0.gArms.length-0) 0 ()
def E7(fu:Nat)(r_sl11Form:hQ)(pa0:aG):Option Bool:=
 bd (H5 fu pa0.gKind) (fun(x2,x3,x4,x5,x6,x7)=>
 so (VV fu r_sl11Form pa0 x2 x3 x4 x5 x6 x7) (fun _=>
 so (UM fu r_sl11Form pa0 x2 x3 x4 x5 x6 x7) (fun _=>
 so (U3 fu r_sl11Form pa0 x2 x3 x4 x5 x6 x7) (fun _=>
 so (XG fu r_sl11Form pa0 x2 x3 x4 x5 x6 x7) (fun _=>
 so (WL fu r_sl11Form pa0 x2 x3 x4 x5 x6 x7) (fun _=>
 so (UZ fu r_sl11Form pa0 x2 x3 x4 x5 x6 x7) (fun _=>
 some true)))))))
theorem OD(fu:Nat)(r_sl11Form:hQ)(h_sl11Form:yS r_sl11Form):yS (E7 fu r_sl11Form):=by
 intro pa0 r H
 have H:=fC H
 refine qI Tryz.func294 (fun C hC=>?_)
 refine qS (qR (q1 (lA (gK pa0)) (q1 aF (qN (qS (qR (q1 (aZ pV) (q1 (bB iG) ?_))))))))
 obtain⟨⟨x2,x3,x4,x5,x6,x7⟩,z1,H⟩:=bdI H
 refine q1 (bJ Tryz.func296 (Y7 fu pa0.gKind _ z1)) (q1 aF ?_)
 iterate 6 refine q1 KJ ?_
 iterate 6 refine q1 aF ?_
 refine qN (qS ?_)
 refine oM (σ:=Unit) (fun _=>⟨[(1,.ptr 0 0),(2,pB false),(4,pB x3),(6,pB x5),(7,pI x6)],⟨[some ⟨87,gK pa0⟩],[]⟩⟩) (f9 H) (fun H=>?_) ?_
 ·refine qS (qR (q1 (aZ pV) (q1 (bB iG) (bO H fun x9 z8 H=>(q1 (bJ Tryz.func108 (sY fu pa0.gKind 1 12 _ z8)) (q1 gS (q1 aF ?_)))))))
  refine dY 26 H (fun g10 H=>?_) fun g10 H=>?_
  ·refine qk g10 ?_
   iterate 4 refine qk g10 ?_
   refine q1 (bS g10) (q1 aF ?_)
   iterate 3 refine qk rfl ?_
   iterate 3 refine F1 ?_
   refine qk rfl (q1 (bS rfl) (q1 aF ?_))
   iterate 3 refine qk rfl ?_
   iterate 3 refine F1 ?_
   refine qk rfl (q1 (bS rfl) (q1 aF ?_))
   iterate 6 refine qk rfl ?_
   refine q1 (bS rfl) (qN (dT rfl (qS (qR (q1 aF (qN (aO.ret ?_)))))))
   obtain rfl:_=r:=(zV (aY H):)
   exact bN
  refine qg g10 (aZ IH) (qg g10 (bB e8) (bO H fun x12 z11 H=>(qg g10 (bJ Tryz.func235 (dJ fu pa0.gTrait _ z11)) (qg g10 aF (qg g10 (aW.neqB rfl rfl rfl rfl Tryz.underlying4) (q1 (b4 g10) (q1 aF ?_)))))))
  refine dY 33 H (fun g13 H=>?_) fun g13 H=>?_
  ·refine qk g13 ?_
   iterate 2 refine qk g13 ?_
   iterate 3 refine F1 ?_
   refine qk g13 (q1 (bS g13) (q1 aF ?_))
   iterate 3 refine qk rfl ?_
   iterate 3 refine F1 ?_
   refine qk rfl (q1 (bS rfl) (q1 aF ?_))
   iterate 6 refine qk rfl ?_
   refine q1 (bS rfl) (qN (dT rfl (qS (qR (q1 aF (qN (aO.ret ?_)))))))
   obtain rfl:_=r:=(zV (aY H):)
   exact bN
  refine qg g13 aF (qg g13 gS (qg g13 aF ?_))
  refine dY 36 H (fun g14 H=>?_) fun g14 H=>?_
  ·refine qg g14 (aZ IH) (qg g14 (bB e8) (qg g14 O9 (qg g13 (bS g14) (q1 (b4 g13) (q1 aF ?_)))))
   refine dY 42 H (fun g15 H=>?_) fun g15 H=>?_
   ·refine qk g15 ?_
    iterate 2 refine qk g15 ?_
    iterate 3 refine F1 ?_
    refine qk g15 (q1 (bS g15) (q1 aF ?_))
    iterate 6 refine qk rfl ?_
    refine q1 (bS rfl) (qN (dT rfl (qS (qR (q1 aF (qN (aO.ret ?_)))))))
    obtain rfl:_=r:=(zV (aY H):)
    exact bN
   refine qg g15 aF (qg g15 gS (qg g15 aF ?_))
   refine dY 45 H (fun g16 H=>?_) fun g16 H=>?_
   ·refine qg g16 (aZ BD) (qg g16 (bB iG) (qg g16 QI (qg g15 (bS g16) (q1 (b4 g15) (q1 aF ?_)))))
    refine dY 51 H (fun g17 H=>?_) fun g17 H=>?_
    ·refine qk g17 ?_
     iterate 5 refine qk g17 ?_
     refine q1 (bS g17) (qN (dT rfl (qS (qR (q1 aF (qN (aO.ret ?_)))))))
     obtain rfl:_=r:=(zV (aY H):)
     exact bN
    refine qg g17 (aZ fE) (qg g17 (bB oP) (qg g17 (eM mL (bC.trs_len _)) (qg g17 HB (qg g17 aF (qg g17 (aW.neqB rfl rfl rfl rfl Tryz.underlying4) (q1 (b4 g17) (qN ?_)))))))
    refine a9 H (fun h18 H=>?_) (fun h18 H=>?_)
    ·refine qS (qR (q1 aF (qN (aO.ret ?_))))
     obtain rfl:_=r:=(zV (aY H):)
     exact bN
    refine aO.skip ?_;exact dH ⟨_,(aY H:),bZ⟩
   iterate 3 refine qk g16 ?_
   refine qg g15 (b4 g16) (q1 (b4 g15) (q1 aF (qg rfl (aZ fE) (qg rfl (bB oP) (qg rfl (eM mL (bC.trs_len _)) (qg rfl HB (qg rfl aF (qg rfl (aW.neqB rfl rfl rfl rfl Tryz.underlying4) (q1 (b4 rfl) (qN ?_))))))))))
   refine a9 H (fun h19 H=>?_) (fun h19 H=>?_)
   ·refine qS (qR (q1 aF (qN (aO.ret ?_))))
    obtain rfl:_=r:=(zV (aY H):)
    exact bN
   refine aO.skip ?_;exact dH ⟨_,(aY H:),bZ⟩
  iterate 3 refine qk g14 ?_
  refine qg g13 (b4 g14) (q1 (b4 g13) (q1 aF (qg rfl aF (qg rfl gS (qg rfl aF ?_)))))
  refine dY 45 H (fun g20 H=>?_) fun g20 H=>?_
  ·refine qg g20 (aZ BD) (qg g20 (bB iG) (qg g20 QI (qg rfl (bS g20) (q1 (b4 rfl) (q1 aF ?_)))))
   refine dY 51 H (fun g21 H=>?_) fun g21 H=>?_
   ·refine qk g21 ?_
    iterate 5 refine qk g21 ?_
    refine q1 (bS g21) (qN (dT rfl (qS (qR (q1 aF (qN (aO.ret ?_)))))))
    obtain rfl:_=r:=(zV (aY H):)
    exact bN
   refine qg g21 (aZ fE) (qg g21 (bB oP) (qg g21 (eM mL (bC.trs_len _)) (qg g21 HB (qg g21 aF (qg g21 (aW.neqB rfl rfl rfl rfl Tryz.underlying4) (q1 (b4 g21) (qN ?_)))))))
   refine a9 H (fun h22 H=>?_) (fun h22 H=>?_)
   ·refine qS (qR (q1 aF (qN (aO.ret ?_))))
    obtain rfl:_=r:=(zV (aY H):)
    exact bN
   refine aO.skip ?_;exact dH ⟨_,(aY H:),bZ⟩
  iterate 3 refine qk g20 ?_
  refine qg rfl (b4 g20) (q1 (b4 rfl) (q1 aF (qg rfl (aZ fE) (qg rfl (bB oP) (qg rfl (eM mL (bC.trs_len _)) (qg rfl HB (qg rfl aF (qg rfl (aW.neqB rfl rfl rfl rfl Tryz.underlying4) (q1 (b4 rfl) (qN ?_))))))))))
  refine a9 H (fun h23 H=>?_) (fun h23 H=>?_)
  ·refine qS (qR (q1 aF (qN (aO.ret ?_))))
   obtain rfl:_=r:=(zV (aY H):)
   exact bN
  refine aO.skip ?_;exact dH ⟨_,(aY H:),bZ⟩
 rintro⟨⟩ H
 refine qS ?_;refine oM (σ:=Unit) (fun _=>⟨[(1,.ptr 0 0),(2,pB false),(6,pB x5),(7,pI x6)],⟨[some ⟨87,gK pa0⟩],[]⟩⟩) (f9 H) (fun H=>?_) ?_
 ·refine qS (qR (q1 (aZ pV) (q1 (bB iG) (q1 dP (q1 aF ?_)))))
  refine dY 62 H (fun g24 H=>?_) fun g24 H=>?_
  ·refine qg g24 (aZ nN) (qg g24 (bB e8) (bO H fun x26 z25 H=>(qg g24 (bJ Tryz.func297 (W7 fu pa0.gName _ z25)) (qg g24 gS (q1 (bS g24) (q1 aF ?_))))))
   refine dY 68 H (fun g27 H=>?_) fun g27 H=>?_
   ·refine qk g27 ?_
    iterate 3 refine qk g27 ?_
    iterate 14 refine F1 ?_
    refine qk g27 (q1 (bS g27) (qN (dT rfl (qS (qR (q1 aF (qN (aO.ret ?_))))))))
    obtain rfl:_=r:=(zV (aY H):)
    exact bN
   refine qg g27 (aZ pV) (qg g27 (bB iG) (qg g27 QI (qg g27 aF ?_)))
   refine dY 72 H (fun g28 H=>?_) fun g28 H=>?_
   ·refine qg g28 (aZ nN) (qg g28 (bB e8) (bO H fun x30 z29 H=>(qg g28 (bJ Tryz.func235 (dJ fu pa0.gName _ z29)) (qg g28 aF (qg g28 (aW.neqB rfl rfl rfl rfl Tryz.underlying4) (qg g28 aF ?_))))))
    refine dY 78 H (fun g31 H=>?_) fun g31 H=>?_
    ·refine qk g31 ?_
     iterate 2 refine qk g31 ?_
     iterate 3 refine F1 ?_
     refine qk g31 (qg g28 (bS g31) (qg g27 (bS g28) (q1 (b4 g27) (qN (dT rfl (qS (qR (q1 aF (qN (aO.ret ?_))))))))))
     obtain rfl:_=r:=(zV (aY H):)
     exact bN
    refine qg g31 aF (qg g31 gS (qg g31 aF ?_))
    refine dY 81 H (fun g32 H=>?_) fun g32 H=>?_
    ·refine qg g32 (aZ nN) (qg g32 (bB e8) (qg g32 O9 (qg g31 (bS g32) (qg g28 (b4 g31) (qg g27 (bS g28) (q1 (b4 g27) (qN ?_)))))))
     refine a9 H (fun h33 H=>?_) (fun h33 H=>?_)
     ·refine qS (qR (q1 aF (qN (aO.ret ?_))))
      obtain rfl:_=r:=(zV (aY H):)
      exact bN
     refine aO.skip ?_;exact dH ⟨_,(aY H:),bZ⟩
    iterate 3 refine qk g32 ?_
    refine qg g31 (b4 g32) (qg g28 (b4 g31) (qg g27 (bS g28) (q1 (b4 g27) (qN (kL rfl (aO.skip ?_))))))
    exact dH ⟨_,(aY H:),bZ⟩
   iterate 6 refine qk g28 ?_
   iterate 7 refine F1 ?_
   refine qk g28 (qg g27 (b4 g28) (q1 (b4 g27) (qN (kL rfl (aO.skip ?_)))))
   exact dH ⟨_,(aY H:),bZ⟩
  iterate 4 refine qk g24 ?_
  refine q1 (b4 g24) (q1 aF (qg rfl (aZ pV) (qg rfl (bB iG) (qg rfl QI (qg rfl aF ?_)))))
  refine dY 72 H (fun g34 H=>?_) fun g34 H=>?_
  ·refine qg g34 (aZ nN) (qg g34 (bB e8) (bO H fun x36 z35 H=>(qg g34 (bJ Tryz.func235 (dJ fu pa0.gName _ z35)) (qg g34 aF (qg g34 (aW.neqB rfl rfl rfl rfl Tryz.underlying4) (qg g34 aF ?_))))))
   refine dY 78 H (fun g37 H=>?_) fun g37 H=>?_
   ·refine qk g37 ?_
    iterate 2 refine qk g37 ?_
    iterate 3 refine F1 ?_
    refine qk g37 (qg g34 (bS g37) (qg rfl (bS g34) (q1 (b4 rfl) (qN (dT rfl (qS (qR (q1 aF (qN (aO.ret ?_))))))))))
    obtain rfl:_=r:=(zV (aY H):)
    exact bN
   refine qg g37 aF (qg g37 gS (qg g37 aF ?_))
   refine dY 81 H (fun g38 H=>?_) fun g38 H=>?_
   ·refine qg g38 (aZ nN) (qg g38 (bB e8) (qg g38 O9 (qg g37 (bS g38) (qg g34 (b4 g37) (qg rfl (bS g34) (q1 (b4 rfl) (qN ?_)))))))
    refine a9 H (fun h39 H=>?_) (fun h39 H=>?_)
    ·refine qS (qR (q1 aF (qN (aO.ret ?_))))
     obtain rfl:_=r:=(zV (aY H):)
     exact bN
    refine aO.skip ?_;exact dH ⟨_,(aY H:),bZ⟩
   iterate 3 refine qk g38 ?_
   refine qg g37 (b4 g38) (qg g34 (b4 g37) (qg rfl (bS g34) (q1 (b4 rfl) (qN (kL rfl (aO.skip ?_))))))
   exact dH ⟨_,(aY H:),bZ⟩
  iterate 6 refine qk g34 ?_
  iterate 7 refine F1 ?_
  refine qk g34 (qg rfl (b4 g34) (q1 (b4 rfl) (qN (kL rfl (aO.skip ?_)))))
  exact dH ⟨_,(aY H:),bZ⟩
 rintro⟨⟩ H
 refine qS ?_;refine oM (σ:=Unit) (fun _=>⟨[(1,.ptr 0 0),(2,pB false)],⟨[some ⟨87,gK pa0⟩],[]⟩⟩) (f9 H) (fun H=>?_) ?_
 ·refine qS (qR (q1 aF (q1 P7 (q1 aF ?_))))
  refine dY 91 H (fun g40 H=>?_) fun g40 H=>?_
  ·refine qg g40 (aZ gW) (qg g40 (bB rI) (qg g40 (eM lB (aG.trs_len _)) (qg g40 aF (qg g40 QI (q1 (bS g40) (q1 aF ?_))))))
   refine dY 98 H (fun g41 H=>?_) fun g41 H=>?_
   ·refine qk g41 ?_
    iterate 3 refine qk g41 ?_
    iterate 4 refine F1 ?_
    refine qk g41 (q1 (bS g41) (q1 aF ?_))
    iterate 2 refine qk rfl ?_
    iterate 4 refine F1 ?_
    refine qk rfl (q1 (bS rfl) (q1 aF ?_))
    iterate 3 refine qk rfl ?_
    iterate 4 refine F1 ?_
    refine qk rfl (q1 (bS rfl) (qN (dT rfl (qS (qR (q1 aF (qN (aO.ret ?_))))))))
    obtain rfl:_=r:=(zV (aY H):)
    exact bN
   refine qg g41 (aZ pV) (qg g41 (bB iG) (qg g41 dP (qg g41 aF ?_)))
   refine dY 102 H (fun g42 H=>?_) fun g42 H=>?_
   ·refine qg g42 (aZ gW) (qg g42 (bB rI) (qg g42 (eM lB (aG.trs_len _)) (qg g42 dP (qg g41 (bS g42) (q1 (b4 g41) (q1 aF ?_))))))
    refine dY 109 H (fun g43 H=>?_) fun g43 H=>?_
    ·refine qk g43 (qk g43 ?_)
     iterate 4 refine F1 ?_
     refine qk g43 (q1 (bS g43) (q1 aF ?_))
     iterate 3 refine qk rfl ?_
     iterate 4 refine F1 ?_
     refine qk rfl (q1 (bS rfl) (qN (dT rfl (qS (qR (q1 aF (qN (aO.ret ?_))))))))
     obtain rfl:_=r:=(zV (aY H):)
     exact bN
    iterate 2 refine qg g43 aF ?_
    refine dY 111 H (fun g44 H=>?_) fun g44 H=>?_
    ·refine qg g44 (aZ pP) (qg g44 (c6 [pI pa0.gType.gKind,pS pa0.gType.gName,a6 pa0.gType.gArgs] dL) (bO H fun x46 z45 H=>(qg g44 (bJ Tryz.func284 (j9 fu pa0.gType _ z45)) (qg g44 gS (qg g43 (bS g44) (q1 (b4 g43) (q1 aF ?_)))))))
     refine dY 118 H (fun g47 H=>?_) fun g47 H=>?_
     ·refine qk g47 ?_
      iterate 2 refine qk g47 ?_
      iterate 4 refine F1 ?_
      refine qk g47 (q1 (bS g47) (qN (dT rfl (qS (qR (q1 aF (qN (aO.ret ?_))))))))
      obtain rfl:_=r:=(zV (aY H):)
      exact bN
     refine qg g47 aF (qg g47 gS (qg g47 aF ?_))
     iterate 4 refine qk (congrArg (fun b=> !b) g44) ?_
     refine qg g47 (b4 (congrArg (fun b=> !b) g44)) (q1 (b4 g47) (qN (kL rfl (aO.skip ?_))))
     exact dH ⟨_,(aY H:),bZ⟩
    iterate 4 refine qk g44 ?_
    refine qg g43 (b4 g44) (q1 (b4 g43) (q1 aF (qg rfl aF (qg rfl gS (qg rfl aF (qg (congrArg (fun b=> !b) g44) (aZ pP) (qg (congrArg (fun b=> !b) g44) (c6 [pI pa0.gType.gKind,pS pa0.gType.gName,a6 pa0.gType.gArgs] dL) (bO H fun x49 z48 H=>(qg (congrArg (fun b=> !b) g44) (bJ Tryz.func277 (sW fu pa0.gType _ z48)) (qg (congrArg (fun b=> !b) g44) gS (qg rfl (bS (congrArg (fun b=> !b) g44)) (q1 (b4 rfl) (qN ?_)))))))))))))
    refine a9 H (fun h50 H=>?_) (fun h50 H=>?_)
    ·refine qS (qR (q1 aF (qN (aO.ret ?_))))
     obtain rfl:_=r:=(zV (aY H):)
     exact bN
    refine aO.skip ?_;exact dH ⟨_,(aY H:),bZ⟩
   iterate 4 refine qk g42 ?_
   refine qg g41 (b4 g42) (q1 (b4 g41) (q1 aF ?_))
   iterate 2 refine qg rfl aF ?_
   refine dY 111 H (fun g51 H=>?_) fun g51 H=>?_
   ·refine qg g51 (aZ pP) (qg g51 (c6 [pI pa0.gType.gKind,pS pa0.gType.gName,a6 pa0.gType.gArgs] dL) (bO H fun x53 z52 H=>(qg g51 (bJ Tryz.func284 (j9 fu pa0.gType _ z52)) (qg g51 gS (qg rfl (bS g51) (q1 (b4 rfl) (q1 aF ?_)))))))
    refine dY 118 H (fun g54 H=>?_) fun g54 H=>?_
    ·refine qk g54 ?_
     iterate 2 refine qk g54 ?_
     iterate 4 refine F1 ?_
     refine qk g54 (q1 (bS g54) (qN (dT rfl (qS (qR (q1 aF (qN (aO.ret ?_))))))))
     obtain rfl:_=r:=(zV (aY H):)
     exact bN
    refine qg g54 aF (qg g54 gS (qg g54 aF ?_))
    iterate 4 refine qk (congrArg (fun b=> !b) g51) ?_
    refine qg g54 (b4 (congrArg (fun b=> !b) g51)) (q1 (b4 g54) (qN (kL rfl (aO.skip ?_))))
    exact dH ⟨_,(aY H:),bZ⟩
   iterate 4 refine qk g51 ?_
   refine qg rfl (b4 g51) (q1 (b4 rfl) (q1 aF (qg rfl aF (qg rfl gS (qg rfl aF (qg (congrArg (fun b=> !b) g51) (aZ pP) (qg (congrArg (fun b=> !b) g51) (c6 [pI pa0.gType.gKind,pS pa0.gType.gName,a6 pa0.gType.gArgs] dL) (bO H fun x56 z55 H=>(qg (congrArg (fun b=> !b) g51) (bJ Tryz.func277 (sW fu pa0.gType _ z55)) (qg (congrArg (fun b=> !b) g51) gS (qg rfl (bS (congrArg (fun b=> !b) g51)) (q1 (b4 rfl) (qN ?_)))))))))))))
   refine a9 H (fun h57 H=>?_) (fun h57 H=>?_)
   ·refine qS (qR (q1 aF (qN (aO.ret ?_))))
    obtain rfl:_=r:=(zV (aY H):)
    exact bN
   refine aO.skip ?_;exact dH ⟨_,(aY H:),bZ⟩
  iterate 5 refine qk g40 ?_
  refine q1 (b4 g40) (q1 aF (qg rfl (aZ pV) (qg rfl (bB iG) (qg rfl dP (qg rfl aF ?_)))))
  refine dY 102 H (fun g58 H=>?_) fun g58 H=>?_
  ·refine qg g58 (aZ gW) (qg g58 (bB rI) (qg g58 (eM lB (aG.trs_len _)) (qg g58 dP (qg rfl (bS g58) (q1 (b4 rfl) (q1 aF ?_))))))
   refine dY 109 H (fun g59 H=>?_) fun g59 H=>?_
   ·refine qk g59 (qk g59 ?_)
    iterate 4 refine F1 ?_
    refine qk g59 (q1 (bS g59) (q1 aF ?_))
    iterate 3 refine qk rfl ?_
    iterate 4 refine F1 ?_
    refine qk rfl (q1 (bS rfl) (qN (dT rfl (qS (qR (q1 aF (qN (aO.ret ?_))))))))
    obtain rfl:_=r:=(zV (aY H):)
    exact bN
   iterate 2 refine qg g59 aF ?_
   refine dY 111 H (fun g60 H=>?_) fun g60 H=>?_
   ·refine qg g60 (aZ pP) (qg g60 (c6 [pI pa0.gType.gKind,pS pa0.gType.gName,a6 pa0.gType.gArgs] dL) (bO H fun x62 z61 H=>(qg g60 (bJ Tryz.func284 (j9 fu pa0.gType _ z61)) (qg g60 gS (qg g59 (bS g60) (q1 (b4 g59) (q1 aF ?_)))))))
    refine dY 118 H (fun g63 H=>?_) fun g63 H=>?_
    ·refine qk g63 ?_
     iterate 2 refine qk g63 ?_
     iterate 4 refine F1 ?_
     refine qk g63 (q1 (bS g63) (qN (dT rfl (qS (qR (q1 aF (qN (aO.ret ?_))))))))
     obtain rfl:_=r:=(zV (aY H):)
     exact bN
    refine qg g63 aF (qg g63 gS (qg g63 aF ?_))
    iterate 4 refine qk (congrArg (fun b=> !b) g60) ?_
    refine qg g63 (b4 (congrArg (fun b=> !b) g60)) (q1 (b4 g63) (qN (kL rfl (aO.skip ?_))))
    exact dH ⟨_,(aY H:),bZ⟩
   iterate 4 refine qk g60 ?_
   refine qg g59 (b4 g60) (q1 (b4 g59) (q1 aF (qg rfl aF (qg rfl gS (qg rfl aF (qg (congrArg (fun b=> !b) g60) (aZ pP) (qg (congrArg (fun b=> !b) g60) (c6 [pI pa0.gType.gKind,pS pa0.gType.gName,a6 pa0.gType.gArgs] dL) (bO H fun x65 z64 H=>(qg (congrArg (fun b=> !b) g60) (bJ Tryz.func277 (sW fu pa0.gType _ z64)) (qg (congrArg (fun b=> !b) g60) gS (qg rfl (bS (congrArg (fun b=> !b) g60)) (q1 (b4 rfl) (qN ?_)))))))))))))
   refine a9 H (fun h66 H=>?_) (fun h66 H=>?_)
   ·refine qS (qR (q1 aF (qN (aO.ret ?_))))
    obtain rfl:_=r:=(zV (aY H):)
    exact bN
   refine aO.skip ?_;exact dH ⟨_,(aY H:),bZ⟩
  iterate 4 refine qk g58 ?_
  refine qg rfl (b4 g58) (q1 (b4 rfl) (q1 aF ?_))
  iterate 2 refine qg rfl aF ?_
  refine dY 111 H (fun g67 H=>?_) fun g67 H=>?_
  ·refine qg g67 (aZ pP) (qg g67 (c6 [pI pa0.gType.gKind,pS pa0.gType.gName,a6 pa0.gType.gArgs] dL) (bO H fun x69 z68 H=>(qg g67 (bJ Tryz.func284 (j9 fu pa0.gType _ z68)) (qg g67 gS (qg rfl (bS g67) (q1 (b4 rfl) (q1 aF ?_)))))))
   refine dY 118 H (fun g70 H=>?_) fun g70 H=>?_
   ·refine qk g70 ?_
    iterate 2 refine qk g70 ?_
    iterate 4 refine F1 ?_
    refine qk g70 (q1 (bS g70) (qN (dT rfl (qS (qR (q1 aF (qN (aO.ret ?_))))))))
    obtain rfl:_=r:=(zV (aY H):)
    exact bN
   refine qg g70 aF (qg g70 gS (qg g70 aF ?_))
   iterate 4 refine qk (congrArg (fun b=> !b) g67) ?_
   refine qg g70 (b4 (congrArg (fun b=> !b) g67)) (q1 (b4 g70) (qN (kL rfl (aO.skip ?_))))
   exact dH ⟨_,(aY H:),bZ⟩
  iterate 4 refine qk g67 ?_
  refine qg rfl (b4 g67) (q1 (b4 rfl) (q1 aF (qg rfl aF (qg rfl gS (qg rfl aF (qg (congrArg (fun b=> !b) g67) (aZ pP) (qg (congrArg (fun b=> !b) g67) (c6 [pI pa0.gType.gKind,pS pa0.gType.gName,a6 pa0.gType.gArgs] dL) (bO H fun x72 z71 H=>(qg (congrArg (fun b=> !b) g67) (bJ Tryz.func277 (sW fu pa0.gType _ z71)) (qg (congrArg (fun b=> !b) g67) gS (qg rfl (bS (congrArg (fun b=> !b) g67)) (q1 (b4 rfl) (qN ?_)))))))))))))
  refine a9 H (fun h73 H=>?_) (fun h73 H=>?_)
  ·refine qS (qR (q1 aF (qN (aO.ret ?_))))
   obtain rfl:_=r:=(zV (aY H):)
   exact bN
  refine aO.skip ?_;exact dH ⟨_,(aY H:),bZ⟩
 rintro⟨⟩ H
 refine qS ?_;refine oM (σ:=Unit) (fun _=>⟨[(1,.ptr 0 0),(2,pB false)],⟨[some ⟨87,gK pa0⟩],[]⟩⟩) (f9 H) (fun H=>?_) ?_
 ·refine qS (qR (q1 (aZ pV) (q1 (bB iG) (q1 dP (q1 aF ?_)))))
  refine dY 131 H (fun g74 H=>?_) fun g74 H=>?_
  ·refine qg g74 (aZ BD) (qg g74 (bB iG) (bO H fun x76 z75 H=>(qg g74 (bJ Tryz.func108 (sY fu pa0.gN (-999999) 999999 _ z75)) (qg g74 gS (q1 (bS g74) (q1 aF ?_))))))
   refine dY 137 H (fun g77 H=>?_) fun g77 H=>?_
   ·refine qk g77 ?_
    iterate 3 refine qk g77 ?_
    iterate 4 refine F1 ?_
    refine qk g77 (q1 (bS g77) (qN (dT rfl (qS (qR (q1 aF (qN (aO.ret ?_))))))))
    obtain rfl:_=r:=(zV (aY H):)
    exact bN
   refine qg g77 (aZ pV) (qg g77 (bB iG) (qg g77 dP (qg g77 aF ?_)))
   iterate 4 refine qk (dne (b:=2) g74 (by decide)) ?_
   refine qg g77 (b4 (dne (b:=2) g74 (by decide))) (q1 (b4 g77) (qN (kL rfl (aO.skip ?_))))
   exact dH ⟨_,(aY H:),bZ⟩
  iterate 4 refine qk g74 ?_
  refine q1 (b4 g74) (q1 aF (qg rfl (aZ pV) (qg rfl (bB iG) (qg rfl dP (qg rfl aF ?_)))))
  refine dY 141 H (fun g78 H=>?_) fun g78 H=>?_
  ·refine qg g78 (aZ BD) (qg g78 (bB iG) (bO H fun x80 z79 H=>(qg g78 (bJ Tryz.func108 (sY fu pa0.gN 0 1 _ z79)) (qg g78 gS (qg rfl (bS g78) (q1 (b4 rfl) (qN ?_)))))))
   refine a9 H (fun h81 H=>?_) (fun h81 H=>?_)
   ·refine qS (qR (q1 aF (qN (aO.ret ?_))))
    obtain rfl:_=r:=(zV (aY H):)
    exact bN
   refine aO.skip ?_;exact dH ⟨_,(aY H:),bZ⟩
  iterate 4 refine qk g78 ?_
  refine qg rfl (b4 g78) (q1 (b4 rfl) (qN (kL rfl (aO.skip ?_))))
  exact dH ⟨_,(aY H:),bZ⟩
 rintro⟨⟩ H
 iterate 2 refine qS ?_
 refine qR (q1 aF (qN ?_))
 refine aO.fact (cB 0 7 rfl rfl rfl (aG.trs_len _)) (fun hl83=>?_)
 refine cG (σ:=Unit) (fun i82 _=>⟨[(1,.ptr 0 0),(2,pB false),(9,pN i82)],⟨[some ⟨87,gK pa0⟩],[]⟩⟩) (fun _=>⟨[(1,.ptr 0 0),(2,pB false)],⟨[some ⟨87,gK pa0⟩],[]⟩⟩) (f9 H) ?_ ?_
 ·rintro i82 ⟨⟩ H
  iterate 2 refine qS ?_
  refine qR (q1 aF (q1 (aZ gW) (q1 (bB rI) (q1 (eM lB (aG.trs_len _)) (q1 gU (qN ?_))))))
  refine eJ H (fun h84 h84l H=>?_) (fun h84 H=>?_)
  ·have h84n:=a7 h84
   refine aO.skip (qS (aO.block (qS (qR (q1 (aZ gW) (q1 (bB rI) (q1 aF (gE H fun y85 h86 H=>(q1 (pA h86 h84n lB) (q1 (j7 (aG.cs y85) gC) (bO H fun x88 z87 H=>(q1 (bJ Tryz.func294 (h_sl11Form y85 _ z87)) (q1 gS ?_)))))))))))))
   refine qN ?_;refine a9 H (fun h89 H=>?_) (fun h89 H=>?_)
   ·refine qS (qR (q1 aF (qN (aO.ret ?_))))
    obtain rfl:_=r:=(pY (aY H):)
    exact bN
   refine aO.skip (qR (q1 aF (q1 (aW.addI rfl rfl rfl rfl (c:=((i82+1:Nat):Int)) (by omega) (by omega)) (q1 aF (qN ?_)))))
   exact jA h84l ⟨_,(aY H:),bZ⟩
  refine aO.exit ?_;exact k7 ⟨_,H,bZ⟩
 rintro⟨⟩ H
 iterate 2 refine qS ?_
 refine qR (q1 aF (qN ?_))
 refine aO.fact (cB 0 8 rfl rfl rfl (bC.trs_len _)) (fun hl91=>?_)
 refine cG (σ:=Unit) (fun i90 _=>⟨[(1,.ptr 0 0),(2,pB false),(10,pN i90)],⟨[some ⟨87,gK pa0⟩],[]⟩⟩) (fun _=>⟨[(2,pB false)],⟨[some ⟨87,gK pa0⟩],[]⟩⟩) (f9 H) ?_ ?_
 ·rintro i90 ⟨⟩ H
  iterate 2 refine qS ?_
  refine qR (q1 aF (q1 (aZ fE) (q1 (bB oP) (q1 (eM mL (bC.trs_len _)) (q1 gU (qN ?_))))))
  refine eJ H (fun h92 h92l H=>?_) (fun h92 H=>?_)
  ·have h92n:=a7 h92
   refine aO.skip (qS (aO.block (qS (qR (q1 (aZ fE) (q1 (bB oP) (q1 aF (gE H fun y93 h94 H=>(q1 (pA h94 h92n mL) (q1 (j7 (bC.cs y93) af0) (q1 (hH KT) (q1 (bV afY) (qN ?_)))))))))))))
   refine qS (qR (q1 (aZ yZ) (q1 (bB e8) (bO H fun x96 z95 H=>(q1 (bJ Tryz.func235 (dJ fu y93.gConstructor _ z95)) (q1 gS (q1 aF ?_)))))))
   refine dY 178 H (fun g97 H=>?_) fun g97 H=>?_
   ·refine qk g97 ?_
    iterate 3 refine qk g97 ?_
    refine q1 (bS g97) (q1 aF ?_)
    iterate 4 refine qk rfl ?_
    refine q1 (bS rfl) (q1 aF ?_)
    iterate 4 refine qk rfl ?_
    refine q1 (bS rfl) (qN (dT rfl (qS (qR (q1 aF (qN (aO.ret ?_)))))))
    obtain rfl:_=r:=(pY (aY H):)
    exact bN
   refine qg g97 (aZ yX) (qg g97 (bB jM) (bO H fun x99 z98 H=>(qg g97 (bJ Tryz.func255 (J8 fu y93.gVars _ z98)) (qg g97 gS (q1 (b4 g97) (q1 aF ?_))))))
   refine dY 184 H (fun g100 H=>?_) fun g100 H=>?_
   ·refine qk g100 ?_
    iterate 3 refine qk g100 ?_
    refine q1 (bS g100) (q1 aF ?_)
    iterate 4 refine qk rfl ?_
    refine q1 (bS rfl) (qN (dT rfl (qS (qR (q1 aF (qN (aO.ret ?_)))))))
    obtain rfl:_=r:=(pY (aY H):)
    exact bN
   refine qg g100 (aZ yX) (qg g100 (bB jM) (bO H fun x102 z101 H=>(qg g100 (bJ Tryz.func237 (j8 fu y93.gVars _ z101)) (qg g100 gS (q1 (b4 g100) (q1 aF ?_))))))
   refine dY 190 H (fun g103 H=>?_) fun g103 H=>?_
   ·refine qk g103 ?_
    iterate 3 refine qk g103 ?_
    refine q1 (bS g103) (qN (dT rfl (qS (qR (q1 aF (qN (aO.ret ?_)))))))
    obtain rfl:_=r:=(pY (aY H):)
    exact bN
   refine qg g103 (aZ EK) (qg g103 (c6 [pI y93.gBody.gKind,pS y93.gBody.gTrait,pS y93.gBody.gName,pI y93.gBody.gN,pI y93.gBody.gType.gKind,pS y93.gBody.gType.gName,a6 y93.gBody.gType.gArgs,fD y93.gBody.gArgs,lH y93.gBody.gArms] gC) (bO H fun x105 z104 H=>(qg g103 (bJ Tryz.func294 (h_sl11Form y93.gBody _ z104)) (qg g103 gS (q1 (b4 g103) (qN ?_))))))
   refine a9 H (fun h106 H=>?_) (fun h106 H=>?_)
   ·refine qS (qR (q1 aF (qN (aO.ret ?_))))
    obtain rfl:_=r:=(pY (aY H):)
    exact bN
   refine aO.skip (qR (q1 aF (q1 (aW.addI rfl rfl rfl rfl (c:=((i90+1:Nat):Int)) (by omega) (by omega)) (q1 aF (qN ?_)))))
   exact jA h92l ⟨_,(aY H:),bZ⟩
  refine aO.exit ?_;exact k7 ⟨_,H,bZ⟩
 rintro⟨⟩ H
 refine qS (qR (q1 aF (qN (aO.ret ?_))))
 obtain rfl:_=r:=(aY H:)
 exact bN
def kS:Nat→aG→Option Bool
 |0,_=>none
 |fu+1,pa0=>E7 fu (kS fu) pa0
theorem RG(fu:Nat):yS (kS fu):=by
 induction fu with
 |zero=>exact(fun pa0 r H=>by simp only [kS] at H;cases H)
 |succ fu ih=>exact(fun pa0 r H=>by simp only [kS] at H;exact OD fu (kS fu) ih pa0 r H)
theorem UC(fu:Nat):yS (kS fu):=(RG fu)
def L6(m:aG→Option Bool):Prop:= ∀(pe:aG) (r:Bool),m pe=some r→cH Tryz.prog 287 [(aG.pv pe)] (pB r:PV)
def uX(fu:Nat)(pe:aG):Option Bool:=
 bd (k8 fu pe 300) (fun x2=>
 sw (decide ((x2:Int)≥0))
 (bd (kS fu pe) (fun x5=>
 some x5))
 (some false))
theorem LB(fu:Nat):L6 (uX fu):=by
 intro pe r H
 have H:=fC H
 refine qI Tryz.func287 (fun C hC=>?_)
 refine qS (qR (q1 (lA (gK pe)) (q1 aF (qN (qS (qR (q1 (c6 [pI pe.gKind,pS pe.gTrait,pS pe.gName,pI pe.gN,pI pe.gType.gKind,pS pe.gType.gName,a6 pe.gType.gArgs,fD pe.gArgs,lH pe.gArms] gC) (bO H fun x2 z1 H=>(q1 (bJ Tryz.func293 (VF fu pe 300 _ z1)) (q1 P7 (q1 aF ?_)))))))))))
 refine dY 6 H (fun g3 H=>?_) fun g3 H=>?_
 ·refine qg g3 (c6 [pI pe.gKind,pS pe.gTrait,pS pe.gName,pI pe.gN,pI pe.gType.gKind,pS pe.gType.gName,a6 pe.gType.gArgs,fD pe.gArgs,lH pe.gArms] gC) (bO H fun x5 z4 H=>(qg g3 (bJ Tryz.func294 (UC fu pe _ z4)) (q1 (bS g3) (q1 aF (qN (aO.ret ?_))))))
  obtain rfl:_=r:=(aY H:)
  exact bN
 iterate 2 refine qk g3 ?_
 refine q1 (b4 g3) (q1 aF (qN (aO.ret ?_)))
 obtain rfl:_=r:=(aY H:)
 exact bN
def VW(m:(List ByteArray)→(List ByteArray)→Option Bool):Prop:= ∀(pa:List ByteArray) (pb:List ByteArray) (r:Bool),m pa pb=some r→cH Tryz.prog 295 [rS pa,rS pb] (pB r:PV)
def TG(fu:Nat)(pa pb:List ByteArray):Nat→Unit→Option (LR Unit Bool):=
 fun i2 _=>gd (i2<(pb).length)
 (sw (!decide (a5 pa i2=a5 pb i2))
 (some (.ret false))
 (some (.next ())))
def S4(fu:Nat)(pa pb:List ByteArray):Option (Bool⊕Unit):=
 loopN (TG fu pa pb) (pa.length-0) 0 ()
def A4(fu:Nat)(pa pb:List ByteArray):Option Bool:=
 sw (!decide ((((pa.length:Nat):Int):Int)=((pb.length:Nat):Int)))
 (some false)
 (so (S4 fu pa pb) (fun _=>
 some true))
theorem F3(fu:Nat):VW (A4 fu):=by
 intro pa pb r H
 have H:=fC H
 refine qI Tryz.func295 (fun C hC=>?_)
 refine qS (qR (q1 aF (qN ?_)))
 iterate 2 refine qS ?_
 refine qR (q1 aF (q1 (eM bW (bE _)) (q1 aF (q1 (eM bW (bE _)) (q1 QI (qN ?_))))))
 refine a9 H (fun h1 H=>?_) (fun h1 H=>?_)
 ·refine qS (qR (q1 aF (qN (aO.ret ?_))))
  obtain rfl:_=r:=(aY H:)
  exact bN
 refine aO.skip ?_
 iterate 2 refine qS ?_
 refine qR (q1 aF (qN ?_))
 refine nF 0 (bE _) (fun hl3=>?_)
 refine cG (σ:=Unit) (fun i2 _=>⟨[(0,rS pa),(1,rS pb),(4,pB false),(5,pN i2)],⟨[],[]⟩⟩) (fun _=>⟨[(4,pB false)],⟨[],[]⟩⟩) (f9 H) ?_ ?_
 ·rintro i2 ⟨⟩ H
  iterate 2 refine qS ?_
  refine qR ?_
  iterate 2 refine q1 aF ?_
  refine q1 (eM bW (bE _)) (q1 gU (qN ?_))
  refine eJ H (fun h4 h4l H=>?_) (fun h4 H=>?_)
  ·have h4n:=a7 h4
   refine aO.skip (qS (aO.block (qS (dK H fun z5 H=>(dW (dI [0] aF (dI [5] aF (dI [17,18] (j0 h4n bW) (dI [19] (mR e8) (dI [1] aF (dI [5] aF (dI [21,22] (j0 z5 bW) (dI [23] (mR e8) ?_)))))))))))))
   refine dI [20,24] O9 (dN ?_)
   refine a9 H (fun h6 H=>?_) (fun h6 H=>?_)
   ·refine qS (qR (q1 aF (qN (aO.ret ?_))))
    obtain rfl:_=r:=(pY (aY H):)
    exact bN
   refine aO.skip (qR (q1 aF (q1 (aW.addI rfl rfl rfl rfl (c:=((i2+1:Nat):Int)) (by omega) (by omega)) (q1 aF (qN ?_)))))
   exact jA h4l ⟨_,(aY H:),bZ⟩
  refine aO.exit ?_;exact k7 ⟨_,H,bZ⟩
 rintro⟨⟩ H
 refine qS (qR (q1 aF (qN (aO.ret ?_))))
 obtain rfl:_=r:=(aY H:)
 exact bN
abbrev jI:=aG→aG→Option Bool
def t9(m:jI):Prop:= ∀(pa0:aG) (pa1:aG) (r:Bool),m pa0 pa1=some r→cH Tryz.prog 288 [(aG.pv pa0),(aG.pv pa1)] (pB r:PV)
def PH(fu:Nat)(r_sEqualExpr:jI)(pa0 pa1:aG)(x6:Bool):Nat→Unit→Option (LR Unit Bool):=
 fun i10 _=>lt (a5 pa0.gArgs i10) (fun y13=>
 gd (i10<(pa1.gArgs).length)
 (lt (a5 pa1.gArgs i10) (fun y16=>
 bd (r_sEqualExpr y13 y16) (fun x19=>
 sw (!(x19))
 (some (.ret false))
 (some (.next ()))))))
def PC(fu:Nat)(r_sEqualExpr:jI)(pa0 pa1:aG)(x6:Bool):Option (Bool⊕Unit):=
 loopN (PH fu r_sEqualExpr pa0 pa1 x6) (pa0.gArgs.length-0) 0 ()
def OJ(fu:Nat)(r_sEqualExpr:jI)(pa0 pa1:aG)(x6:Bool):Nat→Unit→Option (LR Unit Bool):=
 fun i21 _=>lt (a5 pa0.gArms i21) (fun y24=>
 gd (i21<(pa1.gArms).length)
 (lt (a5 pa1.gArms i21) (fun y27=>
 sw (!decide (y24.gConstructor=y27.gConstructor))
 (some (.ret false))
 (bd (A4 fu y24.gVars y27.gVars) (fun x31=>
 sw (!(x31))
 (some (.ret false))
 (bd (r_sEqualExpr y24.gBody y27.gBody) (fun x34=>
 sw (!(x34))
 (some (.ret false))
 (some (.next ())))))))))
def OL(fu:Nat)(r_sEqualExpr:jI)(pa0 pa1:aG)(x6:Bool):Option (Bool⊕Unit):=
 loopN (OJ fu r_sEqualExpr pa0 pa1 x6) (pa0.gArms.length-0) 0 ()
def zE(fu:Nat)(r_sEqualExpr:jI)(pa0 pa1:aG):Option Bool:=
 sw (!decide ((pa0.gKind:Int)=pa1.gKind))
 (some false)
 (sw (!decide (pa0.gTrait=pa1.gTrait))
 (some false)
 (sw (!decide (pa0.gName=pa1.gName))
 (some false)
 (sw (!decide ((pa0.gN:Int)=pa1.gN))
 (some false)
 (bd (f6 fu pa0.gType pa1.gType) (fun x6=>
 sw (!(x6))
 (some false)
 (sw (!decide ((((pa0.gArgs.length:Nat):Int):Int)=((pa1.gArgs.length:Nat):Int)))
 (some false)
 (sw (!decide ((((pa0.gArms.length:Nat):Int):Int)=((pa1.gArms.length:Nat):Int)))
 (some false)
 (so (PC fu r_sEqualExpr pa0 pa1 x6) (fun _=>
 so (OL fu r_sEqualExpr pa0 pa1 x6) (fun _=>
 some true))))))))))
theorem LD(fu:Nat)(r_sEqualExpr:jI)(h_sEqualExpr:t9 r_sEqualExpr):t9 (zE fu r_sEqualExpr):=by
 intro pa0 pa1 r H
 have H:=fC H
 refine qI Tryz.func288 (fun C hC=>?_)
 refine qS (qR (q1 (lA (gK pa0)) (q1 (lA (gK pa1)) (q1 aF (qN ?_)))))
 iterate 2 refine qS ?_
 refine qR (q1 (aZ pV) (q1 (bB iG) (q1 (aZ pV) (q1 (bB iG) (q1 QI (q1 aF ?_))))))
 refine dY 12 H (fun g1 H=>?_) fun g1 H=>?_
 ·refine qk g1 ?_
  iterate 4 refine qk g1 ?_
  refine q1 (bS g1) (q1 aF ?_)
  iterate 5 refine qk rfl ?_
  refine q1 (bS rfl) (q1 aF ?_)
  iterate 5 refine qk rfl ?_
  refine q1 (bS rfl) (q1 aF ?_)
  iterate 6 refine qk rfl ?_
  refine q1 (bS rfl) (q1 aF ?_)
  iterate 7 refine qk rfl ?_
  refine q1 (bS rfl) (q1 aF ?_)
  iterate 7 refine qk rfl ?_
  refine q1 (bS rfl) (qN (dT rfl (qS (qR (q1 aF (qN (aO.ret ?_)))))))
  obtain rfl:_=r:=(aY H:)
  exact bN
 refine qg g1 (aZ IH) (qg g1 (bB e8) (qg g1 (aZ IH) (qg g1 (bB e8) (qg g1 O9 (q1 (b4 g1) (q1 aF ?_))))))
 refine dY 19 H (fun g2 H=>?_) fun g2 H=>?_
 ·refine qk g2 ?_
  iterate 4 refine qk g2 ?_
  refine q1 (bS g2) (q1 aF ?_)
  iterate 5 refine qk rfl ?_
  refine q1 (bS rfl) (q1 aF ?_)
  iterate 6 refine qk rfl ?_
  refine q1 (bS rfl) (q1 aF ?_)
  iterate 7 refine qk rfl ?_
  refine q1 (bS rfl) (q1 aF ?_)
  iterate 7 refine qk rfl ?_
  refine q1 (bS rfl) (qN (dT rfl (qS (qR (q1 aF (qN (aO.ret ?_)))))))
  obtain rfl:_=r:=(aY H:)
  exact bN
 refine qg g2 (aZ nN) (qg g2 (bB e8) (qg g2 (aZ nN) (qg g2 (bB e8) (qg g2 O9 (q1 (b4 g2) (q1 aF ?_))))))
 refine dY 26 H (fun g3 H=>?_) fun g3 H=>?_
 ·refine qk g3 ?_
  iterate 4 refine qk g3 ?_
  refine q1 (bS g3) (q1 aF ?_)
  iterate 6 refine qk rfl ?_
  refine q1 (bS rfl) (q1 aF ?_)
  iterate 7 refine qk rfl ?_
  refine q1 (bS rfl) (q1 aF ?_)
  iterate 7 refine qk rfl ?_
  refine q1 (bS rfl) (qN (dT rfl (qS (qR (q1 aF (qN (aO.ret ?_)))))))
  obtain rfl:_=r:=(aY H:)
  exact bN
 refine qg g3 (aZ BD) (qg g3 (bB iG) (qg g3 (aZ BD) (qg g3 (bB iG) (qg g3 QI (q1 (b4 g3) (q1 aF ?_))))))
 refine dY 33 H (fun g4 H=>?_) fun g4 H=>?_
 ·refine qk g4 ?_
  iterate 5 refine qk g4 ?_
  refine q1 (bS g4) (q1 aF ?_)
  iterate 7 refine qk rfl ?_
  refine q1 (bS rfl) (q1 aF ?_)
  iterate 7 refine qk rfl ?_
  refine q1 (bS rfl) (qN (dT rfl (qS (qR (q1 aF (qN (aO.ret ?_)))))))
  obtain rfl:_=r:=(aY H:)
  exact bN
 refine qg g4 (aZ pP) (qg g4 (c6 [pI pa0.gType.gKind,pS pa0.gType.gName,a6 pa0.gType.gArgs] dL) (qg g4 (aZ pP) (qg g4 (c6 [pI pa1.gType.gKind,pS pa1.gType.gName,a6 pa1.gType.gArgs] dL) (bO H fun x6 z5 H=>(qg g4 (bJ Tryz.func16 (OE fu pa0.gType pa1.gType _ z5)) (qg g4 gS (q1 (b4 g4) (q1 aF ?_))))))))
 refine dY 41 H (fun g7 H=>?_) fun g7 H=>?_
 ·refine qk g7 ?_
  iterate 6 refine qk g7 ?_
  refine q1 (bS g7) (q1 aF ?_)
  iterate 7 refine qk rfl ?_
  refine q1 (bS rfl) (qN (dT rfl (qS (qR (q1 aF (qN (aO.ret ?_)))))))
  obtain rfl:_=r:=(aY H:)
  exact bN
 refine qg g7 (aZ gW) (qg g7 (bB rI) (qg g7 (eM lB (aG.trs_len _)) (qg g7 (aZ gW) (qg g7 (bB rI) (qg g7 (eM lB (aG.trs_len _)) (qg g7 QI (q1 (b4 g7) (q1 aF ?_))))))))
 refine dY 50 H (fun g8 H=>?_) fun g8 H=>?_
 ·refine qk g8 ?_
  iterate 6 refine qk g8 ?_
  refine q1 (bS g8) (qN (dT rfl (qS (qR (q1 aF (qN (aO.ret ?_)))))))
  obtain rfl:_=r:=(aY H:)
  exact bN
 refine qg g8 (aZ fE) (qg g8 (bB oP) (qg g8 (eM mL (bC.trs_len _)) (qg g8 (aZ fE) (qg g8 (bB oP) (qg g8 (eM mL (bC.trs_len _)) (qg g8 QI (q1 (b4 g8) (qN ?_))))))))
 refine a9 H (fun h9 H=>?_) (fun h9 H=>?_)
 ·refine qS (qR (q1 aF (qN (aO.ret ?_))))
  obtain rfl:_=r:=(aY H:)
  exact bN
 refine aO.skip ?_
 iterate 2 refine qS ?_
 refine qR (q1 aF (qN ?_))
 refine nF 43 (aG.trs_len _) (fun hl11=>?_)
 refine cG (σ:=Unit) (fun i10 _=>⟨[(2,.ptr 0 0),(3,.ptr 1 0),(4,pB false),(5,pN i10)],⟨[some ⟨87,gK pa0⟩,some ⟨87,gK pa1⟩],[]⟩⟩) (fun _=>⟨[(2,.ptr 0 0),(3,.ptr 1 0),(4,pB false)],⟨[some ⟨87,gK pa0⟩,some ⟨87,gK pa1⟩],[]⟩⟩) (f9 H) ?_ ?_
 ·rintro i10 ⟨⟩ H
  iterate 2 refine qS ?_
  refine qR (q1 aF (q1 (aZ gW) (q1 (bB rI) (q1 (eM lB (aG.trs_len _)) (q1 gU (qN ?_))))))
  refine eJ H (fun h12 h12l H=>?_) (fun h12 H=>?_)
  ·have h12n:=a7 h12
   refine aO.skip (qS (aO.block (qS (gE H fun y13 h14 H=>(dK H fun z15 H=>(gE H fun y16 h17 H=>(bO H fun x19 z18 H=>(dW (dI [2] (aZ gW) (dD [66] (bB rI) (dI [5] aF (dI [67,68] (pA h14 h12n lB) (dI [69] (j7 (aG.cs y13) gC) ?_)))))))))))))
   refine dI [3] (aZ gW) (dD [71] (bB rI) (dI [5] aF (dI [72,73] (pA h17 z15 lB) (dI [74] (j7 (aG.cs y16) gC) (dI [70,75] (bJ Tryz.func288 (h_sEqualExpr y13 y16 _ z18)) (dI [76] gS (dN ?_)))))))
   refine a9 H (fun h20 H=>?_) (fun h20 H=>?_)
   ·refine qS (qR (q1 aF (qN (aO.ret ?_))))
    obtain rfl:_=r:=(pY (aY H):)
    exact bN
   refine aO.skip (qR (q1 aF (q1 (aW.addI rfl rfl rfl rfl (c:=((i10+1:Nat):Int)) (by omega) (by omega)) (q1 aF (qN ?_)))))
   exact jA h12l ⟨_,(aY H:),bZ⟩
  refine aO.exit ?_;exact k7 ⟨_,H,bZ⟩
 rintro⟨⟩ H
 iterate 2 refine qS ?_
 refine qR (q1 aF (qN ?_))
 refine aO.fact (cB 0 8 rfl rfl rfl (bC.trs_len _)) (fun hl22=>?_)
 refine cG (σ:=Unit) (fun i21 _=>⟨[(2,.ptr 0 0),(3,.ptr 1 0),(4,pB false),(6,pN i21)],⟨[some ⟨87,gK pa0⟩,some ⟨87,gK pa1⟩],[]⟩⟩) (fun _=>⟨[(4,pB false)],⟨[some ⟨87,gK pa0⟩,some ⟨87,gK pa1⟩],[]⟩⟩) (f9 H) ?_ ?_
 ·rintro i21 ⟨⟩ H
  iterate 2 refine qS ?_
  refine qR (q1 aF (q1 (aZ fE) (q1 (bB oP) (q1 (eM mL (bC.trs_len _)) (q1 gU (qN ?_))))))
  refine eJ H (fun h23 h23l H=>?_) (fun h23 H=>?_)
  ·have h23n:=a7 h23
   refine aO.skip (qS (aO.block (qS (gE H fun y24 h25 H=>(dK H fun z26 H=>(gE H fun y27 h28 H=>?_))))))
   rcases jS (!decide (y24.gConstructor=y27.gConstructor)) with g29|g29
   ·have H:=oJ H g29
    refine dW (dI [2] (aZ fE) (dD [85] (bB oP) (dI [6] aF (dI [86,87] (pA h25 h23n mL) (dI [88] (nD yZ) (dI [89] (mR e8) (dI [3] (aZ fE) (dD [91] (bB oP) (dI [6] aF (dI [92,93] (pA h28 z26 mL) (dI [94] (nD yZ) (dI [95] (mR e8) (dI [90,96] O9 ?_)))))))))))))
    refine dI [97] aF ?_
    iterate 14 refine wD g29 ?_
    refine dI [98] (bS g29) (dI [113] aF ?_)
    iterate 14 refine wD rfl ?_
    refine dI [114] (bS rfl) (dN (dT rfl (qS (qR (q1 aF (qN (aO.ret ?_)))))))
    obtain rfl:_=r:=(pY (aY H):)
    exact bN
   have H:=oH H g29
   refine bO H fun x31 z30 H=>?_
   rcases jS (!(x31)) with g32|g32
   ·have H:=oJ H g32
    refine dW (dI [2] (aZ fE) (dD [85] (bB oP) (dI [6] aF (dI [86,87] (pA h25 h23n mL) (dI [88] (nD yZ) (dI [89] (mR e8) (dI [3] (aZ fE) (dD [91] (bB oP) (dI [6] aF (dI [92,93] (pA h28 z26 mL) (dI [94] (nD yZ) (dI [95] (mR e8) (dI [90,96] O9 ?_)))))))))))))
    refine dI [97] aF (dI (hg:=aT g29) [2] (aZ fE) (dD (hg:=aT g29) [99] (bB oP) (dI (hg:=aT g29) [6] aF (dI (hg:=aT g29) [100,101] (pA h25 h23n mL) (dI (hg:=aT g29) [102] (nD yX) (dI (hg:=aT g29) [103] (mR jM) (dI (hg:=aT g29) [3] (aZ fE) (dD (hg:=aT g29) [105] (bB oP) (dI (hg:=aT g29) [6] aF (dI (hg:=aT g29) [106,107] (pA h28 z26 mL) (dI (hg:=aT g29) [108] (nD yX) (dI (hg:=aT g29) [109] (mR jM) (dI (hg:=aT g29) [104,110] (bJ Tryz.func295 (F3 fu y24.gVars y27.gVars _ z30)) ?_)))))))))))))
    refine dI (hg:=aT g29) [111] gS (dI [98,112] (b4 g29) (dI [113] aF ?_))
    iterate 14 refine wD g32 ?_
    refine dI [114] (bS g32) (dN (dT rfl (qS (qR (q1 aF (qN (aO.ret ?_)))))))
    obtain rfl:_=r:=(pY (aY H):)
    exact bN
   have H:=oH H g32
   refine bO H fun x34 z33 H=>(dW (dI [2] (aZ fE) (dD [85] (bB oP) (dI [6] aF (dI [86,87] (pA h25 h23n mL) (dI [88] (nD yZ) (dI [89] (mR e8) (dI [3] (aZ fE) (dD [91] (bB oP) (dI [6] aF (dI [92,93] (pA h28 z26 mL) (dI [94] (nD yZ) (dI [95] (mR e8) ?_)))))))))))))
   refine dI [90,96] O9 (dI [97] aF (dI (hg:=aT g29) [2] (aZ fE) (dD (hg:=aT g29) [99] (bB oP) (dI (hg:=aT g29) [6] aF (dI (hg:=aT g29) [100,101] (pA h25 h23n mL) (dI (hg:=aT g29) [102] (nD yX) (dI (hg:=aT g29) [103] (mR jM) (dI (hg:=aT g29) [3] (aZ fE) (dD (hg:=aT g29) [105] (bB oP) (dI (hg:=aT g29) [6] aF (dI (hg:=aT g29) [106,107] (pA h28 z26 mL) (dI (hg:=aT g29) [108] (nD yX) (dI (hg:=aT g29) [109] (mR jM) ?_)))))))))))))
   refine dI (hg:=aT g29) [104,110] (bJ Tryz.func295 (F3 fu y24.gVars y27.gVars _ z30)) (dI (hg:=aT g29) [111] gS (dI [98,112] (b4 g29) (dI [113] aF (dI (hg:=aT g32) [2] (aZ fE) (dD (hg:=aT g32) [115] (bB oP) (dI (hg:=aT g32) [6] aF (dI (hg:=aT g32) [116,117] (pA h25 h23n mL) (dI (hg:=aT g32) [118] (nD EK) (dI (hg:=aT g32) [119] (j7 (aG.cs y24.gBody) gC) (dI (hg:=aT g32) [3] (aZ fE) (dD (hg:=aT g32) [121] (bB oP) (dI (hg:=aT g32) [6] aF (dI (hg:=aT g32) [122,123] (pA h28 z26 mL) ?_)))))))))))))
   refine dI (hg:=aT g32) [124] (nD EK) (dI (hg:=aT g32) [125] (j7 (aG.cs y27.gBody) gC) (dI (hg:=aT g32) [120,126] (bJ Tryz.func288 (h_sEqualExpr y24.gBody y27.gBody _ z33)) (dI (hg:=aT g32) [127] gS (dI [114,128] (b4 g32) (dN ?_)))))
   refine a9 H (fun h35 H=>?_) (fun h35 H=>?_)
   ·refine qS (qR (q1 aF (qN (aO.ret ?_))))
    obtain rfl:_=r:=(pY (aY H):)
    exact bN
   refine aO.skip (qR (q1 aF (q1 (aW.addI rfl rfl rfl rfl (c:=((i21+1:Nat):Int)) (by omega) (by omega)) (q1 aF (qN ?_)))))
   exact jA h23l ⟨_,(aY H:),bZ⟩
  refine aO.exit ?_;exact k7 ⟨_,H,bZ⟩
 rintro⟨⟩ H
 refine qS (qR (q1 aF (qN (aO.ret ?_))))
 obtain rfl:_=r:=(aY H:)
 exact bN
def iB:Nat→aG→aG→Option Bool
 |0,_,_=>none
 |fu+1,pa0,pa1=>zE fu (iB fu) pa0 pa1
theorem MZ(fu:Nat):t9 (iB fu):=by
 induction fu with
 |zero=>exact(fun pa0 pa1 r H=>by simp only [iB] at H;cases H)
 |succ fu ih=>exact(fun pa0 pa1 r H=>by simp only [iB] at H;exact LD fu (iB fu) ih pa0 pa1 r H)
theorem OU(fu:Nat):t9 (iB fu):=(MZ fu)
abbrev kY:=aG→(List ByteArray)→(List ByteArray)→Option ((List ByteArray))
def yF(m:kY):Prop:= ∀(pa0:aG) (pa1:List ByteArray) (pa2:List ByteArray) (r:(List ByteArray)),m pa0 pa1 pa2=some r→dG Tryz.prog 292 [(aG.pv pa0),rS pa1,aS pa2 0] ⟨[],[⟨9,1,aX (pa2),false⟩]⟩ (fun q t=>q=(aS r 0:PV)∧t=⟨[],[⟨9,1,aX (r),false⟩]⟩)
def W9(fu:Nat)(r_sl11Free:kY)(pa0:aG)(pa1 pa2:List ByteArray):Option (((List ByteArray))⊕((List ByteArray))):=
 sw (decide ((pa0.gKind:Int)=3))
 (bd (lO fu pa1 pa0.gName) (fun x5=>
 sw (!(x5))
 (bd (lO fu pa2 pa0.gName) (fun x8=>
 sw (!(x8))
 (gd ((pa2).length+(([pa0.gName]:List ByteArray)).length≤68719476736)
 (some (.inr (pa2++([pa0.gName]:List ByteArray)))))
 (some (.inr pa2))))
 (some (.inr pa2))))
 (some (.inr pa2))
def UJ(fu:Nat)(r_sl11Free:kY)(pa0:aG)(pa1 pa2 v2:List ByteArray):Nat→((List ByteArray))→Option (LR ((List ByteArray)) ((List ByteArray))):=
 fun i11 v13=>sw (decide ((pa0.gKind:Int)=8))
 (sw (decide ((((i11:Nat):Int):Int)=1))
 (gd (([]:List ByteArray).length+(pa1).length≤68719476736)
 (gd ((([])++pa1).length+(([pa0.gName]:List ByteArray)).length≤68719476736)
 (lt (a5 pa0.gArgs i11) (fun y20=>
 bd (r_sl11Free y20 ((([])++pa1)++([pa0.gName]:List ByteArray)) v13) (fun x23=>
 some (.next x23))))))
 (lt (a5 pa0.gArgs i11) (fun y24=>
 bd (r_sl11Free y24 pa1 v13) (fun x27=>
 some (.next x27)))))
 (lt (a5 pa0.gArgs i11) (fun y28=>
 bd (r_sl11Free y28 pa1 v13) (fun x31=>
 some (.next x31))))
def V5(fu:Nat)(r_sl11Free:kY)(pa0:aG)(pa1 pa2 v2:List ByteArray):Option (((List ByteArray))⊕((List ByteArray))):=
 loopN (UJ fu r_sl11Free pa0 pa1 pa2 v2) (pa0.gArgs.length-0) 0 v2
def VR(fu:Nat)(r_sl11Free:kY)(pa0:aG)(pa1 pa2 v2 v13:List ByteArray):Nat→((List ByteArray))→Option (LR ((List ByteArray)) ((List ByteArray))):=
 fun i32 v34=>lt (a5 pa0.gArms i32) (fun y37=>
 gd (([]:List ByteArray).length+(pa1).length≤68719476736)
 (gd ((([])++pa1).length+(y37.gVars).length≤68719476736)
 (bd (r_sl11Free y37.gBody ((([])++pa1)++y37.gVars) v34) (fun x42=>
 some (.next x42)))))
def W1(fu:Nat)(r_sl11Free:kY)(pa0:aG)(pa1 pa2 v2 v13:List ByteArray):Option (((List ByteArray))⊕((List ByteArray))):=
 loopN (VR fu r_sl11Free pa0 pa1 pa2 v2 v13) (pa0.gArms.length-0) 0 v13
def D9(fu:Nat)(r_sl11Free:kY)(pa0:aG)(pa1 pa2:List ByteArray):Option ((List ByteArray)):=
 so (W9 fu r_sl11Free pa0 pa1 pa2) (fun v2=>
 so (V5 fu r_sl11Free pa0 pa1 pa2 v2) (fun v13=>
 so (W1 fu r_sl11Free pa0 pa1 pa2 v2 v13) (fun v34=>
 some v34)))
theorem O7(fu:Nat)(r_sl11Free:kY)(h_sl11Free:yF r_sl11Free):yF (D9 fu r_sl11Free):=by
 intro pa0 pa1 pa2 r H
 have H:=fC H
 refine qI Tryz.func292 (fun C hC=>?_)
 refine qS (qR (q1 (lA (gK pa0)) (q1 aF (qN (qS ?_)))))
 refine oM (σ:=(List ByteArray)) (fun v2=>⟨[(1,rS pa1),(2,aS v2 0),(3,.ptr 0 0),(6,.nil)],⟨[some ⟨87,gK pa0⟩],[⟨9,1,aX (v2),false⟩]⟩⟩) (f9 H) (fun H=>?_) ?_
 ·refine qS (qR (q1 (aZ pV) (q1 (bB iG) (q1 dP (q1 aF ?_)))))
  refine dY 13 H (fun g3 H=>?_) fun g3 H=>?_
  ·refine qg g3 aF (qg g3 (aZ nN) (qg g3 (bB e8) (bO H fun x5 z4 H=>(qg g3 (bJ Tryz.func125 (lR fu pa1 pa0.gName _ z4)) (qg g3 gS (q1 (bS g3) (q1 aF ?_)))))))
   refine dY 20 H (fun g6 H=>?_) fun g6 H=>?_
   ·refine qg g6 aF (qg g6 (aZ nN) (qg g6 (bB e8) (bO H fun x8 z7 H=>(qg g6 (bJ Tryz.func125 (lR fu pa2 pa0.gName _ z7)) (qg g6 gS (q1 (bS g6) (qN ?_)))))))
    refine a9 H (fun h9 H=>?_) (fun h9 H=>?_)
    ·refine qR (q1 aF (q1 (aZ nN) (q1 (bB e8) (q1 (iI ([pa0.gName]:List ByteArray) bW jZ) (dK H fun z10 H=>(q1 (lC z10 bW oT) (q1 aF (qN ?_))))))))
     exact dH ⟨_,(aY H:),bZ⟩
    refine aO.skip ?_;exact dH ⟨_,(aY H:),bZ⟩
   iterate 5 refine qk g6 ?_
   refine q1 (b4 g6) (qN (kL rfl (aO.skip ?_)))
   exact dH ⟨_,(aY H:),bZ⟩
  iterate 5 refine qk g3 ?_
  refine q1 (b4 g3) (q1 aF ?_)
  iterate 5 refine qk rfl ?_
  refine q1 (b4 rfl) (qN (kL rfl (aO.skip ?_)))
  exact dH ⟨_,(aY H:),bZ⟩
 rintro v2 H
 iterate 2 refine qS ?_
 refine qR (q1 aF (qN ?_))
 refine aO.fact (cB 0 7 rfl rfl rfl (aG.trs_len _)) (fun hl14=>?_)
 refine cG (σ:=(List ByteArray)) (fun i11 v13=>⟨[(1,rS pa1),(2,aS v13 0),(3,.ptr 0 0),(6,.nil),(7,pN i11)],⟨[some ⟨87,gK pa0⟩],[⟨9,1,aX (v13),false⟩]⟩⟩) (fun v13=>⟨[(1,rS pa1),(2,aS v13 0),(3,.ptr 0 0),(6,.nil)],⟨[some ⟨87,gK pa0⟩],[⟨9,1,aX (v13),false⟩]⟩⟩) (f9 H) ?_ ?_
 ·rintro i11 v13 H
  iterate 2 refine qS ?_
  refine qR (q1 aF (q1 (aZ gW) (q1 (bB rI) (q1 (eM lB (aG.trs_len _)) (q1 gU (qN ?_))))))
  refine eJ H (fun h15 h15l H=>?_) (fun h15 H=>?_)
  ·have h15n:=a7 h15
   refine aO.skip (qS (aO.block (qS (qR ?_))))
   iterate 2 refine q1 aF ?_
   refine qN ?_
   iterate 2 refine qS ?_
   refine qR (q1 (aZ pV) (q1 (bB iG) (q1 dP (q1 aF ?_))))
   refine dY 43 H (fun g16 H=>?_) fun g16 H=>?_
   ·refine qg g16 aF (qg g16 dP (q1 (bS g16) (qN ?_)))
    refine a9 H (fun h17 H=>?_) (fun h17 H=>?_)
    ·refine dK H fun z18 H=>(dK H fun z19 H=>(dW (dE [] (rC ([]:List ByteArray) bW jZ) (dI [1] aF (dE [47,48] (lC z18 bW oT) (dI [3] (aZ nN) (dB [50] 0 2 (s5 e8) (dI [51] (iI ([pa0.gName]:List ByteArray) bW jZ) (dE [49,52] (lC z19 bW oT) (dI [53] aF (dN (qR (q1 (aZ gW) ?_)))))))))))))
     refine q1 (bB rI) (q1 aF (gE H fun y20 h21 H=>(q1 (pA h21 h15n lB) (q1 (j7 (aG.cs y20) gC) ?_))))
     iterate 2 refine q1 aF ?_
     refine bO H fun x23 z22 H=>(q1 (gF [] [0] Tryz.func292 (h_sl11Free y20 ((([])++pa1)++([pa0.gName]:List ByteArray)) v13 _ z22)) (q1 aF (qN (qR (q1 aF (q1 (aW.addI rfl rfl rfl rfl (c:=((i11+1:Nat):Int)) (by omega) (by omega)) (q1 aF (qN ?_))))))))
     exact jA h15l ⟨_,(aY H:),bZ⟩
    refine aO.skip (qR (q1 (aZ gW) (q1 (bB rI) (q1 aF (gE H fun y24 h25 H=>(q1 (pA h25 h15n lB) (q1 (j7 (aG.cs y24) gC) ?_)))))))
    iterate 2 refine q1 aF ?_
    refine bO H fun x27 z26 H=>(q1 (gF [] [0] Tryz.func292 (h_sl11Free y24 pa1 v13 _ z26)) (q1 aF (qN (qR (q1 aF (q1 (aW.addI rfl rfl rfl rfl (c:=((i11+1:Nat):Int)) (by omega) (by omega)) (q1 aF (qN ?_))))))))
    exact jA h15l ⟨_,(aY H:),bZ⟩
   iterate 2 refine qk g16 ?_
   refine q1 (b4 g16) (qN (kL rfl (aO.skip (qR (q1 (aZ gW) (q1 (bB rI) (q1 aF (gE H fun y28 h29 H=>(q1 (pA h29 h15n lB) (q1 (j7 (aG.cs y28) gC) ?_))))))))))
   iterate 2 refine q1 aF ?_
   refine bO H fun x31 z30 H=>(q1 (gF [] [0] Tryz.func292 (h_sl11Free y28 pa1 v13 _ z30)) (q1 aF (qN (qR (q1 aF (q1 (aW.addI rfl rfl rfl rfl (c:=((i11+1:Nat):Int)) (by omega) (by omega)) (q1 aF (qN ?_))))))))
   exact jA h15l ⟨_,(aY H:),bZ⟩
  refine aO.exit ?_;exact k7 ⟨_,H,bZ⟩
 rintro v13 H
 iterate 2 refine qS ?_
 refine qR (q1 aF (qN ?_))
 refine aO.fact (cB 0 8 rfl rfl rfl (bC.trs_len _)) (fun hl35=>?_)
 refine cG (σ:=(List ByteArray)) (fun i32 v34=>⟨[(1,rS pa1),(2,aS v34 0),(3,.ptr 0 0),(6,.nil),(9,pN i32)],⟨[some ⟨87,gK pa0⟩],[⟨9,1,aX (v34),false⟩]⟩⟩) (fun v34=>⟨[(2,aS v34 0),(6,.nil)],⟨[some ⟨87,gK pa0⟩],[⟨9,1,aX (v34),false⟩]⟩⟩) (f9 H) ?_ ?_
 ·rintro i32 v34 H
  iterate 2 refine qS ?_
  refine qR (q1 aF (q1 (aZ fE) (q1 (bB oP) (q1 (eM mL (bC.trs_len _)) (q1 gU (qN ?_))))))
  refine eJ H (fun h36 h36l H=>?_) (fun h36 H=>?_)
  ·have h36n:=a7 h36
   refine aO.skip (qS (aO.block (gE H fun y37 h38 H=>(dK H fun z39 H=>(dK H fun z40 H=>(bO H fun x42 z41 H=>(dW (dI [3] (aZ fE) (dB [69] 0 3 (s5 oP) (dI [9] aF (dI [70,71] (pA h38 h36n mL) (dI [72] (nD EK) (dI [73] (j7 (aG.cs y37.gBody) gC) ?_)))))))))))))
   refine dE [] (rC ([]:List ByteArray) bW jZ) (dI [1] aF (dE [75,76] (lC z39 bW oT) (dI [3] (aZ fE) (dB [78] 0 2 (s5 oP) (dI [9] aF (dI [79,80] (pA h38 h36n mL) (dI [81] (nD yX) (dI [82] (mR jM) (dE [77,83] (lC z40 bW oT) (dI [2] aF (dE [74,84,85] (gF [] [0] Tryz.func292 (h_sl11Free y37.gBody ((([])++pa1)++y37.gVars) v34 _ z41)) (dI [86] aF (dN ?_)))))))))))))
   refine qR (q1 aF (q1 (aW.addI rfl rfl rfl rfl (c:=((i32+1:Nat):Int)) (by omega) (by omega)) (q1 aF (qN ?_))))
   exact jA h36l ⟨_,(aY H:),bZ⟩
  refine aO.exit ?_;exact k7 ⟨_,H,bZ⟩
 rintro v34 H
 refine qS (qR ?_)
 iterate 2 refine q1 aF ?_
 refine qN (aO.ret ?_)
 obtain rfl:_=r:=(aY H:)
 exact bN
def kQ:Nat→aG→(List ByteArray)→(List ByteArray)→Option ((List ByteArray))
 |0,_,_,_=>none
 |fu+1,pa0,pa1,pa2=>D9 fu (kQ fu) pa0 pa1 pa2
theorem R8(fu:Nat):yF (kQ fu):=by
 induction fu with
 |zero=>exact(fun pa0 pa1 pa2 r H=>by simp only [kQ] at H;cases H)
 |succ fu ih=>exact(fun pa0 pa1 pa2 r H=>by simp only [kQ] at H;exact O7 fu (kQ fu) ih pa0 pa1 pa2 r H)
theorem U4(fu:Nat):yF (kQ fu):=(R8 fu)
def JB(m:aG→Option ((List ByteArray))):Prop:= ∀(pe:aG) (r:(List ByteArray)),m pe=some r→cH Tryz.prog 286 [(aG.pv pe)] (rS r:PV)
def rZ(fu:Nat)(pe:aG):Option ((List ByteArray)):=
 bd (kQ fu pe ([]) ([])) (fun x2=>
 some x2)
theorem F6(fu:Nat):JB (rZ fu):=by
 intro pe r H
 have H:=fC H
 refine qI Tryz.func286 (fun C hC=>?_)
 refine qS (qR (q1 (lA (gK pe)) (q1 aF (qN (qS (qR (q1 (c6 [pI pe.gKind,pS pe.gTrait,pS pe.gName,pI pe.gN,pI pe.gType.gKind,pS pe.gType.gName,a6 pe.gType.gArgs,fD pe.gArgs,lH pe.gArms] gC) ?_)))))))
 iterate 2 refine q1 (rC ([]:List ByteArray) bW jZ) ?_
 refine bO H fun x2 z1 H=>(q1 (gF [] [1] Tryz.func292 (U4 fu pe ([]) ([]) _ z1)) (q1 aF (qN (aO.ret ?_))))
 obtain rfl:_=r:=(aY H:)
 exact bN
def ZH(m:aB→(List ByteArray)→Option Bool):Prop:= ∀(pt:aB) (pvars:List ByteArray) (r:Bool),m pt pvars=some r→cH Tryz.prog 275 [(aB.pv pt),rS pvars] (pB r:PV)
def VO(fu:Nat)(pt:aB)(pvars x2:List ByteArray):Nat→Unit→Option (LR Unit Bool):=
 fun i3 _=>bd (lO fu pvars (a5 x2 i3)) (fun x7=>
 sw (!(x7))
 (some (.ret false))
 (some (.next ())))
def UI(fu:Nat)(pt:aB)(pvars x2:List ByteArray):Option (Bool⊕Unit):=
 loopN (VO fu pt pvars x2) (x2.length-0) 0 ()
def lZ(fu:Nat)(pt:aB)(pvars:List ByteArray):Option Bool:=
 bd (sC fu pt) (fun x2=>
 so (UI fu pt pvars x2) (fun _=>
 bd (iL fu pt) (fun x10=>
 some x10)))
theorem nL(fu:Nat):ZH (lZ fu):=by
 intro pt pvars r H
 have H:=fC H
 refine qI Tryz.func275 (fun C hC=>?_)
 refine qS (qR (q1 (lA (fB pt)) (q1 aF (qN (qS (qR (q1 (c6 [pI pt.gKind,pS pt.gName,a6 pt.gArgs] dL) (bO H fun x2 z1 H=>(q1 (bJ Tryz.func138 (GD fu pt _ z1)) (q1 aF (qN ?_)))))))))))
 iterate 2 refine qS ?_
 refine qR (q1 aF (qN ?_))
 refine nF 5 (bE _) (fun hl4=>?_)
 refine cG (σ:=Unit) (fun i3 _=>⟨[(1,rS pvars),(2,.ptr 0 0),(4,pB false),(5,rS x2),(6,pN i3)],⟨[some ⟨35,fB pt⟩],[]⟩⟩) (fun _=>⟨[(2,.ptr 0 0),(4,pB false)],⟨[some ⟨35,fB pt⟩],[]⟩⟩) (f9 H) ?_ ?_
 ·rintro i3 ⟨⟩ H
  iterate 2 refine qS ?_
  refine qR ?_
  iterate 2 refine q1 aF ?_
  refine q1 (eM bW (bE _)) (q1 gU (qN ?_))
  refine eJ H (fun h5 h5l H=>?_) (fun h5 H=>?_)
  ·have h5n:=a7 h5
   refine aO.skip (qS (aO.block (qS (qR ?_))))
   iterate 3 refine q1 aF ?_
   refine q1 (j0 h5n bW) (q1 (mR e8) (bO H fun x7 z6 H=>(q1 (bJ Tryz.func125 (lR fu pvars (a5 x2 i3) _ z6)) (q1 gS (qN ?_)))))
   refine a9 H (fun h8 H=>?_) (fun h8 H=>?_)
   ·refine qS (qR (q1 aF (qN (aO.ret ?_))))
    obtain rfl:_=r:=(pY (aY H):)
    exact bN
   refine aO.skip (qR (q1 aF (q1 (aW.addI rfl rfl rfl rfl (c:=((i3+1:Nat):Int)) (by omega) (by omega)) (q1 aF (qN ?_)))))
   exact jA h5l ⟨_,(aY H:),bZ⟩
  refine aO.exit ?_;exact k7 ⟨_,H,bZ⟩
 rintro⟨⟩ H
 refine qS (qR (q1 (c6 [pI pt.gKind,pS pt.gName,a6 pt.gArgs] dL) (bO H fun x10 z9 H=>(q1 (bJ Tryz.func284 (j9 fu pt _ z9)) (q1 aF (qN (aO.ret ?_)))))))
 obtain rfl:_=r:=(aY H:)
 exact bN
def acF(m:(List aB)→(List ByteArray)→Option Bool):Prop:= ∀(plist:List aB) (pvars:List ByteArray) (r:Bool),m plist pvars=some r→cH Tryz.prog 274 [a6 plist,rS pvars] (pB r:PV)
def XO(fu:Nat)(plist:List aB)(pvars:List ByteArray):Nat→Unit→Option (LR Unit Bool):=
 fun i1 _=>bd (lZ fu (a5 plist i1) pvars) (fun x5=>
 sw (!(x5))
 (some (.ret false))
 (some (.next ())))
def Z8(fu:Nat)(plist:List aB)(pvars:List ByteArray):Option (Bool⊕Unit):=
 loopN (XO fu plist pvars) (plist.length-0) 0 ()
def BV(fu:Nat)(plist:List aB)(pvars:List ByteArray):Option Bool:=
 so (Z8 fu plist pvars) (fun _=>
 some true)
theorem NO(fu:Nat):acF (BV fu):=by
 intro plist pvars r H
 have H:=fC H
 refine qI Tryz.func274 (fun C hC=>?_)
 refine qS (qR (q1 aF (qN ?_)))
 iterate 2 refine qS ?_
 refine qR (q1 aF (qN ?_))
 refine nF 0 (aB.trs_len _) (fun hl2=>?_)
 refine cG (σ:=Unit) (fun i1 _=>⟨[(0,a6 plist),(1,rS pvars),(4,pB false),(5,pN i1)],⟨[],[]⟩⟩) (fun _=>⟨[(4,pB false)],⟨[],[]⟩⟩) (f9 H) ?_ ?_
 ·rintro i1 ⟨⟩ H
  iterate 2 refine qS ?_
  refine qR ?_
  iterate 2 refine q1 aF ?_
  refine q1 (eM fX (aB.trs_len _)) (q1 gU (qN ?_))
  refine eJ H (fun h3 h3l H=>?_) (fun h3 H=>?_)
  ·have h3n:=a7 h3
   refine aO.skip (qS (aO.block (qS (qR ?_))))
   iterate 2 refine q1 aF ?_
   refine q1 (j0 h3n fX) (q1 (j7 (aB.cs (a5 plist i1)) dL) (q1 aF (bO H fun x5 z4 H=>(q1 (bJ Tryz.func275 (nL fu (a5 plist i1) pvars _ z4)) (q1 gS (qN ?_))))))
   refine a9 H (fun h6 H=>?_) (fun h6 H=>?_)
   ·refine qS (qR (q1 aF (qN (aO.ret ?_))))
    obtain rfl:_=r:=(pY (aY H):)
    exact bN
   refine aO.skip (qR (q1 aF (q1 (aW.addI rfl rfl rfl rfl (c:=((i1+1:Nat):Int)) (by omega) (by omega)) (q1 aF (qN ?_)))))
   exact jA h3l ⟨_,(aY H:),bZ⟩
  refine aO.exit ?_;exact k7 ⟨_,H,bZ⟩
 rintro⟨⟩ H
 refine qS (qR (q1 aF (qN (aO.ret ?_))))
 obtain rfl:_=r:=(aY H:)
 exact bN
def ZZ(m:aG→Option Bool):Prop:= ∀(pe:aG) (r:Bool),m pe=some r→cH Tryz.prog 283 [(aG.pv pe)] (pB r:PV)
def FM(fu:Nat)(pe:aG):Option Bool:=
 bd (iB fu pe (aG.mk 0 s_ s_ 0 (aB.mk 0 s_ []) [] [])) (fun x2=>
 some x2)
theorem W0(fu:Nat):ZZ (FM fu):=by
 intro pe r H
 have H:=fC H
 refine qI Tryz.func283 (fun C hC=>?_)
 refine qS (qR (q1 (lA (gK pe)) (q1 aF (qN (qS (qR (q1 (c6 [pI pe.gKind,pS pe.gTrait,pS pe.gName,pI pe.gN,pI pe.gType.gKind,pS pe.gType.gName,a6 pe.gType.gArgs,fD pe.gArgs,lH pe.gArms] gC) (q1 (fM jD vA) (bO H fun x2 z1 H=>(q1 (bJ Tryz.func288 (OU fu pe (aG.mk 0 s_ s_ 0 (aB.mk 0 s_ []) [] []) _ z1)) (q1 aF (qN (aO.ret ?_)))))))))))))
 obtain rfl:_=r:=(aY H:)
 exact bN
def U9(m:(List ByteArray)→Int→Option Bool):Prop:= ∀(plist:List ByteArray) (pmost:Int) (r:Bool),m plist pmost=some r→cH Tryz.prog 236 [rS plist,pI pmost] (pB r:PV)
def fI(fu:Nat)(plist:List ByteArray)(pmost:Int):Option Bool:=
 sw (decide ((((plist.length:Nat):Int):Int)≤pmost))
 (bd (xW fu plist) (fun x3=>
 sw (x3)
 (bd (iJ fu plist) (fun x6=>
 some x6))
 (some false)))
 (some false)
theorem fO(fu:Nat):U9 (fI fu):=by
 intro plist pmost r H
 have H:=fC H
 refine qI Tryz.func236 (fun C hC=>?_)
 refine qS (qR (q1 aF (qN (qS (qR (q1 aF (q1 (eM bW (bE _)) (q1 aF (q1 rLe (q1 aF ?_))))))))))
 refine dY 9 H (fun g1 H=>?_) fun g1 H=>?_
 ·refine qg g1 aF (bO H fun x3 z2 H=>(qg g1 (bJ Tryz.func255 (J8 fu plist _ z2)) (q1 (bS g1) (q1 aF ?_))))
  refine dY 13 H (fun g4 H=>?_) fun g4 H=>?_
  ·refine qg g4 aF (bO H fun x6 z5 H=>(qg g4 (bJ Tryz.func237 (j8 fu plist _ z5)) (q1 (bS g4) (q1 aF (qN (aO.ret ?_))))))
   obtain rfl:_=r:=(aY H:)
   exact bN
  iterate 2 refine qk g4 ?_
  refine q1 (b4 g4) (q1 aF (qN (aO.ret ?_)))
  obtain rfl:_=r:=(aY H:)
  exact bN
 iterate 2 refine qk g1 ?_
 refine q1 (b4 g1) (q1 aF ?_)
 iterate 2 refine qk rfl ?_
 refine q1 (b4 rfl) (q1 aF (qN (aO.ret ?_)))
 obtain rfl:_=r:=(aY H:)
 exact bN
def ZO(m:aG→(List ByteArray)→Option Bool):Prop:= ∀(pe:aG) (pvars:List ByteArray) (r:Bool),m pe pvars=some r→cH Tryz.prog 278 [(aG.pv pe),rS pvars] (pB r:PV)
def WP(fu:Nat)(pe:aG)(pvars x2:List ByteArray):Nat→Unit→Option (LR Unit Bool):=
 fun i3 _=>bd (lO fu pvars (a5 x2 i3)) (fun x7=>
 sw (!(x7))
 (some (.ret false))
 (some (.next ())))
def WG(fu:Nat)(pe:aG)(pvars x2:List ByteArray):Option (Bool⊕Unit):=
 loopN (WP fu pe pvars x2) (x2.length-0) 0 ()
def u6(fu:Nat)(pe:aG)(pvars:List ByteArray):Option Bool:=
 bd (rZ fu pe) (fun x2=>
 so (WG fu pe pvars x2) (fun _=>
 bd (uX fu pe) (fun x10=>
 some x10)))
theorem BE(fu:Nat):ZO (u6 fu):=by
 intro pe pvars r H
 have H:=fC H
 refine qI Tryz.func278 (fun C hC=>?_)
 refine qS (qR (q1 (lA (gK pe)) (q1 aF (qN (qS (qR (q1 (c6 [pI pe.gKind,pS pe.gTrait,pS pe.gName,pI pe.gN,pI pe.gType.gKind,pS pe.gType.gName,a6 pe.gType.gArgs,fD pe.gArgs,lH pe.gArms] gC) (bO H fun x2 z1 H=>(q1 (bJ Tryz.func286 (F6 fu pe _ z1)) (q1 aF (qN ?_)))))))))))
 iterate 2 refine qS ?_
 refine qR (q1 aF (qN ?_))
 refine nF 5 (bE _) (fun hl4=>?_)
 refine cG (σ:=Unit) (fun i3 _=>⟨[(1,rS pvars),(2,.ptr 0 0),(4,pB false),(5,rS x2),(6,pN i3)],⟨[some ⟨87,gK pe⟩],[]⟩⟩) (fun _=>⟨[(2,.ptr 0 0),(4,pB false)],⟨[some ⟨87,gK pe⟩],[]⟩⟩) (f9 H) ?_ ?_
 ·rintro i3 ⟨⟩ H
  iterate 2 refine qS ?_
  refine qR ?_
  iterate 2 refine q1 aF ?_
  refine q1 (eM bW (bE _)) (q1 gU (qN ?_))
  refine eJ H (fun h5 h5l H=>?_) (fun h5 H=>?_)
  ·have h5n:=a7 h5
   refine aO.skip (qS (aO.block (qS (qR ?_))))
   iterate 3 refine q1 aF ?_
   refine q1 (j0 h5n bW) (q1 (mR e8) (bO H fun x7 z6 H=>(q1 (bJ Tryz.func125 (lR fu pvars (a5 x2 i3) _ z6)) (q1 gS (qN ?_)))))
   refine a9 H (fun h8 H=>?_) (fun h8 H=>?_)
   ·refine qS (qR (q1 aF (qN (aO.ret ?_))))
    obtain rfl:_=r:=(pY (aY H):)
    exact bN
   refine aO.skip (qR (q1 aF (q1 (aW.addI rfl rfl rfl rfl (c:=((i3+1:Nat):Int)) (by omega) (by omega)) (q1 aF (qN ?_)))))
   exact jA h5l ⟨_,(aY H:),bZ⟩
  refine aO.exit ?_;exact k7 ⟨_,H,bZ⟩
 rintro⟨⟩ H
 refine qS (qR (q1 (c6 [pI pe.gKind,pS pe.gTrait,pS pe.gName,pI pe.gN,pI pe.gType.gKind,pS pe.gType.gName,a6 pe.gType.gArgs,fD pe.gArgs,lH pe.gArms] gC) (bO H fun x10 z9 H=>(q1 (bJ Tryz.func287 (LB fu pe _ z9)) (q1 aF (qN (aO.ret ?_)))))))
 obtain rfl:_=r:=(aY H:)
 exact bN
def ac0(m:aD→Option Bool):Prop:= ∀(ps:aD) (r:Bool),m ps=some r→cH Tryz.prog 273 [(aD.pv ps)] (pB r:PV)
def JD(fu:Nat)(ps:aD):Option Bool:=
 bd (c5 fu ps.gName) (fun x2=>
 sw (!(x2))
 (some false)
 (sw (decide ((((ps.gParams.length:Nat):Int):Int)>4))
 (some false)
 (bd (BV fu ps.gParams ([hU]:List ByteArray)) (fun x6=>
 sw (!(x6))
 (some false)
 (bd (lZ fu ps.gResult ([hU]:List ByteArray)) (fun x9=>
 sw (!(x9))
 (some false)
 (sw (!(ps.gHasDefault))
 (sw (decide ((((ps.gVars.length:Nat):Int):Int)=0))
 (bd (FM fu ps.gBody) (fun x14=>
 some x14))
 (some false))
 (bd (fI fu ps.gVars 5) (fun x16=>
 sw (x16)
 (sw (decide ((((ps.gVars.length:Nat):Int):Int)=aQ (((ps.gParams.length:Nat):Int)+1)))
 (bd (u6 fu ps.gBody ps.gVars) (fun x20=>
 some x20))
 (some false))
 (some false))))))))))
theorem ZU(fu:Nat):ac0 (JD fu):=by
 intro ps r H
 have H:=fC H
 refine qI Tryz.func273 (fun C hC=>?_)
 refine qS (qR (q1 (lA (MK ps)) (q1 aF (qN ?_))))
 iterate 2 refine qS ?_
 refine qR (q1 (aZ RI) (q1 (bB e8) (bO H fun x2 z1 H=>(q1 (bJ Tryz.func235 (dJ fu ps.gName _ z1)) (q1 gS (q1 aF ?_))))))
 refine dY 7 H (fun g3 H=>?_) fun g3 H=>?_
 ·refine qk g3 ?_
  iterate 3 refine qk g3 ?_
  refine q1 (bS g3) (q1 aF ?_)
  iterate 5 refine qk rfl ?_
  refine q1 (bS rfl) (q1 aF ?_)
  iterate 5 refine qk rfl ?_
  refine q1 (bS rfl) (qN (dT rfl (qS (qR (q1 aF (qN (aO.ret ?_)))))))
  obtain rfl:_=r:=(aY H:)
  exact bN
 refine qg g3 (aZ B5) (qg g3 (bB nY) (qg g3 (eM fX (aB.trs_len _)) (qg g3 HB (q1 (b4 g3) (q1 aF ?_)))))
 refine dY 13 H (fun g4 H=>?_) fun g4 H=>?_
 ·refine qk g4 ?_
  iterate 4 refine qk g4 ?_
  refine q1 (bS g4) (q1 aF ?_)
  iterate 5 refine qk rfl ?_
  refine q1 (bS rfl) (qN (dT rfl (qS (qR (q1 aF (qN (aO.ret ?_)))))))
  obtain rfl:_=r:=(aY H:)
  exact bN
 refine qg g4 (aZ B5) (qg g4 (bB nY) (qg g4 (iI ([hU]:List ByteArray) bW jZ) (bO H fun x6 z5 H=>(qg g4 (bJ Tryz.func274 (NO fu ps.gParams ([hU]:List ByteArray) _ z5)) (qg g4 gS (q1 (b4 g4) (q1 aF ?_)))))))
 refine dY 20 H (fun g7 H=>?_) fun g7 H=>?_
 ·refine qk g7 ?_
  iterate 4 refine qk g7 ?_
  refine q1 (bS g7) (qN (dT rfl (qS (qR (q1 aF (qN (aO.ret ?_)))))))
  obtain rfl:_=r:=(aY H:)
  exact bN
 refine qg g7 (aZ CB) (qg g7 (c6 [pI ps.gResult.gKind,pS ps.gResult.gName,a6 ps.gResult.gArgs] dL) (qg g7 (iI ([hU]:List ByteArray) bW jZ) (bO H fun x9 z8 H=>(qg g7 (bJ Tryz.func275 (nL fu ps.gResult ([hU]:List ByteArray) _ z8)) (qg g7 gS (q1 (b4 g7) (qN ?_)))))))
 refine a9 H (fun h10 H=>?_) (fun h10 H=>?_)
 ·refine qS (qR (q1 aF (qN (aO.ret ?_))))
  obtain rfl:_=r:=(aY H:)
  exact bN
 refine aO.skip ?_
 iterate 2 refine qS ?_
 refine qR (q1 (aZ GJ) (q1 (bB sh4) (q1 gS (qN ?_))))
 refine a9 H (fun h11 H=>?_) (fun h11 H=>?_)
 ·refine qS (qR (q1 (aZ vR) (q1 (bB jM) (q1 (eM bW (bE _)) (q1 dP (q1 aF ?_))))))
  refine dY 34 H (fun g12 H=>?_) fun g12 H=>?_
  ·refine qg g12 (aZ BY) (qg g12 (c6 [pI ps.gBody.gKind,pS ps.gBody.gTrait,pS ps.gBody.gName,pI ps.gBody.gN,pI ps.gBody.gType.gKind,pS ps.gBody.gType.gName,a6 ps.gBody.gType.gArgs,fD ps.gBody.gArgs,lH ps.gBody.gArms] gC) (bO H fun x14 z13 H=>(qg g12 (bJ Tryz.func283 (W0 fu ps.gBody _ z13)) (q1 (bS g12) (q1 aF (qN (aO.ret ?_)))))))
   obtain rfl:_=r:=(aY H:)
   exact bN
  iterate 3 refine qk g12 ?_
  refine q1 (b4 g12) (q1 aF (qN (aO.ret ?_)))
  obtain rfl:_=r:=(aY H:)
  exact bN
 refine aO.skip (qS (qR (q1 (aZ vR) (q1 (bB jM) (bO H fun x16 z15 H=>(q1 (bJ Tryz.func236 (fO fu ps.gVars 5 _ z15)) (q1 aF ?_)))))))
 refine dY 42 H (fun g17 H=>?_) fun g17 H=>?_
 ·refine qg g17 (aZ vR) (qg g17 (bB jM) (qg g17 (eM bW (bE _)) (qg g17 (aZ B5) (qg g17 (bB nY) (qg g17 (eM fX (aB.trs_len _)) (qg g17 LQ (qg g17 dP (q1 (bS g17) (q1 aF ?_)))))))))
  refine dY 52 H (fun g18 H=>?_) fun g18 H=>?_
  ·refine qg g18 (aZ BY) (qg g18 (c6 [pI ps.gBody.gKind,pS ps.gBody.gTrait,pS ps.gBody.gName,pI ps.gBody.gN,pI ps.gBody.gType.gKind,pS ps.gBody.gType.gName,a6 ps.gBody.gType.gArgs,fD ps.gBody.gArgs,lH ps.gBody.gArms] gC) (qg g18 (aZ vR) (qg g18 (bB jM) (bO H fun x20 z19 H=>(qg g18 (bJ Tryz.func278 (BE fu ps.gBody ps.gVars _ z19)) (q1 (bS g18) (q1 aF (qN (aO.ret ?_)))))))))
   obtain rfl:_=r:=(aY H:)
   exact bN
  iterate 5 refine qk g18 ?_
  refine q1 (b4 g18) (q1 aF (qN (aO.ret ?_)))
  obtain rfl:_=r:=(aY H:)
  exact bN
 iterate 8 refine qk g17 ?_
 refine q1 (b4 g17) (q1 aF ?_)
 iterate 5 refine qk rfl ?_
 refine q1 (b4 rfl) (q1 aF (qN (aO.ret ?_)))
 obtain rfl:_=r:=(aY H:)
 exact bN
def K2(m:aP→Option Bool):Prop:= ∀(pt:aP) (r:Bool),m pt=some r→cH Tryz.prog 256 [(aP.pv pt)] (pB r:PV)
def IY(fu:Nat)(pt:aP):Nat→((List ByteArray))→Option (LR ((List ByteArray)) Bool):=
 fun i1 v3=>lt (a5 pt.gSignatures i1) (fun y6=>
 bd (JD fu y6) (fun x9=>
 sw (!(x9))
 (some (.ret false))
 (gd ((v3).length+(([y6.gName]:List ByteArray)).length≤68719476736)
 (some (.next (v3++([y6.gName]:List ByteArray)))))))
def JP(fu:Nat)(pt:aP):Option (Bool⊕((List ByteArray))):=
 loopN (IY fu pt) (pt.gSignatures.length-0) 0 ([])
def o9(fu:Nat)(pt:aP):Option Bool:=
 so (JP fu pt) (fun v3=>
 sw (pt.gAuto)
 (sw (pt.gAssoc)
 (some false)
 (sw (decide ((((pt.gSignatures.length:Nat):Int):Int)>0))
 (some false)
 (sw (decide ((((pt.gSupertraits.length:Nat):Int):Int)>0))
 (some false)
 (bd (c5 fu pt.gName) (fun x17=>
 sw (x17)
 (bd (fI fu pt.gSupertraits 4) (fun x20=>
 sw (x20)
 (bd (fI fu v3 6) (fun x23=>
 some x23))
 (some false)))
 (some false))))))
 (bd (c5 fu pt.gName) (fun x25=>
 sw (x25)
 (bd (fI fu pt.gSupertraits 4) (fun x28=>
 sw (x28)
 (bd (fI fu v3 6) (fun x31=>
 some x31))
 (some false)))
 (some false))))
theorem xJ(fu:Nat):K2 (o9 fu):=by
 intro pt r H
 have H:=fC H
 refine qI Tryz.func256 (fun C hC=>?_)
 refine qS (qR (q1 (lA (uV pt)) (q1 aF (qN (qS (qR (q1 (rC ([]:List ByteArray) bW jZ) (q1 aF (qN ?_)))))))))
 iterate 2 refine qS ?_
 refine qR (q1 aF (qN ?_))
 refine aO.fact (cB 0 4 rfl rfl rfl (aD.trs_len _)) (fun hl4=>?_)
 refine cG (σ:=(List ByteArray)) (fun i1 v3=>⟨[(1,.ptr 0 0),(2,pB false),(3,aS v3 0),(4,pN i1)],⟨[some ⟨60,uV pt⟩],[⟨9,1,aX (v3),false⟩]⟩⟩) (fun v3=>⟨[(1,.ptr 0 0),(2,pB false),(3,aS v3 0)],⟨[some ⟨60,uV pt⟩],[⟨9,1,aX (v3),false⟩]⟩⟩) (f9 H) ?_ ?_
 ·rintro i1 v3 H
  iterate 2 refine qS ?_
  refine qR (q1 aF (q1 (aZ jB) (q1 (bB zU) (q1 (eM qT (aD.trs_len _)) (q1 gU (qN ?_))))))
  refine eJ H (fun h5 h5l H=>?_) (fun h5 H=>?_)
  ·have h5n:=a7 h5
   refine aO.skip (qS (aO.block ?_))
   iterate 2 refine qS ?_
   refine qR (q1 (aZ jB) (q1 (bB zU) (q1 aF (gE H fun y6 h7 H=>(q1 (pA h7 h5n qT) (q1 (j7 (aD.cs y6) JV) (bO H fun x9 z8 H=>(q1 (bJ Tryz.func273 (ZU fu y6 _ z8)) (q1 gS (qN ?_))))))))))
   refine a9 H (fun h10 H=>?_) (fun h10 H=>?_)
   ·refine qS (qR (q1 aF (qN (aO.ret ?_))))
    obtain rfl:_=r:=(pY (aY H):)
    exact bN
   refine aO.skip (qR (q1 aF (q1 (aZ jB) (q1 (bB zU) (q1 aF (q1 (pA h7 h5n qT) (q1 (nD RI) (q1 (mR e8) (q1 (iI ([y6.gName]:List ByteArray) bW jZ) (dK H fun z11 H=>(q1 (lC z11 bW oT) (q1 aF (qN ?_)))))))))))))
   refine qR (q1 aF (q1 (aW.addI rfl rfl rfl rfl (c:=((i1+1:Nat):Int)) (by omega) (by omega)) (q1 aF (qN ?_))))
   exact jA h5l ⟨_,(aY H:),bZ⟩
  refine aO.exit ?_;exact k7 ⟨_,H,bZ⟩
 rintro v3 H
 iterate 2 refine qS ?_
 refine qR (q1 (aZ Y4) (q1 (bB sh4) (q1 aF ?_)))
 refine dY 31 H (fun g12 H=>?_) fun g12 H=>?_
 ·refine qg g12 (aZ ad1) (qg g12 (bB sh4) (qg g12 aF ?_))
  refine dY 34 H (fun g13 H=>?_) fun g13 H=>?_
  ·refine qk g13 ?_
   iterate 3 refine qk g13 ?_
   refine qg g12 (bS g13) (qg g12 aF ?_)
   iterate 4 refine qk rfl ?_
   refine qg g12 (bS rfl) (q1 (bS g12) (qN (dT rfl (qS (qR (q1 aF (qN (aO.ret ?_))))))))
   obtain rfl:_=r:=(aY H:)
   exact bN
  refine qg g13 (aZ jB) (qg g13 (bB zU) (qg g13 (eM qT (aD.trs_len _)) (qg g13 HB (qg g12 (b4 g13) (qg g12 aF ?_)))))
  refine dY 40 H (fun g14 H=>?_) fun g14 H=>?_
  ·refine qk g14 ?_
   iterate 3 refine qk g14 ?_
   refine qg g12 (bS g14) (q1 (bS g12) (qN (dT rfl (qS (qR (q1 aF (qN (aO.ret ?_))))))))
   obtain rfl:_=r:=(aY H:)
   exact bN
  refine qg g14 (aZ vE) (qg g14 (bB jM) (qg g14 (eM bW (bE _)) (qg g14 HB (qg g12 (b4 g14) (q1 (bS g12) (qN ?_))))))
  refine a9 H (fun h15 H=>?_) (fun h15 H=>?_)
  ·refine qS (qR (q1 aF (qN (aO.ret ?_))))
   obtain rfl:_=r:=(aY H:)
   exact bN
  refine aO.skip (qS (qR (q1 (aZ y7) (q1 (bB e8) (bO H fun x17 z16 H=>(q1 (bJ Tryz.func235 (dJ fu pt.gName _ z16)) (q1 aF ?_)))))))
  refine dY 50 H (fun g18 H=>?_) fun g18 H=>?_
  ·refine qg g18 (aZ vE) (qg g18 (bB jM) (bO H fun x20 z19 H=>(qg g18 (bJ Tryz.func236 (fO fu pt.gSupertraits 4 _ z19)) (q1 (bS g18) (q1 aF ?_)))))
   refine dY 55 H (fun g21 H=>?_) fun g21 H=>?_
   ·refine qg g21 aF (bO H fun x23 z22 H=>(qg g21 (bJ Tryz.func236 (fO fu v3 6 _ z22)) (q1 (bS g21) (q1 aF (qN (aO.ret ?_))))))
    obtain rfl:_=r:=(aY H:)
    exact bN
   iterate 2 refine qk g21 ?_
   refine q1 (b4 g21) (q1 aF (qN (aO.ret ?_)))
   obtain rfl:_=r:=(aY H:)
   exact bN
  iterate 3 refine qk g18 ?_
  refine q1 (b4 g18) (q1 aF ?_)
  iterate 2 refine qk rfl ?_
  refine q1 (b4 rfl) (q1 aF (qN (aO.ret ?_)))
  obtain rfl:_=r:=(aY H:)
  exact bN
 iterate 3 refine qk g12 ?_
 iterate 4 refine F1 ?_
 iterate 2 refine qk g12 ?_
 iterate 4 refine F1 ?_
 refine qk g12 (q1 (b4 g12) (qN (kL rfl (aO.skip (qS (qR (q1 (aZ y7) (q1 (bB e8) (bO H fun x25 z24 H=>(q1 (bJ Tryz.func235 (dJ fu pt.gName _ z24)) (q1 aF ?_)))))))))))
 refine dY 50 H (fun g26 H=>?_) fun g26 H=>?_
 ·refine qg g26 (aZ vE) (qg g26 (bB jM) (bO H fun x28 z27 H=>(qg g26 (bJ Tryz.func236 (fO fu pt.gSupertraits 4 _ z27)) (q1 (bS g26) (q1 aF ?_)))))
  refine dY 55 H (fun g29 H=>?_) fun g29 H=>?_
  ·refine qg g29 aF (bO H fun x31 z30 H=>(qg g29 (bJ Tryz.func236 (fO fu v3 6 _ z30)) (q1 (bS g29) (q1 aF (qN (aO.ret ?_))))))
   obtain rfl:_=r:=(aY H:)
   exact bN
  iterate 2 refine qk g29 ?_
  refine q1 (b4 g29) (q1 aF (qN (aO.ret ?_)))
  obtain rfl:_=r:=(aY H:)
  exact bN
 iterate 3 refine qk g26 ?_
 refine q1 (b4 g26) (q1 aF ?_)
 iterate 2 refine qk rfl ?_
 refine q1 (b4 rfl) (q1 aF (qN (aO.ret ?_)))
 obtain rfl:_=r:=(aY H:)
 exact bN
def D0(m:aI→Option Bool):Prop:= ∀(pd:aI) (r:Bool),m pd=some r→cH Tryz.prog 257 [(aI.pv pd)] (pB r:PV)
def C5(fu:Nat)(pd:aI):Nat→((List ByteArray))→Option (LR ((List ByteArray)) Bool):=
 fun i1 v3=>sw (decide ((((((a5 pd.gConstructors i1).gFields).length:Nat):Int):Int)>4))
 (some (.ret false))
 (bd (BV fu ((a5 pd.gConstructors i1).gFields) pd.gVars) (fun x8=>
 sw (!(x8))
 (some (.ret false))
 (gd ((v3).length+(([((a5 pd.gConstructors i1).gName)]:List ByteArray)).length≤68719476736)
 (some (.next (v3++([((a5 pd.gConstructors i1).gName)]:List ByteArray)))))))
def CS(fu:Nat)(pd:aI):Option (Bool⊕((List ByteArray))):=
 loopN (C5 fu pd) (pd.gConstructors.length-0) 0 ([])
def mH(fu:Nat)(pd:aI):Option Bool:=
 so (CS fu pd) (fun v3=>
 bd (c5 fu pd.gName) (fun x12=>
 sw (x12)
 (bd (fI fu pd.gVars 3) (fun x15=>
 sw (x15)
 (sw (decide ((((v3.length:Nat):Int):Int)>0))
 (bd (fI fu v3 5) (fun x19=>
 some x19))
 (some false))
 (some false)))
 (some false)))
theorem tW(fu:Nat):D0 (mH fu):=by
 intro pd r H
 have H:=fC H
 refine qI Tryz.func257 (fun C hC=>?_)
 refine qS (qR (q1 (lA (uJ pd)) (q1 aF (qN (qS (qR (q1 (rC ([]:List ByteArray) bW jZ) (q1 aF (qN ?_)))))))))
 iterate 2 refine qS ?_
 refine qR (q1 aF (qN ?_))
 refine aO.fact (cB 0 2 rfl rfl rfl (aC.trs_len _)) (fun hl4=>?_)
 refine cG (σ:=(List ByteArray)) (fun i1 v3=>⟨[(1,.ptr 0 0),(2,pB false),(3,aS v3 0),(4,pN i1)],⟨[some ⟨116,uJ pd⟩],[⟨9,1,aX (v3),false⟩]⟩⟩) (fun v3=>⟨[(1,.ptr 0 0),(2,pB false),(3,aS v3 0)],⟨[some ⟨116,uJ pd⟩],[⟨9,1,aX (v3),false⟩]⟩⟩) (f9 H) ?_ ?_
 ·rintro i1 v3 H
  iterate 2 refine qS ?_
  refine qR (q1 aF (q1 (aZ lD) (q1 (bB vN) (q1 (eM tX (aC.trs_len _)) (q1 gU (qN ?_))))))
  refine eJ H (fun h5 h5l H=>?_) (fun h5 H=>?_)
  ·have h5n:=a7 h5
   refine aO.skip (qS (aO.block ?_))
   iterate 2 refine qS ?_
   rcases jS (decide ((((((a5 pd.gConstructors i1).gFields).length:Nat):Int):Int)>4)) with g6|g6
   ·have H:=oJ H g6
    refine dW (dI [1] (aZ lD) (dD [13] (bB vN) (dI [4] aF (dI [14,15] (j0 h5n tX) (dI [16] (nD G5) (dI [17] (mR nY) (dI [18] (eM fX (aB.trs_len _)) (dI [19] HB (dI [20] aF ?_)))))))))
    iterate 10 refine wD g6 ?_
    refine dI [21] (bS g6) (dN (dT rfl (qS (qR (q1 aF (qN (aO.ret ?_)))))))
    obtain rfl:_=r:=(pY (aY H):)
    exact bN
   have H:=oH H g6
   refine bO H fun x8 z7 H=>(dW (dI [1] (aZ lD) (dD [13] (bB vN) (dI [4] aF (dI [14,15] (j0 h5n tX) (dI [16] (nD G5) (dI [17] (mR nY) (dI [18] (eM fX (aB.trs_len _)) (dI [19] HB (dI [20] aF (dI (hg:=aT g6) [1] (aZ lD) (dD (hg:=aT g6) [22] (bB vN) (dI (hg:=aT g6) [4] aF ?_)))))))))))))
   refine dI (hg:=aT g6) [23,24] (j0 h5n tX) (dI (hg:=aT g6) [25] (nD G5) (dI (hg:=aT g6) [26] (mR nY) (dI (hg:=aT g6) [1] (aZ GH) (dD (hg:=aT g6) [28] (bB jM) (dI (hg:=aT g6) [27,29] (bJ Tryz.func274 (NO fu ((a5 pd.gConstructors i1).gFields) pd.gVars _ z7)) (dI (hg:=aT g6) [30] gS (dI [21,31] (b4 g6) (dN ?_))))))))
   refine a9 H (fun h9 H=>?_) (fun h9 H=>?_)
   ·refine qS (qR (q1 aF (qN (aO.ret ?_))))
    obtain rfl:_=r:=(pY (aY H):)
    exact bN
   refine aO.skip (qR (q1 aF (q1 (aZ lD) (q1 (bB vN) (q1 aF (q1 (j0 h5n tX) (q1 (nD LU) (q1 (mR e8) (q1 (iI ([((a5 pd.gConstructors i1).gName)]:List ByteArray) bW jZ) (dK H fun z10 H=>(q1 (lC z10 bW oT) (q1 aF (qN ?_)))))))))))))
   refine qR (q1 aF (q1 (aW.addI rfl rfl rfl rfl (c:=((i1+1:Nat):Int)) (by omega) (by omega)) (q1 aF (qN ?_))))
   exact jA h5l ⟨_,(aY H:),bZ⟩
  refine aO.exit ?_;exact k7 ⟨_,H,bZ⟩
 rintro v3 H
 refine qS (qR (q1 (aZ GW) (q1 (bB e8) (bO H fun x12 z11 H=>(q1 (bJ Tryz.func235 (dJ fu pd.gName _ z11)) (q1 aF ?_))))))
 refine dY 45 H (fun g13 H=>?_) fun g13 H=>?_
 ·refine qg g13 (aZ GH) (qg g13 (bB jM) (bO H fun x15 z14 H=>(qg g13 (bJ Tryz.func236 (fO fu pd.gVars 3 _ z14)) (q1 (bS g13) (q1 aF ?_)))))
  refine dY 50 H (fun g16 H=>?_) fun g16 H=>?_
  ·refine qg g16 aF (qg g16 (eM bW (bE _)) (qg g16 HB (q1 (bS g16) (q1 aF ?_))))
   refine dY 55 H (fun g17 H=>?_) fun g17 H=>?_
   ·refine qg g17 aF (bO H fun x19 z18 H=>(qg g17 (bJ Tryz.func236 (fO fu v3 5 _ z18)) (q1 (bS g17) (q1 aF (qN (aO.ret ?_))))))
    obtain rfl:_=r:=(aY H:)
    exact bN
   iterate 2 refine qk g17 ?_
   refine q1 (b4 g17) (q1 aF (qN (aO.ret ?_)))
   obtain rfl:_=r:=(aY H:)
   exact bN
  iterate 3 refine qk g16 ?_
  refine q1 (b4 g16) (q1 aF ?_)
  iterate 2 refine qk rfl ?_
  refine q1 (b4 rfl) (q1 aF (qN (aO.ret ?_)))
  obtain rfl:_=r:=(aY H:)
  exact bN
 iterate 3 refine qk g13 ?_
 refine q1 (b4 g13) (q1 aF ?_)
 iterate 3 refine qk rfl ?_
 refine q1 (b4 rfl) (q1 aF ?_)
 iterate 2 refine qk rfl ?_
 refine q1 (b4 rfl) (q1 aF (qN (aO.ret ?_)))
 obtain rfl:_=r:=(aY H:)
 exact bN
def KG(m:aJ→Option Bool):Prop:= ∀(pb:aJ) (r:Bool),m pb=some r→cH Tryz.prog 285 [(aJ.pv pb)] (pB r:PV)
def tT(fu:Nat)(pb:aJ):Option Bool:=
 bd (c5 fu pb.gTrait) (fun x2=>
 sw (x2)
 (bd (iL fu pb.gType) (fun x5=>
 some x5))
 (some false))
theorem HU(fu:Nat):KG (tT fu):=by
 intro pb r H
 have H:=fC H
 refine qI Tryz.func285 (fun C hC=>?_)
 refine qS (qR (q1 (lA (ahM pb)) (q1 aF (qN (qS (qR (q1 (aZ ZD) (q1 (bB e8) (bO H fun x2 z1 H=>(q1 (bJ Tryz.func235 (dJ fu pb.gTrait _ z1)) (q1 aF ?_)))))))))))
 refine dY 6 H (fun g3 H=>?_) fun g3 H=>?_
 ·refine qg g3 (aZ JH) (qg g3 (c6 [pI pb.gType.gKind,pS pb.gType.gName,a6 pb.gType.gArgs] dL) (bO H fun x5 z4 H=>(qg g3 (bJ Tryz.func284 (j9 fu pb.gType _ z4)) (q1 (bS g3) (q1 aF (qN (aO.ret ?_)))))))
  obtain rfl:_=r:=(aY H:)
  exact bN
 iterate 3 refine qk g3 ?_
 refine q1 (b4 g3) (q1 aF (qN (aO.ret ?_)))
 obtain rfl:_=r:=(aY H:)
 exact bN
def W4(m:(List aJ)→(List ByteArray)→Option Bool):Prop:= ∀(plist:List aJ) (pvars:List ByteArray) (r:Bool),m plist pvars=some r→cH Tryz.prog 276 [eK plist,rS pvars] (pB r:PV)
def RJ(fu:Nat)(plist:List aJ)(pvars:List ByteArray):Nat→Unit→Option (LR Unit Bool):=
 fun i1 _=>bd (tT fu (a5 plist i1)) (fun x5=>
 sw (!(x5))
 (some (.ret false))
 (bd (lZ fu ((a5 plist i1).gType) pvars) (fun x8=>
 sw (!(x8))
 (some (.ret false))
 (bd (eH fu ((a5 plist i1).gType)) (fun x11=>
 sw (x11)
 (some (.ret false))
 (some (.next ())))))))
def S1(fu:Nat)(plist:List aJ)(pvars:List ByteArray):Option (Bool⊕Unit):=
 loopN (RJ fu plist pvars) (plist.length-0) 0 ()
def vT(fu:Nat)(plist:List aJ)(pvars:List ByteArray):Option Bool:=
 so (S1 fu plist pvars) (fun _=>
 some (decide ((((plist.length:Nat):Int):Int)≤4)))
theorem GE(fu:Nat):W4 (vT fu):=by
 intro plist pvars r H
 have H:=fC H
 refine qI Tryz.func276 (fun C hC=>?_)
 refine qS (qR (q1 aF (qN ?_)))
 iterate 2 refine qS ?_
 refine qR (q1 aF (qN ?_))
 refine nF 0 (aJ.trs_len _) (fun hl2=>?_)
 refine cG (σ:=Unit) (fun i1 _=>⟨[(0,eK plist),(1,rS pvars),(4,pB false),(5,pN i1)],⟨[],[]⟩⟩) (fun _=>⟨[(0,eK plist),(4,pB false)],⟨[],[]⟩⟩) (f9 H) ?_ ?_
 ·rintro i1 ⟨⟩ H
  iterate 2 refine qS ?_
  refine qR ?_
  iterate 2 refine q1 aF ?_
  refine q1 (eM vF (aJ.trs_len _)) (q1 gU (qN ?_))
  refine eJ H (fun h3 h3l H=>?_) (fun h3 H=>?_)
  ·have h3n:=a7 h3
   refine aO.skip (qS (aO.block (qS (qR ?_))))
   iterate 2 refine q1 aF ?_
   refine q1 (j0 h3n vF) (q1 (j7 (aJ.cs (a5 plist i1)) ai3) (bO H fun x5 z4 H=>(q1 (bJ Tryz.func285 (HU fu (a5 plist i1) _ z4)) (q1 gS (q1 aF ?_)))))
   refine dY 18 H (fun g6 H=>?_) fun g6 H=>?_
   ·refine qk g6 ?_
    iterate 7 refine qk g6 ?_
    refine q1 (bS g6) (q1 aF ?_)
    iterate 6 refine qk rfl ?_
    refine q1 (bS rfl) (qN (dT rfl (qS (qR (q1 aF (qN (aO.ret ?_)))))))
    obtain rfl:_=r:=(pY (aY H):)
    exact bN
   iterate 2 refine qg g6 aF ?_
   refine qg g6 (j0 h3n vF) (qg g6 (nD JH) (qg g6 (j7 (aB.cs ((a5 plist i1).gType)) dL) (qg g6 aF (bO H fun x8 z7 H=>(qg g6 (bJ Tryz.func275 (nL fu ((a5 plist i1).gType) pvars _ z7)) (qg g6 gS (q1 (b4 g6) (q1 aF ?_))))))))
   refine dY 28 H (fun g9 H=>?_) fun g9 H=>?_
   ·refine qk g9 ?_
    iterate 5 refine qk g9 ?_
    refine q1 (bS g9) (qN (dT rfl (qS (qR (q1 aF (qN (aO.ret ?_)))))))
    obtain rfl:_=r:=(pY (aY H):)
    exact bN
   iterate 2 refine qg g9 aF ?_
   refine qg g9 (j0 h3n vF) (qg g9 (nD JH) (qg g9 (j7 (aB.cs ((a5 plist i1).gType)) dL) (bO H fun x11 z10 H=>(qg g9 (bJ Tryz.func139 (vS fu ((a5 plist i1).gType) _ z10)) (q1 (b4 g9) (qN ?_))))))
   refine a9 H (fun h12 H=>?_) (fun h12 H=>?_)
   ·refine qS (qR (q1 aF (qN (aO.ret ?_))))
    obtain rfl:_=r:=(pY (aY H):)
    exact bN
   refine aO.skip (qR (q1 aF (q1 (aW.addI rfl rfl rfl rfl (c:=((i1+1:Nat):Int)) (by omega) (by omega)) (q1 aF (qN ?_)))))
   exact jA h3l ⟨_,(aY H:),bZ⟩
  refine aO.exit ?_;exact k7 ⟨_,H,bZ⟩
 rintro⟨⟩ H
 refine qS (qR (q1 aF (q1 (eM vF (aJ.trs_len _)) (q1 rLe (q1 aF (qN (aO.ret ?_)))))))
 obtain rfl:_=r:=(aY H:)
 exact bN
def FV(m:aH→Option Bool):Prop:= ∀(pa0:aH) (r:Bool),m pa0=some r→cH Tryz.prog 258 [(aH.pv pa0)] (pB r:PV)
def C3(fu:Nat)(pa0:aH)(x2 x5 x8 x11 x15:Bool):Nat→Unit→Option (LR Unit Bool):=
 fun i17 _=>bd (BF fu (a5 pa0.gVars i17) pa0.gHead) (fun x21=>
 sw (!(x21))
 (some (.ret false))
 (some (.next ())))
def CK(fu:Nat)(pa0:aH)(x2 x5 x8 x11 x15:Bool):Option (Bool⊕Unit):=
 loopN (C3 fu pa0 x2 x5 x8 x11 x15) (pa0.gVars.length-0) 0 ()
def C1(fu:Nat)(pa0:aH)(x2 x5 x8 x11 x15:Bool):Option (Bool⊕Unit):=
 sw (pa0.gHasAssoc)
 (bd (lZ fu pa0.gAssoc pa0.gVars) (fun x25=>
 sw (!(x25))
 (some (.inl false))
 (some (.inr ()))))
 (bd (pK fu pa0.gAssoc) (fun x28=>
 sw (!(x28))
 (some (.inl false))
 (some (.inr ()))))
def C9(fu:Nat)(pa0:aH)(x2 x5 x8 x11 x15:Bool):Nat→((List ByteArray))→Option (LR ((List ByteArray)) Bool):=
 fun i30 v32=>lt (a5 pa0.gMethods i30) (fun y35=>
 sw (decide ((((y35.gVars.length:Nat):Int):Int)=0))
 (some (.ret false))
 (bd (fI fu y35.gVars 5) (fun x39=>
 sw (!(x39))
 (some (.ret false))
 (bd (u6 fu y35.gBody y35.gVars) (fun x42=>
 sw (!(x42))
 (some (.ret false))
 (gd ((v32).length+(([y35.gName]:List ByteArray)).length≤68719476736)
 (some (.next (v32++([y35.gName]:List ByteArray))))))))))
def C2(fu:Nat)(pa0:aH)(x2 x5 x8 x11 x15:Bool):Option (Bool⊕((List ByteArray))):=
 loopN (C9 fu pa0 x2 x5 x8 x11 x15) (pa0.gMethods.length-0) 0 ([])
def l4(fu:Nat)(pa0:aH):Option Bool:=
 bd (c5 fu pa0.gTrait) (fun x2=>
 sw (!(x2))
 (some false)
 (bd (fI fu pa0.gVars 3) (fun x5=>
 sw (!(x5))
 (some false)
 (bd (lZ fu pa0.gHead pa0.gVars) (fun x8=>
 sw (!(x8))
 (some false)
 (bd (eH fu pa0.gHead) (fun x11=>
 sw (x11)
 (some false)
 (sw (decide ((pa0.gHead.gKind:Int)=4))
 (some false)
 (bd (vT fu pa0.gWhere pa0.gVars) (fun x15=>
 sw (!(x15))
 (some false)
 (so (CK fu pa0 x2 x5 x8 x11 x15) (fun _=>
 so (C1 fu pa0 x2 x5 x8 x11 x15) (fun _=>
 so (C2 fu pa0 x2 x5 x8 x11 x15) (fun v32=>
 bd (fI fu v32 6) (fun x46=>
 some x46)))))))))))))))
theorem tV(fu:Nat):FV (l4 fu):=by
 intro pa0 r H
 have H:=fC H
 refine qI Tryz.func258 (fun C hC=>?_)
 refine qS (qR (q1 (lA (iP pa0)) (q1 aF (qN ?_))))
 iterate 2 refine qS ?_
 refine qR (q1 (aZ IU) (q1 (bB e8) (bO H fun x2 z1 H=>(q1 (bJ Tryz.func235 (dJ fu pa0.gTrait _ z1)) (q1 gS (q1 aF ?_))))))
 refine dY 11 H (fun g3 H=>?_) fun g3 H=>?_
 ·refine qk g3 ?_
  iterate 3 refine qk g3 ?_
  refine q1 (bS g3) (q1 aF ?_)
  iterate 6 refine qk rfl ?_
  refine q1 (bS rfl) (q1 aF ?_)
  iterate 3 refine qk rfl ?_
  refine q1 (bS rfl) (q1 aF ?_)
  iterate 4 refine qk rfl ?_
  refine q1 (bS rfl) (q1 aF ?_)
  iterate 6 refine qk rfl ?_
  refine q1 (bS rfl) (qN (dT rfl (qS (qR (q1 aF (qN (aO.ret ?_)))))))
  obtain rfl:_=r:=(aY H:)
  exact bN
 refine qg g3 (aZ pM) (qg g3 (bB jM) (bO H fun x5 z4 H=>(qg g3 (bJ Tryz.func236 (fO fu pa0.gVars 3 _ z4)) (qg g3 gS (q1 (b4 g3) (q1 aF ?_))))))
 refine dY 17 H (fun g6 H=>?_) fun g6 H=>?_
 ·refine qk g6 ?_
  iterate 5 refine qk g6 ?_
  refine q1 (bS g6) (q1 aF ?_)
  iterate 3 refine qk rfl ?_
  refine q1 (bS rfl) (q1 aF ?_)
  iterate 4 refine qk rfl ?_
  refine q1 (bS rfl) (q1 aF ?_)
  iterate 6 refine qk rfl ?_
  refine q1 (bS rfl) (qN (dT rfl (qS (qR (q1 aF (qN (aO.ret ?_)))))))
  obtain rfl:_=r:=(aY H:)
  exact bN
 refine qg g6 (aZ nB) (qg g6 (c6 [pI pa0.gHead.gKind,pS pa0.gHead.gName,a6 pa0.gHead.gArgs] dL) (qg g6 (aZ pM) (qg g6 (bB jM) (bO H fun x8 z7 H=>(qg g6 (bJ Tryz.func275 (nL fu pa0.gHead pa0.gVars _ z7)) (qg g6 gS (q1 (b4 g6) (q1 aF ?_))))))))
 refine dY 25 H (fun g9 H=>?_) fun g9 H=>?_
 ·refine qk g9 ?_
  iterate 2 refine qk g9 ?_
  refine q1 (bS g9) (q1 aF ?_)
  iterate 4 refine qk rfl ?_
  refine q1 (bS rfl) (q1 aF ?_)
  iterate 6 refine qk rfl ?_
  refine q1 (bS rfl) (qN (dT rfl (qS (qR (q1 aF (qN (aO.ret ?_)))))))
  obtain rfl:_=r:=(aY H:)
  exact bN
 refine qg g9 (aZ nB) (qg g9 (c6 [pI pa0.gHead.gKind,pS pa0.gHead.gName,a6 pa0.gHead.gArgs] dL) (bO H fun x11 z10 H=>(qg g9 (bJ Tryz.func139 (vS fu pa0.gHead _ z10)) (q1 (b4 g9) (q1 aF ?_)))))
 refine dY 30 H (fun g12 H=>?_) fun g12 H=>?_
 ·refine qk g12 ?_
  iterate 3 refine qk g12 ?_
  refine q1 (bS g12) (q1 aF ?_)
  iterate 6 refine qk rfl ?_
  refine q1 (bS rfl) (qN (dT rfl (qS (qR (q1 aF (qN (aO.ret ?_)))))))
  obtain rfl:_=r:=(aY H:)
  exact bN
 refine qg g12 (aZ nB) (qg g12 (aZ oQ) (qg g12 (bB iG) (qg g12 dP (q1 (b4 g12) (q1 aF ?_)))))
 refine dY 36 H (fun g13 H=>?_) fun g13 H=>?_
 ·refine qk g13 ?_
  iterate 5 refine qk g13 ?_
  refine q1 (bS g13) (qN (dT rfl (qS (qR (q1 aF (qN (aO.ret ?_)))))))
  obtain rfl:_=r:=(aY H:)
  exact bN
 refine qg g13 (aZ AU) (qg g13 (bB ZR) (qg g13 (aZ pM) (qg g13 (bB jM) (bO H fun x15 z14 H=>(qg g13 (bJ Tryz.func276 (GE fu pa0.gWhere pa0.gVars _ z14)) (qg g13 gS (q1 (b4 g13) (qN ?_))))))))
 refine a9 H (fun h16 H=>?_) (fun h16 H=>?_)
 ·refine qS (qR (q1 aF (qN (aO.ret ?_))))
  obtain rfl:_=r:=(aY H:)
  exact bN
 refine aO.skip ?_
 iterate 2 refine qS ?_
 refine qR (q1 aF (qN ?_))
 refine nF 13 (bE _) (fun hl18=>?_)
 refine cG (σ:=Unit) (fun i17 _=>⟨[(1,.ptr 0 0),(2,pB false),(3,pN i17)],⟨[some ⟨55,iP pa0⟩],[]⟩⟩) (fun _=>⟨[(1,.ptr 0 0),(2,pB false)],⟨[some ⟨55,iP pa0⟩],[]⟩⟩) (f9 H) ?_ ?_
 ·rintro i17 ⟨⟩ H
  iterate 2 refine qS ?_
  refine qR (q1 aF (q1 (aZ pM) (q1 (bB jM) (q1 (eM bW (bE _)) (q1 gU (qN ?_))))))
  refine eJ H (fun h19 h19l H=>?_) (fun h19 H=>?_)
  ·have h19n:=a7 h19
   refine aO.skip (qS (aO.block (qS (bO H fun x21 z20 H=>(dW (dI [1] (aZ pM) (dD [51] (bB jM) (dI [3] aF (dI [52,53] (j0 h19n bW) (dI [54] (mR e8) (dI [1] (aZ nB) (dD [56] (c6 [pI pa0.gHead.gKind,pS pa0.gHead.gName,a6 pa0.gHead.gArgs] dL) (dI [55,57] (bJ Tryz.func200 (SA fu (a5 pa0.gVars i17) pa0.gHead _ z20)) ?_)))))))))))))
   refine dI [58] gS (dN ?_)
   refine a9 H (fun h22 H=>?_) (fun h22 H=>?_)
   ·refine qS (qR (q1 aF (qN (aO.ret ?_))))
    obtain rfl:_=r:=(pY (aY H):)
    exact bN
   refine aO.skip (qR (q1 aF (q1 (aW.addI rfl rfl rfl rfl (c:=((i17+1:Nat):Int)) (by omega) (by omega)) (q1 aF (qN ?_)))))
   exact jA h19l ⟨_,(aY H:),bZ⟩
  refine aO.exit ?_;exact k7 ⟨_,H,bZ⟩
 rintro⟨⟩ H
 refine qS ?_;refine oM (σ:=Unit) (fun _=>⟨[(1,.ptr 0 0),(2,pB false)],⟨[some ⟨55,iP pa0⟩],[]⟩⟩) (f9 H) (fun H=>?_) ?_
 ·refine qS (qR (q1 (aZ IA) (q1 (bB sh4) (q1 aF ?_))))
  refine dY 62 H (fun g23 H=>?_) fun g23 H=>?_
  ·refine qg g23 (aZ AJ) (qg g23 (c6 [pI pa0.gAssoc.gKind,pS pa0.gAssoc.gName,a6 pa0.gAssoc.gArgs] dL) (qg g23 (aZ pM) (qg g23 (bB jM) (bO H fun x25 z24 H=>(qg g23 (bJ Tryz.func275 (nL fu pa0.gAssoc pa0.gVars _ z24)) (qg g23 gS (q1 (bS g23) (q1 aF ?_))))))))
   refine dY 70 H (fun g26 H=>?_) fun g26 H=>?_
   ·refine qk g26 ?_
    iterate 3 refine qk g26 ?_
    iterate 4 refine F1 ?_
    refine qk g26 (q1 (bS g26) (qN (dT rfl (qS (qR (q1 aF (qN (aO.ret ?_))))))))
    obtain rfl:_=r:=(zV (aY H):)
    exact bN
   refine qg g26 (aZ IA) (qg g26 (bB sh4) (qg g26 gS (qg g26 aF ?_)))
   iterate 4 refine qk (congrArg (fun b=> !b) g23) ?_
   refine qg g26 (b4 (congrArg (fun b=> !b) g23)) (q1 (b4 g26) (qN (kL rfl (aO.skip ?_))))
   exact dH ⟨_,(aY H:),bZ⟩
  iterate 6 refine qk g23 ?_
  refine q1 (b4 g23) (q1 aF (qg rfl (aZ IA) (qg rfl (bB sh4) (qg rfl gS (qg rfl aF (qg (congrArg (fun b=> !b) g23) (aZ AJ) (qg (congrArg (fun b=> !b) g23) (c6 [pI pa0.gAssoc.gKind,pS pa0.gAssoc.gName,a6 pa0.gAssoc.gArgs] dL) (bO H fun x28 z27 H=>(qg (congrArg (fun b=> !b) g23) (bJ Tryz.func277 (sW fu pa0.gAssoc _ z27)) (qg (congrArg (fun b=> !b) g23) gS (qg rfl (bS (congrArg (fun b=> !b) g23)) (q1 (b4 rfl) (qN ?_)))))))))))))
  refine a9 H (fun h29 H=>?_) (fun h29 H=>?_)
  ·refine qS (qR (q1 aF (qN (aO.ret ?_))))
   obtain rfl:_=r:=(zV (aY H):)
   exact bN
  refine aO.skip ?_;exact dH ⟨_,(aY H:),bZ⟩
 rintro⟨⟩ H
 refine qS (qR (q1 (rC ([]:List ByteArray) bW jZ) (q1 aF (qN ?_))))
 iterate 2 refine qS ?_
 refine qR (q1 aF (qN ?_))
 refine aO.fact (cB 0 11 rfl rfl rfl (aN.trs_len _)) (fun hl33=>?_)
 refine cG (σ:=(List ByteArray)) (fun i30 v32=>⟨[(1,.ptr 0 0),(2,pB false),(4,aS v32 0),(5,pN i30)],⟨[some ⟨55,iP pa0⟩],[⟨9,1,aX (v32),false⟩]⟩⟩) (fun v32=>⟨[(2,pB false),(4,aS v32 0)],⟨[some ⟨55,iP pa0⟩],[⟨9,1,aX (v32),false⟩]⟩⟩) (f9 H) ?_ ?_
 ·rintro i30 v32 H
  iterate 2 refine qS ?_
  refine qR (q1 aF (q1 (aZ uU) (q1 (bB SH) (q1 (eM FZ (aN.trs_len _)) (q1 gU (qN ?_))))))
  refine eJ H (fun h34 h34l H=>?_) (fun h34 H=>?_)
  ·have h34n:=a7 h34
   refine aO.skip (qS (aO.block (qS (qR (q1 (aZ uU) (q1 (bB SH) (q1 aF (gE H fun y35 h36 H=>(q1 (pA h36 h34n FZ) (q1 (j7 (aN.cs y35) adU) (q1 (hH DN) (q1 (bV aeF) (qN ?_)))))))))))))
   iterate 2 refine qS ?_
   refine qR (q1 (aZ BL) (q1 (bB jM) (q1 (eM bW (bE _)) (q1 dP (q1 aF ?_)))))
   refine dY 98 H (fun g37 H=>?_) fun g37 H=>?_
   ·refine qk g37 ?_
    iterate 3 refine qk g37 ?_
    refine q1 (bS g37) (q1 aF ?_)
    iterate 6 refine qk rfl ?_
    refine q1 (bS rfl) (qN (dT rfl (qS (qR (q1 aF (qN (aO.ret ?_)))))))
    obtain rfl:_=r:=(pY (aY H):)
    exact bN
   refine qg g37 (aZ BL) (qg g37 (bB jM) (bO H fun x39 z38 H=>(qg g37 (bJ Tryz.func236 (fO fu y35.gVars 5 _ z38)) (qg g37 gS (q1 (b4 g37) (q1 aF ?_))))))
   refine dY 104 H (fun g40 H=>?_) fun g40 H=>?_
   ·refine qk g40 ?_
    iterate 5 refine qk g40 ?_
    refine q1 (bS g40) (qN (dT rfl (qS (qR (q1 aF (qN (aO.ret ?_)))))))
    obtain rfl:_=r:=(pY (aY H):)
    exact bN
   refine qg g40 (aZ LM) (qg g40 (c6 [pI y35.gBody.gKind,pS y35.gBody.gTrait,pS y35.gBody.gName,pI y35.gBody.gN,pI y35.gBody.gType.gKind,pS y35.gBody.gType.gName,a6 y35.gBody.gType.gArgs,fD y35.gBody.gArgs,lH y35.gBody.gArms] gC) (qg g40 (aZ BL) (qg g40 (bB jM) (bO H fun x42 z41 H=>(qg g40 (bJ Tryz.func278 (BE fu y35.gBody y35.gVars _ z41)) (qg g40 gS (q1 (b4 g40) (qN ?_))))))))
   refine a9 H (fun h43 H=>?_) (fun h43 H=>?_)
   ·refine qS (qR (q1 aF (qN (aO.ret ?_))))
    obtain rfl:_=r:=(pY (aY H):)
    exact bN
   refine aO.skip (qR (q1 aF (q1 (aZ Q3) (q1 (bB e8) (q1 (iI ([y35.gName]:List ByteArray) bW jZ) (dK H fun z44 H=>(q1 (lC z44 bW oT) (q1 aF (qN (qR (q1 aF (q1 (aW.addI rfl rfl rfl rfl (c:=((i30+1:Nat):Int)) (by omega) (by omega)) (q1 aF ?_)))))))))))))
   refine qN ?_;exact jA h34l ⟨_,(aY H:),bZ⟩
  refine aO.exit ?_;exact k7 ⟨_,H,bZ⟩
 rintro v32 H
 refine qS (qR (q1 aF (bO H fun x46 z45 H=>(q1 (bJ Tryz.func236 (fO fu v32 6 _ z45)) (q1 aF (qN (aO.ret ?_)))))))
 obtain rfl:_=r:=(aY H:)
 exact bN
def EV(m:aL→Option Bool):Prop:= ∀(pf:aL) (r:Bool),m pf=some r→cH Tryz.prog 259 [(aL.pv pf)] (pB r:PV)
def DE(fu:Nat)(pf:aL):Nat→((List ByteArray))→Option (LR ((List ByteArray)) Bool):=
 fun i1 v3=>bd (lZ fu ((a5 pf.gParams i1).gType) pf.gVars) (fun x7=>
 sw (!(x7))
 (some (.ret false))
 (gd ((v3).length+(([((a5 pf.gParams i1).gName)]:List ByteArray)).length≤68719476736)
 (some (.next (v3++([((a5 pf.gParams i1).gName)]:List ByteArray))))))
def CZ(fu:Nat)(pf:aL):Option (Bool⊕((List ByteArray))):=
 loopN (DE fu pf) (pf.gParams.length-0) 0 ([])
def mF(fu:Nat)(pf:aL):Option Bool:=
 so (CZ fu pf) (fun v3=>
 bd (c5 fu pf.gName) (fun x11=>
 sw (x11)
 (bd (fI fu pf.gVars 3) (fun x14=>
 sw (x14)
 (bd (vT fu pf.gWhere pf.gVars) (fun x17=>
 sw (x17)
 (bd (fI fu v3 5) (fun x20=>
 sw (x20)
 (bd (lZ fu pf.gResult pf.gVars) (fun x23=>
 sw (x23)
 (bd (u6 fu pf.gBody v3) (fun x26=>
 some x26))
 (some false)))
 (some false)))
 (some false)))
 (some false)))
 (some false)))
theorem tY(fu:Nat):EV (mF fu):=by
 intro pf r H
 have H:=fC H
 refine qI Tryz.func259 (fun C hC=>?_)
 refine qS (qR (q1 (lA (uG pf)) (q1 aF (qN (qS (qR (q1 (rC ([]:List ByteArray) bW jZ) (q1 aF (qN ?_)))))))))
 iterate 2 refine qS ?_
 refine qR (q1 aF (qN ?_))
 refine aO.fact (cB 0 3 rfl rfl rfl (aR.trs_len _)) (fun hl4=>?_)
 refine cG (σ:=(List ByteArray)) (fun i1 v3=>⟨[(1,.ptr 0 0),(2,pB false),(3,aS v3 0),(4,pN i1)],⟨[some ⟨148,uG pf⟩],[⟨9,1,aX (v3),false⟩]⟩⟩) (fun v3=>⟨[(1,.ptr 0 0),(2,pB false),(3,aS v3 0)],⟨[some ⟨148,uG pf⟩],[⟨9,1,aX (v3),false⟩]⟩⟩) (f9 H) ?_ ?_
 ·rintro i1 v3 H
  iterate 2 refine qS ?_
  refine qR (q1 aF (q1 (aZ sL) (q1 (bB J7) (q1 (eM A6 (aR.trs_len _)) (q1 gU (qN ?_))))))
  refine eJ H (fun h5 h5l H=>?_) (fun h5 H=>?_)
  ·have h5n:=a7 h5
   refine aO.skip (qS (aO.block ?_))
   iterate 2 refine qS ?_
   refine bO H fun x7 z6 H=>(dW (dI [1] (aZ sL) (dD [13] (bB J7) (dI [4] aF (dI [14,15] (j0 h5n A6) (dI [16] (nD abD) (dI [17] (j7 (aB.cs ((a5 pf.gParams i1).gType)) dL) (dI [1] (aZ GI) (dD [19] (bB jM) (dI [18,20] (bJ Tryz.func275 (nL fu ((a5 pf.gParams i1).gType) pf.gVars _ z6)) (dI [21] gS (dN ?_))))))))))))
   refine a9 H (fun h8 H=>?_) (fun h8 H=>?_)
   ·refine qS (qR (q1 aF (qN (aO.ret ?_))))
    obtain rfl:_=r:=(pY (aY H):)
    exact bN
   refine aO.skip (qR (q1 aF (q1 (aZ sL) (q1 (bB J7) (q1 aF (q1 (j0 h5n A6) (q1 (nD aa3) (q1 (mR e8) (q1 (iI ([((a5 pf.gParams i1).gName)]:List ByteArray) bW jZ) (dK H fun z9 H=>(q1 (lC z9 bW oT) (q1 aF (qN ?_)))))))))))))
   refine qR (q1 aF (q1 (aW.addI rfl rfl rfl rfl (c:=((i1+1:Nat):Int)) (by omega) (by omega)) (q1 aF (qN ?_))))
   exact jA h5l ⟨_,(aY H:),bZ⟩
  refine aO.exit ?_;exact k7 ⟨_,H,bZ⟩
 rintro v3 H
 refine qS (qR (q1 (aZ LL) (q1 (bB e8) (bO H fun x11 z10 H=>(q1 (bJ Tryz.func235 (dJ fu pf.gName _ z10)) (q1 aF ?_))))))
 refine dY 35 H (fun g12 H=>?_) fun g12 H=>?_
 ·refine qg g12 (aZ GI) (qg g12 (bB jM) (bO H fun x14 z13 H=>(qg g12 (bJ Tryz.func236 (fO fu pf.gVars 3 _ z13)) (q1 (bS g12) (q1 aF ?_)))))
  refine dY 40 H (fun g15 H=>?_) fun g15 H=>?_
  ·refine qg g15 (aZ S9) (qg g15 (bB ZR) (qg g15 (aZ GI) (qg g15 (bB jM) (bO H fun x17 z16 H=>(qg g15 (bJ Tryz.func276 (GE fu pf.gWhere pf.gVars _ z16)) (q1 (bS g15) (q1 aF ?_)))))))
   refine dY 47 H (fun g18 H=>?_) fun g18 H=>?_
   ·refine qg g18 aF (bO H fun x20 z19 H=>(qg g18 (bJ Tryz.func236 (fO fu v3 5 _ z19)) (q1 (bS g18) (q1 aF ?_))))
    refine dY 51 H (fun g21 H=>?_) fun g21 H=>?_
    ·refine qg g21 (aZ TD) (qg g21 (c6 [pI pf.gResult.gKind,pS pf.gResult.gName,a6 pf.gResult.gArgs] dL) (qg g21 (aZ GI) (qg g21 (bB jM) (bO H fun x23 z22 H=>(qg g21 (bJ Tryz.func275 (nL fu pf.gResult pf.gVars _ z22)) (q1 (bS g21) (q1 aF ?_)))))))
     refine dY 58 H (fun g24 H=>?_) fun g24 H=>?_
     ·refine qg g24 (aZ SG) (qg g24 (c6 [pI pf.gBody.gKind,pS pf.gBody.gTrait,pS pf.gBody.gName,pI pf.gBody.gN,pI pf.gBody.gType.gKind,pS pf.gBody.gType.gName,a6 pf.gBody.gType.gArgs,fD pf.gBody.gArgs,lH pf.gBody.gArms] gC) (qg g24 aF (bO H fun x26 z25 H=>(qg g24 (bJ Tryz.func278 (BE fu pf.gBody v3 _ z25)) (q1 (bS g24) (q1 aF (qN (aO.ret ?_))))))))
      obtain rfl:_=r:=(aY H:)
      exact bN
     iterate 4 refine qk g24 ?_
     refine q1 (b4 g24) (q1 aF (qN (aO.ret ?_)))
     obtain rfl:_=r:=(aY H:)
     exact bN
    iterate 5 refine qk g21 ?_
    refine q1 (b4 g21) (q1 aF ?_)
    iterate 4 refine qk rfl ?_
    refine q1 (b4 rfl) (q1 aF (qN (aO.ret ?_)))
    obtain rfl:_=r:=(aY H:)
    exact bN
   iterate 2 refine qk g18 ?_
   refine q1 (b4 g18) (q1 aF ?_)
   iterate 5 refine qk rfl ?_
   refine q1 (b4 rfl) (q1 aF ?_)
   iterate 4 refine qk rfl ?_
   refine q1 (b4 rfl) (q1 aF (qN (aO.ret ?_)))
   obtain rfl:_=r:=(aY H:)
   exact bN
  iterate 5 refine qk g15 ?_
  refine q1 (b4 g15) (q1 aF ?_)
  iterate 2 refine qk rfl ?_
  refine q1 (b4 rfl) (q1 aF ?_)
  iterate 5 refine qk rfl ?_
  refine q1 (b4 rfl) (q1 aF ?_)
  iterate 4 refine qk rfl ?_
  refine q1 (b4 rfl) (q1 aF (qN (aO.ret ?_)))
  obtain rfl:_=r:=(aY H:)
  exact bN
 iterate 3 refine qk g12 ?_
 refine q1 (b4 g12) (q1 aF ?_)
 iterate 5 refine qk rfl ?_
 refine q1 (b4 rfl) (q1 aF ?_)
 iterate 2 refine qk rfl ?_
 refine q1 (b4 rfl) (q1 aF ?_)
 iterate 5 refine qk rfl ?_
 refine q1 (b4 rfl) (q1 aF ?_)
 iterate 4 refine qk rfl ?_
 refine q1 (b4 rfl) (q1 aF (qN (aO.ret ?_)))
 obtain rfl:_=r:=(aY H:)
 exact bN
end
end Go.Proofs.YtpioomclpaiomaaGreat.W

namespace Go.Proofs.YtpioomclpaiomaaGreat.W
set_option maxRecDepth 100000
set_option maxHeartbeats 40000000
noncomputable section
open Go.RowKit Go.Proofs
set_option linter.unusedSimpArgs false
set_option linter.unusedVariables false
attribute [local irreducible] lt
def adV(m:aA→Int→Option aA):Prop:= ∀(px:aA) (pi:Int) (r:aA),m px pi=some r→cH Tryz.prog 219 [(aA.pv px),pI pi] ((aA.pv r):PV)
def cX(fu:Nat)(px:aA)(pi:Int):Option aA:=
 sw (decide ((pi:Int)≥((px.gList.length:Nat):Int)))
 (some (aA.mk s_ []))
 (gd (0≤pi∧(pi).toNat<(px.gList).length)
 (some (a5 px.gList ((pi).toNat))))
theorem cO(fu:Nat):adV (cX fu):=by
 intro px pi r H
 have H:=fC H
 refine qI Tryz.func219 (fun C hC=>?_)
 refine qS (qR (q1 (lA ([pS px.gAtom,a8 px.gList])) (q1 (hH b3) (qN ?_))))
 iterate 2 refine qS ?_
 refine qR (q1 aF (q1 (aZ bF) (q1 (bB cN) (q1 (eM bH (aA.trs_len _)) (q1 P7 (qN ?_))))))
 refine a9 H (fun h1 H=>?_) (fun h1 H=>?_)
 ·refine qS (qR (q1 (fM b3 lG) (q1 (bV dR) (qN (aO.ret ?_)))))
  obtain rfl:_=r:=(aY H:)
  exact bN (hr:=⟨⟨_,_,_,rfl,rfl,bP,rfl,rfl⟩,trivial⟩)
 refine aO.skip (qS (qR (q1 (aZ bF) (q1 (bB cN) (q1 aF (dK H fun z2 H=>(q1 (rIy z2 bH) (q1 (j7 (aA.cs (a5 px.gList ((pi).toNat))) bP) (q1 (bV dR) (qN (aO.ret ?_)))))))))))
 obtain rfl:_=r:=(aY H:)
 exact bN (hr:=⟨⟨_,_,_,rfl,rfl,bP,rfl,rfl⟩,trivial⟩)
def UT(m:aA→Option ((List ByteArray))):Prop:= ∀(px:aA) (r:(List ByteArray)),m px=some r→cH Tryz.prog 243 [(aA.pv px)] (rS r:PV)
def kF(fu:Nat)(px:aA):Option ((List ByteArray)):=
 bd (uO fu px.gList) (fun(x2,x3)=>
 some x2)
theorem l5(fu:Nat):UT (kF fu):=by
 intro px r H
 have H:=fC H
 refine qI Tryz.func243 (fun C hC=>?_)
 refine qS (qR (q1 (lA ([pS px.gAtom,a8 px.gList])) (q1 aF (qN (qS (qR (q1 (aZ bF) (q1 (bB cN) (f8 H fun x2 x3 z1 H=>(q1 (bJ Tryz.func218 (AM fu px.gList _ z1)) (q1 aF ?_)))))))))))
 iterate 2 refine q1 KJ ?_
 iterate 2 refine q1 aF ?_
 refine qN (qS (qR ?_))
 iterate 2 refine q1 aF ?_
 refine qN (aO.ret ?_)
 obtain rfl:_=r:=(aY H:)
 exact bN
def YS(m:aA→Int→Option ((List aA))):Prop:= ∀(px:aA) (pi:Int) (r:(List aA)),m px pi=some r→cH Tryz.prog 244 [(aA.pv px),pI pi] (a8 r:PV)
def rT(fu:Nat)(px:aA)(pi:Int):Option ((List aA)):=
 bd (nO fu pi ((px.gList.length:Nat):Int)) (fun x2=>
 gd ((0:Int)≤x2∧(x2:Int)≤((px.gList.length:Nat):Int)∧(((px.gList.length:Nat):Int):Int)≤((px.gList.length:Nat):Int))
 (some (List.drop (x2:Int).toNat (List.take (((px.gList.length:Nat):Int):Int).toNat px.gList))))
theorem wB(fu:Nat):YS (rT fu):=by
 intro px pi r H
 have H:=fC H
 refine qI Tryz.func244 (fun C hC=>?_)
 refine qS (qR (q1 (lA ([pS px.gAtom,a8 px.gList])) (q1 aF (qN (qS (bO H fun x2 z1 H=>(dK H fun z3 H=>(dW (dI [2] (aZ bF) (dD [5] (bB cN) (dI [1] aF (dI [2] (aZ bF) (dD [8] (bB cN) ?_)))))))))))))
 refine dI [9] (eM bH (aA.trs_len _)) (dI [7,10] (bJ Tryz.func261 (n8 fu pi ((px.gList.length:Nat):Int) _ z1)) ?_)
 refine dI [6,11] (aW.congrP (aW.sliceR (es:=aA.trs (px.gList)) (l:=x2) (k:=((px.gList.length:Nat):Int)) rfl rfl rfl rfl rfl (by rw [aA.trs_len];exact rfl) (by rw [aA.trs_len];exact z3) bH) (aA.trs_part _ _ _)) ?_;refine dI [12] aF (dN (aO.ret ?_))
 obtain rfl:_=r:=(aY H:)
 exact bN
def acL(m:(List aA)→Option ((List aB))):Prop:= ∀(plist:List aA) (r:(List aB)),m plist=some r→cH Tryz.prog 245 [a8 plist] (a6 r:PV)
def Y6(fu:Nat)(plist:List aA):Nat→((List aB))→Option (LR ((List aB)) ((List aB))):=
 fun i1 v3=>bd (kM fu (a5 plist i1)) (fun x7=>
 gd ((v3).length+(([x7]:List aB)).length≤68719476736)
 (some (.next (v3++([x7]:List aB)))))
def YZ(fu:Nat)(plist:List aA):Option (((List aB))⊕((List aB))):=
 loopN (Y6 fu plist) (plist.length-0) 0 ([])
def BS(fu:Nat)(plist:List aA):Option ((List aB)):=
 so (YZ fu plist) (fun v3=>
 some v3)
theorem ND(fu:Nat):acL (BS fu):=by
 intro plist r H
 have H:=fC H
 refine qI Tryz.func245 (fun C hC=>?_)
 refine qS (qR (q1 aF (qN (qS (qR (q1 (rC ([]:List aB) fX jO) (q1 aF (qN ?_))))))))
 iterate 2 refine qS ?_
 refine qR (q1 aF (qN ?_))
 refine nF 0 (aA.trs_len _) (fun hl4=>?_)
 refine cG (σ:=(List aB)) (fun i1 v3=>⟨[(0,a8 plist),(2,.nil),(3,PT v3 0),(4,pN i1)],⟨[],[⟨35,3,aB.trs (v3),false⟩]⟩⟩) (fun v3=>⟨[(2,.nil),(3,PT v3 0)],⟨[],[⟨35,3,aB.trs (v3),false⟩]⟩⟩) (f9 H) ?_ ?_
 ·rintro i1 v3 H
  iterate 2 refine qS ?_
  refine qR ?_
  iterate 2 refine q1 aF ?_
  refine q1 (eM bH (aA.trs_len _)) (q1 gU (qN ?_))
  refine eJ H (fun h5 h5l H=>?_) (fun h5 H=>?_)
  ·have h5n:=a7 h5
   refine aO.skip (qS (aO.block (qR ?_)))
   iterate 3 refine q1 aF ?_
   refine q1 (j0 h5n bH) (q1 (j7 (aA.cs (a5 plist i1)) bP) (bO H fun x7 z6 H=>(q1 (bJ Tryz.func246 (sV fu (a5 plist i1) _ z6)) (q1 (iI ([x7]:List aB) fX jO) (dK H fun z8 H=>(q1 (lC z8 fX afE) (q1 aF (qN (qR (q1 aF (q1 (aW.addI rfl rfl rfl rfl (c:=((i1+1:Nat):Int)) (by omega) (by omega)) (q1 aF (qN ?_)))))))))))))
   exact jA h5l ⟨_,(aY H:),bZ⟩
  refine aO.exit ?_;exact k7 ⟨_,H,bZ⟩
 rintro v3 H
 refine qS (qR ?_)
 iterate 2 refine q1 aF ?_
 refine qN (aO.ret ?_)
 obtain rfl:_=r:=(aY H:)
 exact bN
def UF(m:(List ByteArray)→Option aA):Prop:= ∀(plist:List ByteArray) (r:aA),m plist=some r→cH Tryz.prog 267 [rS plist] ((aA.pv r):PV)
def jK(fu:Nat)(plist:List ByteArray):Option aA:=
 bd (yH fu plist) (fun x2=>
 some (aA.mk s_ x2))
theorem kG(fu:Nat):UF (jK fu):=by
 intro plist r H
 have H:=fC H
 refine qI Tryz.func267 (fun C hC=>?_)
 refine qS (qR (q1 (hH b3) (qN (qS (qR (q1 aF (bO H fun x2 z1 H=>(q1 (bJ Tryz.func280 (KD fu plist _ z1)) (q1 (fM b3 lG) (q1 (bV dR) (qN (aO.ret ?_))))))))))))
 obtain rfl:_=r:=(aY H:)
 exact bN (hr:=⟨⟨_,_,_,rfl,rfl,bP,rfl,rfl⟩,trivial⟩)
def UE(m:(List aB)→Option ((List aA))):Prop:= ∀(plist:List aB) (r:(List aA)),m plist=some r→cH Tryz.prog 268 [a6 plist] (a8 r:PV)
def QW(fu:Nat)(plist:List aB):Nat→((List aA))→Option (LR ((List aA)) ((List aA))):=
 fun i1 v3=>bd (kK fu (a5 plist i1)) (fun x7=>
 gd ((v3).length+(([x7]:List aA)).length≤68719476736)
 (some (.next (v3++([x7]:List aA)))))
def RM(fu:Nat)(plist:List aB):Option (((List aA))⊕((List aA))):=
 loopN (QW fu plist) (plist.length-0) 0 ([])
def vM(fu:Nat)(plist:List aB):Option ((List aA)):=
 so (RM fu plist) (fun v3=>
 some v3)
theorem F4(fu:Nat):UE (vM fu):=by
 intro plist r H
 have H:=fC H
 refine qI Tryz.func268 (fun C hC=>?_)
 refine qS (qR (q1 aF (qN (qS (qR (q1 (rC ([]:List aA) bH b3) (q1 aF (qN ?_))))))))
 iterate 2 refine qS ?_
 refine qR (q1 aF (qN ?_))
 refine nF 0 (aB.trs_len _) (fun hl4=>?_)
 refine cG (σ:=(List aA)) (fun i1 v3=>⟨[(0,a6 plist),(2,.nil),(3,dM v3 0),(4,pN i1)],⟨[],[⟨237,2,aA.trs (v3),false⟩]⟩⟩) (fun v3=>⟨[(2,.nil),(3,dM v3 0)],⟨[],[⟨237,2,aA.trs (v3),false⟩]⟩⟩) (f9 H) ?_ ?_
 ·rintro i1 v3 H
  iterate 2 refine qS ?_
  refine qR ?_
  iterate 2 refine q1 aF ?_
  refine q1 (eM fX (aB.trs_len _)) (q1 gU (qN ?_))
  refine eJ H (fun h5 h5l H=>?_) (fun h5 H=>?_)
  ·have h5n:=a7 h5
   refine aO.skip (qS (aO.block (qR ?_)))
   iterate 3 refine q1 aF ?_
   refine q1 (j0 h5n fX) (q1 (j7 (aB.cs (a5 plist i1)) dL) (bO H fun x7 z6 H=>(q1 (bJ Tryz.func269 (sT fu (a5 plist i1) _ z6)) (q1 (iI ([x7]:List aA) bH b3) (dK H fun z8 H=>(q1 (lC z8 bH oA) (q1 aF (qN (qR (q1 aF (q1 (aW.addI rfl rfl rfl rfl (c:=((i1+1:Nat):Int)) (by omega) (by omega)) (q1 aF (qN ?_)))))))))))))
   exact jA h5l ⟨_,(aY H:),bZ⟩
  refine aO.exit ?_;exact k7 ⟨_,H,bZ⟩
 rintro v3 H
 refine qS (qR ?_)
 iterate 2 refine q1 aF ?_
 refine qN (aO.ret ?_)
 obtain rfl:_=r:=(aY H:)
 exact bN
def ae2(m:Bool→aA→Option aA):Prop:= ∀(pok:Bool) (px:aA) (r:aA),m pok px=some r→cH Tryz.prog 271 [pB pok,(aA.pv px)] ((aA.pv r):PV)
def xI(fu:Nat)(pok:Bool)(px:aA):Option aA:=
 sw (!(pok))
 (some (aA.mk s_ []))
 (bd (gA fu px) (fun x3=>
 sw (!(x3))
 (some (aA.mk s_ []))
 (some px)))
theorem B4(fu:Nat):ae2 (xI fu):=by
 intro pok px r H
 have H:=fC H
 refine qI Tryz.func271 (fun C hC=>?_)
 refine qS (qR (q1 (lA ([pS px.gAtom,a8 px.gList])) (q1 (hH b3) (qN ?_))))
 iterate 2 refine qS ?_
 refine qR (q1 aF (q1 gS (q1 aF ?_)))
 refine dY 7 H (fun g1 H=>?_) fun g1 H=>?_
 ·refine qk g1 ?_
  iterate 2 refine qk g1 ?_
  refine q1 (bS g1) (qN (dT rfl (qS (qR (q1 (fM b3 lG) (q1 (bV dR) (qN (aO.ret ?_))))))))
  obtain rfl:_=r:=(aY H:)
  exact bN (hr:=⟨⟨_,_,_,rfl,rfl,bP,rfl,rfl⟩,trivial⟩)
 refine qg g1 (c6 [pS px.gAtom,a8 px.gList] bP) (bO H fun x3 z2 H=>(qg g1 (bJ Tryz.func217 (cT fu px _ z2)) (qg g1 gS (q1 (b4 g1) (qN ?_)))))
 refine a9 H (fun h4 H=>?_) (fun h4 H=>?_)
 ·refine qS (qR (q1 (fM b3 lG) (q1 (bV dR) (qN (aO.ret ?_)))))
  obtain rfl:_=r:=(aY H:)
  exact bN (hr:=⟨⟨_,_,_,rfl,rfl,bP,rfl,rfl⟩,trivial⟩)
 refine aO.skip (qS (qR (q1 (c6 [pS px.gAtom,a8 px.gList] bP) (q1 (bV dR) (qN (aO.ret ?_))))))
 obtain rfl:_=r:=(aY H:)
 exact bN (hr:=⟨⟨_,_,_,rfl,rfl,bP,rfl,rfl⟩,trivial⟩)
def KK(m:aP→Option aA):Prop:= ∀(pa0:aP) (r:aA),m pa0=some r→cH Tryz.prog 249 [(aP.pv pa0)] ((aA.pv r):PV)
def IP(fu:Nat)(pa0:aP)(x2:Bool):Option (aA⊕((List ByteArray))):=
 sw (pa0.gAuto)
 (gd (([]:List ByteArray).length+(([uT]:List ByteArray)).length≤68719476736)
 (some (.inr (([])++([uT]:List ByteArray)))))
 (some (.inr ([])))
def I7(fu:Nat)(pa0:aP)(x2:Bool)(v5:List ByteArray):Option (aA⊕((List ByteArray))):=
 sw (pa0.gAssoc)
 (gd ((v5).length+(([gM]:List ByteArray)).length≤68719476736)
 (some (.inr (v5++([gM]:List ByteArray)))))
 (some (.inr v5))
def JO(fu:Nat)(pa0:aP)(x2:Bool)(v5 v9:List ByteArray)(x13 x15 x17 x19 x21:aA):Nat→((List aA))→Option (LR ((List aA)) aA):=
 fun i22 v24=>lt (a5 pa0.gSignatures i22) (fun y27=>
 bd (b7 fu y27.gName) (fun x30=>
 bd (vM fu y27.gParams) (fun x32=>
 bd (kK fu y27.gResult) (fun x34=>
 bd (kB fu ([x30,(aA.mk s_ x32),x34]:List aA)) (fun x36=>
 sw (y27.gHasDefault)
 (bd (jK fu y27.gVars) (fun x39=>
 bd (kJ fu y27.gBody) (fun x41=>
 gd ((x36.gList).length+(([x39,x41]:List aA)).length≤68719476736)
 (gd ((v24).length+(([(aA.mk x36.gAtom (x36.gList++([x39,x41]:List aA)))]:List aA)).length≤68719476736)
 (some (.next (v24++([(aA.mk x36.gAtom (x36.gList++([x39,x41]:List aA)))]:List aA))))))))
 (gd ((v24).length+(([(aA.mk x36.gAtom x36.gList)]:List aA)).length≤68719476736)
 (some (.next (v24++([(aA.mk x36.gAtom x36.gList)]:List aA))))))))))
def HJ(fu:Nat)(pa0:aP)(x2:Bool)(v5 v9:List ByteArray)(x13 x15 x17 x19 x21:aA):Option (aA⊕((List aA))):=
 loopN (JO fu pa0 x2 v5 v9 x13 x15 x17 x19 x21) (pa0.gSignatures.length-0) 0 x21.gList
def tH(fu:Nat)(pa0:aP):Option aA:=
 bd (o9 fu pa0) (fun x2=>
 sw (!(x2))
 (some (aA.mk s_ []))
 (so (IP fu pa0 x2) (fun v5=>
 so (I7 fu pa0 x2 v5) (fun v9=>
 bd (b7 fu BR) (fun x13=>
 bd (b7 fu pa0.gName) (fun x15=>
 bd (jK fu pa0.gSupertraits) (fun x17=>
 bd (jK fu v9) (fun x19=>
 bd (kB fu ([x13,x15,x17,x19]:List aA)) (fun x21=>
 so (HJ fu pa0 x2 v5 v9 x13 x15 x17 x19 x21) (fun v24=>
 bd (xI fu true (aA.mk x21.gAtom v24)) (fun x46=>
 some x46)))))))))))
theorem H6(fu:Nat):KK (tH fu):=by
 intro pa0 r H
 have H:=fC H
 refine qI Tryz.func249 (fun C hC=>?_)
 refine qS (qR (q1 (lA (uV pa0)) (q1 (hH b3) (qN ?_))))
 iterate 2 refine qS ?_
 refine qR (q1 (c6 [pS pa0.gName,rS pa0.gSupertraits,pB pa0.gAuto,pB pa0.gAssoc,hM pa0.gSignatures] mU) (bO H fun x2 z1 H=>(q1 (bJ Tryz.func256 (xJ fu pa0 _ z1)) (q1 gS (qN ?_)))))
 refine a9 H (fun h3 H=>?_) (fun h3 H=>?_)
 ·refine qS (qR (q1 (fM b3 lG) (q1 (bV dR) (qN (aO.ret ?_)))))
  obtain rfl:_=r:=(aY H:)
  exact bN (hr:=⟨⟨_,_,_,rfl,rfl,bP,rfl,rfl⟩,trivial⟩)
 refine aO.skip (qS (qR (q1 (rC ([]:List ByteArray) bW jZ) (q1 aF (qN (qS ?_))))))
 refine oM (σ:=(List ByteArray)) (fun v5=>⟨[(1,.ptr 0 0),(2,.ptr 1 0),(3,aS v5 0)],⟨[some ⟨60,uV pa0⟩,some ⟨237,[pS s_,.nil]⟩],[⟨9,1,aX (v5),false⟩]⟩⟩) (f9 H) (fun H=>?_) ?_
 ·refine qS (qR (q1 (aZ Y4) (q1 (bB sh4) (qN ?_))))
  refine a9 H (fun h6 H=>?_) (fun h6 H=>?_)
  ·refine qR (q1 aF (q1 (iI ([uT]:List ByteArray) bW jZ) (dK H fun z7 H=>(q1 (lC z7 bW oT) (q1 aF (qN ?_))))))
   exact dH ⟨_,(aY H:),bZ⟩
  refine aO.skip ?_;exact dH ⟨_,(aY H:),bZ⟩
 rintro v5 H
 refine qS ?_;refine oM (σ:=(List ByteArray)) (fun v9=>⟨[(1,.ptr 0 0),(2,.ptr 1 0),(3,aS v9 0)],⟨[some ⟨60,uV pa0⟩,some ⟨237,[pS s_,.nil]⟩],[⟨9,1,aX (v9),false⟩]⟩⟩) (f9 H) (fun H=>?_) ?_
 ·refine qS (qR (q1 (aZ ad1) (q1 (bB sh4) (qN ?_))))
  refine a9 H (fun h10 H=>?_) (fun h10 H=>?_)
  ·refine qR (q1 aF (q1 (iI ([gM]:List ByteArray) bW jZ) (dK H fun z11 H=>(q1 (lC z11 bW oT) (q1 aF (qN ?_))))))
   exact dH ⟨_,(aY H:),bZ⟩
  refine aO.skip ?_;exact dH ⟨_,(aY H:),bZ⟩
 rintro v9 H
 refine qS (bO H fun x13 z12 H=>(bO H fun x15 z14 H=>(bO H fun x17 z16 H=>(bO H fun x19 z18 H=>(bO H fun x21 z20 H=>(dWa (dI [] (bJ Tryz.func266 (bY fu BR _ z12)) (dI [1] (aZ y7) (dBz [24] 0 0 (s5 e8) (dI [25] (bJ Tryz.func266 (bY fu pa0.gName _ z14)) (dI [1] (aZ vE) (dBz [27] 0 0 (s5 jM) (dI [28] (bJ Tryz.func267 (kG fu pa0.gSupertraits _ z16)) ?_)))))))))))))
 refine dI [3] aF (dI [30] (bJ Tryz.func267 (kG fu v9 _ z18)) (dI [23,26,29,31] (iI ([x13,x15,x17,x19]:List aA) bH b3) ?_))
 refine dEz [32] (fun _ z=>by cases z<;>exact aW.callOwn (pre:=⟨[],[]⟩) (B:= []) (R:=fun k=> .agg [pS x21.gAtom,dM x21.gList k]) (ps:= [_]) (qs:= [a8 ([x13,x15,x17,x19]:List aA)]) [] rfl rfl Tryz.func265 (by kernel_rfl) rfl rfl rfl (mO.of trivial trivial (by decide) (by decide)) rfl mD rfl rfl rfl (fun k k'=>(.agg (.cons (.free _ rfl) (.cons Mv.acc QV.nil)))) (kX fu ([x13,x15,x17,x19]:List aA) _ z20)) ?_;refine dA (fun _ st h=>vAl h b3) (dZ 4 [4,33] (bV dR) (dN ?_))
 iterate 2 refine qS ?_
 refine qR (q1 aF (qN ?_))
 refine aO.fact (cB 0 4 rfl rfl rfl (aD.trs_len _)) (fun hl25=>?_)
 refine cG (σ:=(List aA)) (fun i22 v24=>⟨[(1,.ptr 0 0),(2,.ptr 1 0),(4,.ptr 2 0),(5,pN i22)],⟨[some ⟨60,uV pa0⟩,some ⟨237,[pS s_,.nil]⟩,some ⟨237,[pS x21.gAtom,dM v24 1]⟩],[⟨9,1,aX (v9),false⟩,⟨237,2,aA.trs (v24),false⟩]⟩⟩) (fun v24=>⟨[(2,.ptr 1 0),(4,.ptr 2 0)],⟨[some ⟨60,uV pa0⟩,some ⟨237,[pS s_,.nil]⟩,some ⟨237,[pS x21.gAtom,dM v24 1]⟩],[⟨9,1,aX (v9),false⟩,⟨237,2,aA.trs (v24),false⟩]⟩⟩) (f9 H) ?_ ?_
 ·rintro i22 v24 H
  iterate 2 refine qS ?_
  refine qR (q1 aF (q1 (aZ jB) (q1 (bB zU) (q1 (eM qT (aD.trs_len _)) (q1 gU (qN ?_))))))
  refine eJ H (fun h26 h26l H=>?_) (fun h26 H=>?_)
  ·have h26n:=a7 h26
   refine aO.skip (qS (aO.block (qS (qR (q1 (aZ jB) (q1 (bB zU) (q1 aF (gE H fun y27 h28 H=>(q1 (pA h28 h26n qT) (q1 (j7 (aD.cs y27) JV) (q1 (hH s6) (q1 (bV aeS) (qN ?_)))))))))))))
   refine qS (bO H fun x30 z29 H=>(bO H fun x32 z31 H=>(bO H fun x34 z33 H=>(bO H fun x36 z35 H=>(dWa (dI [6] (aZ RI) (dBz [46] 0 0 (s5 e8) (dI [47] (bJ Tryz.func266 (bY fu y27.gName _ z29)) (dI [6] (aZ B5) (dBz [49] 0 0 (s5 nY) (dI [50] (bJ Tryz.func268 (F4 fu y27.gParams _ z31)) (dI [51] (fM b3 lG) (dI [6] (aZ CB) ?_)))))))))))))
   refine dBz [53] 0 0 (PY [pI y27.gResult.gKind,pS y27.gResult.gName,a6 y27.gResult.gArgs] dL) (dI [54] (bJ Tryz.func269 (sT fu y27.gResult _ z33)) (dI [48,52,55] (iI ([x30,(aA.mk s_ x32),x34]:List aA) bH b3) ?_))
   refine dEz [56] (fun _ z=>by cases z<;>exact aW.callOwn (pre:=⟨[],[]⟩) (B:= []) (R:=fun k=> .agg [pS x36.gAtom,dM x36.gList k]) (ps:= [_]) (qs:= [a8 ([x30,(aA.mk s_ x32),x34]:List aA)]) [] rfl rfl Tryz.func265 (by kernel_rfl) rfl rfl rfl (mO.of trivial trivial (by decide) (by decide)) rfl mD rfl rfl rfl (fun k k'=>(.agg (.cons (.free _ rfl) (.cons Mv.acc QV.nil)))) (kX fu ([x30,(aA.mk s_ x32),x34]:List aA) _ z35)) ?_;refine dA (fun _ st h=>vAl h b3) (dZ 7 [7,57] (bV dR) (dN ?_))
   iterate 2 refine qS ?_
   refine qR (q1 (aZ GJ) (q1 (bB sh4) (qN ?_)))
   refine a9 H (fun h37 H=>?_) (fun h37 H=>?_)
   ·refine bO H fun x39 z38 H=>(bO H fun x41 z40 H=>(dK H fun z42 H=>(dW (dI [7] (aZ bF) (dD [60] (bB cN) (dI [6] (aZ vR) (dD [62] (bB jM) (dI [63] (bJ Tryz.func267 (kG fu y27.gVars _ z38)) (dI [6] (aZ BY) (dD [65] (c6 [pI y27.gBody.gKind,pS y27.gBody.gTrait,pS y27.gBody.gName,pI y27.gBody.gN,pI y27.gBody.gType.gKind,pS y27.gBody.gType.gName,a6 y27.gBody.gType.gArgs,fD y27.gBody.gArgs,lH y27.gBody.gArms] gC) (dI [66] (bJ Tryz.func270 (H2 fu y27.gBody _ z40)) (dI [64,67] (iI ([x39,x41]:List aA) bH b3) (dE [61,68] (lC z42 bH oA) ?_)))))))))))))
    refine dI [7] (aZ bF) (mZ [70,69] (bV vI) (dN (qR (q1 (aZ bF) (q1 (bB cN) (q1 (c6 [pS x36.gAtom,dM (x36.gList++([x39,x41]:List aA)) 2] bP) (q1 (iI ([(aA.mk x36.gAtom (x36.gList++([x39,x41]:List aA)))]:List aA) bH b3) (dK H fun z43 H=>(q1 (lC z43 bH oA) (q1 (aZ bF) (q1 (bV vI) (qN (qR ?_)))))))))))))
    refine q1 aF (q1 (aW.addI rfl rfl rfl rfl (c:=((i22+1:Nat):Int)) (by omega) (by omega)) (q1 aF (qN ?_)))
    exact jA h26l ⟨_,(aY H:),bZ⟩
   refine aO.skip (qR (q1 (aZ bF) (q1 (bB cN) (q1 (c6 [pS x36.gAtom,dM x36.gList 2] bP) (q1 (iI ([(aA.mk x36.gAtom x36.gList)]:List aA) bH b3) (dK H fun z44 H=>(q1 (lC z44 bH oA) (q1 (aZ bF) (q1 (bV vI) (qN (qR (q1 aF (q1 (aW.addI rfl rfl rfl rfl (c:=((i22+1:Nat):Int)) (by omega) (by omega)) ?_)))))))))))))
   refine q1 aF (qN ?_)
   exact jA h26l ⟨_,(aY H:),bZ⟩
  refine aO.exit ?_;exact k7 ⟨_,H,bZ⟩
 rintro v24 H
 refine qS (qR (q1 (c6 [pS x21.gAtom,dM v24 1] bP) (bO H fun x46 z45 H=>(q1 (bJ Tryz.func271 (B4 fu true (aA.mk x21.gAtom v24) _ z45)) (q1 (bV dR) (qN (aO.ret ?_)))))))
 obtain rfl:_=r:=(aY H:)
 exact bN (hr:=⟨⟨_,_,_,rfl,rfl,bP,rfl,rfl⟩,trivial⟩)
def K4(m:aA→Option (aP×Bool)):Prop:= ∀(pa0:aA) (r:aP×Bool),m pa0=some r→cH Tryz.prog 230 [(aA.pv pa0)] (.tup [(aP.pv r.1),pB r.2]:PV)
def I8(fu:Nat)(pa0 x2:aA)(x4:List ByteArray)(x6 x8:aA)(x10:List ByteArray)(x12 x14:Bool)(x16:List aA):Nat→((List aD))→Option (LR ((List aD)) (aP×Bool)):=
 fun i17 v19=>bd (cX fu (a5 x16 i17) 0) (fun x23=>
 bd (cX fu (a5 x16 i17) 1) (fun x25=>
 bd (BS fu x25.gList) (fun x27=>
 bd (cX fu (a5 x16 i17) 2) (fun x29=>
 bd (kM fu x29) (fun x31=>
 sw (decide ((((((a5 x16 i17).gList).length:Nat):Int):Int)>3))
 (bd (cX fu (a5 x16 i17) 3) (fun x34=>
 bd (kF fu x34) (fun x36=>
 bd (cX fu (a5 x16 i17) 4) (fun x38=>
 bd (fS fu x38) (fun x40=>
 gd ((v19).length+(([(aD.mk x23.gAtom x27 x31 true x36 x40)]:List aD)).length≤68719476736)
 (some (.next (v19++([(aD.mk x23.gAtom x27 x31 true x36 x40)]:List aD)))))))))
 (gd ((v19).length+(([(aD.mk x23.gAtom x27 x31 false [] (aG.mk 0 s_ s_ 0 (aB.mk 0 s_ []) [] []))]:List aD)).length≤68719476736)
 (some (.next (v19++([(aD.mk x23.gAtom x27 x31 false [] (aG.mk 0 s_ s_ 0 (aB.mk 0 s_ []) [] []))]:List aD))))))))))
def HY(fu:Nat)(pa0 x2:aA)(x4:List ByteArray)(x6 x8:aA)(x10:List ByteArray)(x12 x14:Bool)(x16:List aA):Option ((aP×Bool)⊕((List aD))):=
 loopN (I8 fu pa0 x2 x4 x6 x8 x10 x12 x14 x16) (x16.length-0) 0 ([])
def tM(fu:Nat)(pa0:aA):Option (aP×Bool):=
 bd (cX fu pa0 3) (fun x2=>
 bd (kF fu x2) (fun x4=>
 bd (cX fu pa0 1) (fun x6=>
 bd (cX fu pa0 2) (fun x8=>
 bd (kF fu x8) (fun x10=>
 bd (lO fu x4 uT) (fun x12=>
 bd (lO fu x4 gM) (fun x14=>
 bd (rT fu pa0 4) (fun x16=>
 so (HY fu pa0 x2 x4 x6 x8 x10 x12 x14 x16) (fun v19=>
 bd (gA fu pa0) (fun x44=>
 sw (!(x44))
 (some ((aP.mk s_ [] false false []),false))
 (sw (decide ((((pa0.gList.length:Nat):Int):Int)=0))
 (some ((aP.mk s_ [] false false []),false))
 (bd (tH fu (aP.mk x6.gAtom x10 x12 x14 v19)) (fun x48=>
 bd (eW fu x48 pa0) (fun x50=>
 sw (!(x50))
 (some ((aP.mk s_ [] false false []),false))
 (some ((aP.mk x6.gAtom x10 x12 x14 v19),true))))))))))))))))
theorem IQ(fu:Nat):K4 (tM fu):=by
 intro pa0 r H
 have H:=fC H
 refine qI Tryz.func230 (fun C hC=>?_)
 refine qS (qR (q1 (lA ([pS pa0.gAtom,a8 pa0.gList])) (q1 (hH rY) (q1 aF (qN (qS (qR (q1 (c6 [pS pa0.gAtom,a8 pa0.gList] bP) (bO H fun x2 z1 H=>(q1 (bJ Tryz.func219 (cO fu pa0 3 _ z1)) (bO H fun x4 z3 H=>(q1 (bJ Tryz.func243 (l5 fu x2 _ z3)) (q1 aF ?_)))))))))))))
 refine qN (qS (bO H fun x6 z5 H=>(bO H fun x8 z7 H=>(bO H fun x10 z9 H=>(bO H fun x12 z11 H=>(bO H fun x14 z13 H=>(dW (dB [1] 0 1 (PY [pS pa0.gAtom,a8 pa0.gList] bP) (dI [12] (bJ Tryz.func219 (cO fu pa0 1 _ z5)) (dI [13] (rF1 qZ) (dB [1] 0 1 (PY [pS pa0.gAtom,a8 pa0.gList] bP) (dI [15] (bJ Tryz.func219 (cO fu pa0 2 _ z7)) (dI [16] (bJ Tryz.func243 (l5 fu x8 _ z9)) ?_)))))))))))))
 refine dI [4] aF (dI [18] (bJ Tryz.func125 (lR fu x4 uT _ z11)) (dI [4] aF (dI [20] (bJ Tryz.func125 (lR fu x4 gM _ z13)) (dI [14,17,19,21] (fM rY RZ) (dE [] (hH rY) (mZ [5,22] (bV qY) (dN (qS (qR (q1 (c6 [pS pa0.gAtom,a8 pa0.gList] bP) (bO H fun x16 z15 H=>(q1 (bJ Tryz.func244 (wB fu pa0 4 _ z15)) (q1 aF ?_)))))))))))))
 refine qN ?_
 iterate 2 refine qS ?_
 refine qR (q1 aF (qN (aO.wk (Wk.regBox (k:=2) (j:=4) 164 16 (by decide) rfl rfl) ?_)))
 refine nF 6 (aA.trs_len _) (fun hl20=>?_)
 refine cG (σ:=(List aD)) (fun i17 v19=>⟨[(1,.ptr 0 0),(2,.ptr 1 0),(3,pB false),(5,.ptr 2 0),(6,a8 x16),(7,pN i17)],⟨[some ⟨237,[pS pa0.gAtom,a8 pa0.gList]⟩,some ⟨60,[pS s_,.nil,pB false,pB false,.nil]⟩,some ⟨60,[pS x6.gAtom,rS x10,pB x12,pB x14,gR v19 0]⟩],[⟨164,16,aD.trs (v19),false⟩]⟩⟩) (fun v19=>⟨[(1,.ptr 0 0),(2,.ptr 1 0),(3,pB false),(5,.ptr 2 0)],⟨[some ⟨237,[pS pa0.gAtom,a8 pa0.gList]⟩,some ⟨60,[pS s_,.nil,pB false,pB false,.nil]⟩,some ⟨60,[pS x6.gAtom,rS x10,pB x12,pB x14,gR v19 0]⟩],[⟨164,16,aD.trs (v19),false⟩]⟩⟩) (f9 H) ?_ ?_
 ·rintro i17 v19 H
  iterate 2 refine qS ?_
  refine qR ?_
  iterate 2 refine q1 aF ?_
  refine q1 (eM bH (aA.trs_len _)) (q1 gU (qN ?_))
  refine eJ H (fun h21 h21l H=>?_) (fun h21 H=>?_)
  ·have h21n:=a7 h21
   refine aO.skip (qS (aO.block (qS (bO H fun x23 z22 H=>(bO H fun x25 z24 H=>(bO H fun x27 z26 H=>(bO H fun x29 z28 H=>(bO H fun x31 z30 H=>(dW (dI [6] aF (dI [7] aF (dI [31,32] (j0 h21n bH) (dI [33] (j7 (aA.cs (a5 x16 i17)) bP) ?_)))))))))))))
   refine dI [34] (bJ Tryz.func219 (cO fu (a5 x16 i17) 0 _ z22)) (dI [35] (rF1 qZ) (dI [6] aF (dI [7] aF (dI [37,38] (j0 h21n bH) (dI [39] (j7 (aA.cs (a5 x16 i17)) bP) (dI [40] (bJ Tryz.func219 (cO fu (a5 x16 i17) 1 _ z24)) (dI [41] (rF1 Q4) (dI [42] (bJ Tryz.func245 (ND fu x25.gList _ z26)) (dI [6] aF (dI [7] aF (dI [44,45] (j0 h21n bH) (dI [46] (j7 (aA.cs (a5 x16 i17)) bP) (dI [47] (bJ Tryz.func219 (cO fu (a5 x16 i17) 2 _ z28)) ?_)))))))))))))
   refine dI [48] (bJ Tryz.func246 (sV fu x29 _ z30)) (dI [36,43,49] (fM s6 aaV) (dE [] (hH s6) (mZ [8,50] (bV aeS) (dN ?_))))
   iterate 2 refine qS ?_
   refine qR ?_
   iterate 2 refine q1 aF ?_
   refine q1 (j0 h21n bH) (q1 (nD bF) (q1 (mR cN) (q1 (eM bH (aA.trs_len _)) (q1 HB (qN ?_)))))
   refine a9 H (fun h32 H=>?_) (fun h32 H=>?_)
   ·refine qS (qR (q1 (aZ GJ) (q1 (bV sz4) (qN (qS (qR ?_))))))
    iterate 2 refine q1 aF ?_
    refine q1 (j0 h21n bH) (q1 (j7 (aA.cs (a5 x16 i17)) bP) (bO H fun x34 z33 H=>(q1 (bJ Tryz.func219 (cO fu (a5 x16 i17) 3 _ z33)) (bO H fun x36 z35 H=>(q1 (bJ Tryz.func243 (l5 fu x34 _ z35)) (q1 (aZ vR) (q1 (bV E8) (qN (qR ?_)))))))))
    iterate 2 refine q1 aF ?_
    refine q1 (j0 h21n bH) (q1 (j7 (aA.cs (a5 x16 i17)) bP) (bO H fun x38 z37 H=>(q1 (bJ Tryz.func219 (cO fu (a5 x16 i17) 4 _ z37)) (bO H fun x40 z39 H=>(q1 (bJ Tryz.func247 (A1 fu x38 _ z39)) (q1 (aZ BY) (q1 (bV nH) (qN (qR (q1 (aZ jB) (q1 (bB zU) (q1 (c6 [pS x23.gAtom,a6 x27,pI x31.gKind,pS x31.gName,a6 x31.gArgs,pB true,rS x36,pI x40.gKind,pS x40.gTrait,pS x40.gName,pI x40.gN,pI x40.gType.gKind,pS x40.gType.gName,a6 x40.gType.gArgs,fD x40.gArgs,lH x40.gArms] JV) (q1 (iI ([(aD.mk x23.gAtom x27 x31 true x36 x40)]:List aD) qT s6) ?_)))))))))))))
    refine dK H fun z41 H=>(q1 (lC z41 qT ab0) (q1 (aZ jB) (q1 (bV abH) (qN (qR (q1 aF (q1 (aW.addI rfl rfl rfl rfl (c:=((i17+1:Nat):Int)) (by omega) (by omega)) (q1 aF (qN ?_)))))))))
    exact jA h21l ⟨_,(aY H:),bZ⟩
   refine aO.skip (qR (q1 (aZ jB) (q1 (bB zU) (q1 (c6 [pS x23.gAtom,a6 x27,pI x31.gKind,pS x31.gName,a6 x31.gArgs,pB false,.nil,pI 0,pS s_,pS s_,pI 0,pI 0,pS s_,.nil,.nil,.nil] JV) (q1 (iI ([(aD.mk x23.gAtom x27 x31 false [] (aG.mk 0 s_ s_ 0 (aB.mk 0 s_ []) [] []))]:List aD) qT s6) (dK H fun z42 H=>(q1 (lC z42 qT ab0) (q1 (aZ jB) (q1 (bV abH) (qN (qR (q1 aF (q1 (aW.addI rfl rfl rfl rfl (c:=((i17+1:Nat):Int)) (by omega) (by omega)) ?_)))))))))))))
   refine q1 aF (qN ?_)
   exact jA h21l ⟨_,(aY H:),bZ⟩
  refine aO.exit ?_;exact k7 ⟨_,H,bZ⟩
 rintro v19 H
 iterate 2 refine qS ?_
 refine bO H fun x44 z43 H=>?_
 rcases jS (!(x44)) with g45|g45
 ·have H:=oJ H g45
  refine dW (dD [1] (c6 [pS pa0.gAtom,a8 pa0.gList] bP) (dI [79] (bJ Tryz.func217 (cT fu pa0 _ z43)) (dI [80] gS (dI [81] aF ?_))))
  iterate 4 refine wD g45 ?_
  refine dI [82] (bS g45) (dI [87] aF ?_)
  iterate 5 refine wD rfl ?_
  refine dI [88] (bS rfl) (dN (dT rfl (qS (qR (q1 (fM rY RZ) (q1 (bV qY) (q1 aF (qN (aO.ret ?_)))))))))
  obtain rfl:_=r:=(aY H:)
  exact rA (hr:=⟨⟨_,_,_,rfl,rfl,mU,rfl,rfl⟩,rfl,trivial⟩)
 have H:=oH H g45
 rcases jS (decide ((((pa0.gList.length:Nat):Int):Int)=0)) with g46|g46
 ·have H:=oJ H g46
  refine dW (dD [1] (c6 [pS pa0.gAtom,a8 pa0.gList] bP) (dI [79] (bJ Tryz.func217 (cT fu pa0 _ z43)) (dI [80] gS (dI [81] aF (dI (hg:=aT g45) [1] (aZ bF) (dD (hg:=aT g45) [83] (bB cN) (dI (hg:=aT g45) [84] (eM bH (aA.trs_len _)) (dI (hg:=aT g45) [85] dP (dI [82,86] (b4 g45) (dI [87] aF ?_))))))))))
  iterate 5 refine wD g46 ?_
  refine dI [88] (bS g46) (dN (dT rfl (qS (qR (q1 (fM rY RZ) (q1 (bV qY) (q1 aF (qN (aO.ret ?_)))))))))
  obtain rfl:_=r:=(aY H:)
  exact rA (hr:=⟨⟨_,_,_,rfl,rfl,mU,rfl,rfl⟩,rfl,trivial⟩)
 have H:=oH H g46
 refine bO H fun x48 z47 H=>(bO H fun x50 z49 H=>(dW (dD [1] (c6 [pS pa0.gAtom,a8 pa0.gList] bP) (dI [79] (bJ Tryz.func217 (cT fu pa0 _ z43)) (dI [80] gS (dI [81] aF (dI (hg:=aT g45) [1] (aZ bF) (dD (hg:=aT g45) [83] (bB cN) (dI (hg:=aT g45) [84] (eM bH (aA.trs_len _)) (dI (hg:=aT g45) [85] dP (dI [82,86] (b4 g45) (dI [87] aF (dD (hg:=aT g46) [5] (c6 [pS x6.gAtom,rS x10,pB x12,pB x14,gR v19 0] mU) ?_)))))))))))))
 refine dI (hg:=aT g46) [89] (bJ Tryz.func249 (H6 fu (aP.mk x6.gAtom x10 x12 x14 v19) _ z47)) (dD (hg:=aT g46) [1] (c6 [pS pa0.gAtom,a8 pa0.gList] bP) (dI (hg:=aT g46) [90,91] (bJ Tryz.func248 (q9 fu x48 pa0 _ z49)) (dI (hg:=aT g46) [92] gS (dI [88,93] (b4 g46) (dN ?_)))))
 refine a9 H (fun h51 H=>?_) (fun h51 H=>?_)
 ·refine qS (qR (q1 (fM rY RZ) (q1 (bV qY) (q1 aF (qN (aO.ret ?_))))))
  obtain rfl:_=r:=(aY H:)
  exact rA (hr:=⟨⟨_,_,_,rfl,rfl,mU,rfl,rfl⟩,rfl,trivial⟩)
 refine aO.skip (qS (qR (q1 (c6 [pS x6.gAtom,rS x10,pB x12,pB x14,gR v19 0] mU) (q1 (bV qY) (q1 aF (qN (aO.ret ?_)))))))
 obtain rfl:_=r:=(aY H:)
 exact rA (hr:=⟨⟨_,_,_,rfl,rfl,mU,rfl,rfl⟩,rfl,trivial⟩)
def FD(m:aI→Option aA):Prop:= ∀(pd:aI) (r:aA),m pd=some r→cH Tryz.prog 250 [(aI.pv pd)] ((aA.pv r):PV)
def C7(fu:Nat)(pd:aI)(x2 x4 x6 x8:aA):Nat→((List aA))→Option (LR ((List aA)) aA):=
 fun i9 v11=>bd (b7 fu ((a5 pd.gConstructors i9).gName)) (fun x15=>
 bd (vM fu ((a5 pd.gConstructors i9).gFields)) (fun x17=>
 gd ((([x15]:List aA)).length+(x17).length≤68719476736)
 (gd ((v11).length+(([(aA.mk s_ (([x15]:List aA)++x17))]:List aA)).length≤68719476736)
 (some (.next (v11++([(aA.mk s_ (([x15]:List aA)++x17))]:List aA)))))))
def CL(fu:Nat)(pd:aI)(x2 x4 x6 x8:aA):Option (aA⊕((List aA))):=
 loopN (C7 fu pd x2 x4 x6 x8) (pd.gConstructors.length-0) 0 x8.gList
def pX(fu:Nat)(pd:aI):Option aA:=
 bd (b7 fu IB) (fun x2=>
 bd (b7 fu pd.gName) (fun x4=>
 bd (jK fu pd.gVars) (fun x6=>
 bd (kB fu ([x2,x4,x6]:List aA)) (fun x8=>
 so (CL fu pd x2 x4 x6 x8) (fun v11=>
 bd (mH fu pd) (fun x21=>
 bd (xI fu x21 (aA.mk x8.gAtom v11)) (fun x23=>
 some x23)))))))
theorem CO(fu:Nat):FD (pX fu):=by
 intro pd r H
 have H:=fC H
 refine qI Tryz.func250 (fun C hC=>?_)
 refine qS (qR (q1 (lA (uJ pd)) (q1 (hH b3) (qN (qS (bO H fun x2 z1 H=>(bO H fun x4 z3 H=>(bO H fun x6 z5 H=>(bO H fun x8 z7 H=>(dWa (dI [] (bJ Tryz.func266 (bY fu IB _ z1)) (dI [1] (aZ GW) (dBz [6] 0 0 (s5 e8) ?_)))))))))))))
 refine dI [7] (bJ Tryz.func266 (bY fu pd.gName _ z3)) (dI [1] (aZ GH) (dBz [9] 0 0 (s5 jM) (dI [10] (bJ Tryz.func267 (kG fu pd.gVars _ z5)) (dI [5,8,11] (iI ([x2,x4,x6]:List aA) bH b3) ?_))))
 refine dEz [12] (fun _ z=>by cases z<;>exact aW.callOwn (pre:=⟨[],[]⟩) (B:= []) (R:=fun k=> .agg [pS x8.gAtom,dM x8.gList k]) (ps:= [_]) (qs:= [a8 ([x2,x4,x6]:List aA)]) [] rfl rfl Tryz.func265 (by kernel_rfl) rfl rfl rfl (mO.of trivial trivial (by decide) (by decide)) rfl mD rfl rfl rfl (fun k k'=>(.agg (.cons (.free _ rfl) (.cons Mv.acc QV.nil)))) (kX fu ([x2,x4,x6]:List aA) _ z7)) ?_;refine dA (fun _ st h=>vAl h b3) (dZ 3 [3,13] (bV dR) (dN ?_))
 iterate 2 refine qS ?_
 refine qR (q1 aF (qN ?_))
 refine aO.fact (cB 0 2 rfl rfl rfl (aC.trs_len _)) (fun hl12=>?_)
 refine cG (σ:=(List aA)) (fun i9 v11=>⟨[(1,.ptr 0 0),(2,.ptr 1 0),(3,.ptr 2 0),(4,pN i9)],⟨[some ⟨116,uJ pd⟩,some ⟨237,[pS s_,.nil]⟩,some ⟨237,[pS x8.gAtom,dM v11 0]⟩],[⟨237,2,aA.trs (v11),false⟩]⟩⟩) (fun v11=>⟨[(1,.ptr 0 0),(2,.ptr 1 0),(3,.ptr 2 0)],⟨[some ⟨116,uJ pd⟩,some ⟨237,[pS s_,.nil]⟩,some ⟨237,[pS x8.gAtom,dM v11 0]⟩],[⟨237,2,aA.trs (v11),false⟩]⟩⟩) (f9 H) ?_ ?_
 ·rintro i9 v11 H
  iterate 2 refine qS ?_
  refine qR (q1 aF (q1 (aZ lD) (q1 (bB vN) (q1 (eM tX (aC.trs_len _)) (q1 gU (qN ?_))))))
  refine eJ H (fun h13 h13l H=>?_) (fun h13 H=>?_)
  ·have h13n:=a7 h13
   refine aO.skip (qS (aO.block (bO H fun x15 z14 H=>(bO H fun x17 z16 H=>(dK H fun z18 H=>(dK H fun z19 H=>(dW (dI [3] (aZ bF) (dB [21] 0 2 (s5 cN) (dI [1] (aZ lD) (dD [23] (bB vN) (dI [4] aF (dI [24,25] (j0 h13n tX) ?_)))))))))))))
   refine dI [26] (nD LU) (dI [27] (mR e8) (dI [28] (bJ Tryz.func266 (bY fu ((a5 pd.gConstructors i9).gName) _ z14)) (dE [29] (rC ([x15]:List aA) bH b3) (dI [1] (aZ lD) (dB [31] 0 1 (s5 vN) (dI [4] aF (dI [32,33] (j0 h13n tX) (dI [34] (nD G5) (dI [35] (mR nY) (dI [36] (bJ Tryz.func268 (F4 fu ((a5 pd.gConstructors i9).gFields) _ z16)) (dE [30,37] (lC z18 bH oA) (dI [38] (fM b3 lG) (dI [39] (iI ([(aA.mk s_ (([x15]:List aA)++x17))]:List aA) bH b3) ?_)))))))))))))
   refine dE [22,40] (lC z19 bH oA) (dI [3] (aZ bF) (mZ [42,41] (bV vI) (dN (qR (q1 aF (q1 (aW.addI rfl rfl rfl rfl (c:=((i9+1:Nat):Int)) (by omega) (by omega)) (q1 aF (qN ?_))))))))
   exact jA h13l ⟨_,(aY H:),bZ⟩
  refine aO.exit ?_;exact k7 ⟨_,H,bZ⟩
 rintro v11 H
 refine qS (bO H fun x21 z20 H=>(bO H fun x23 z22 H=>(dW (dD [1] (c6 [pS pd.gName,rS pd.gVars,eF pd.gConstructors] lT) (dI [43] (bJ Tryz.func257 (tW fu pd _ z20)) (dD [3] (c6 [pS x8.gAtom,dM v11 0] bP) (dI [44,45] (bJ Tryz.func271 (B4 fu x21 (aA.mk x8.gAtom v11) _ z22)) (mZ [2,46] (bV dR) (dN (aO.ret ?_))))))))))
 obtain rfl:_=r:=(aY H:)
 exact bN (hr:=⟨⟨_,_,_,rfl,rfl,bP,rfl,rfl⟩,trivial⟩)
def EW(m:aA→Option (aI×Bool)):Prop:= ∀(px:aA) (r:aI×Bool),m px=some r→cH Tryz.prog 231 [(aA.pv px)] (.tup [(aI.pv r.1),pB r.2]:PV)
def CV(fu:Nat)(px x2 x4:aA)(x6:List ByteArray)(x8:List aA):Nat→((List aC))→Option (LR ((List aC)) (aI×Bool)):=
 fun i9 v11=>bd (cX fu (a5 x8 i9) 0) (fun x15=>
 bd (rT fu (a5 x8 i9) 1) (fun x17=>
 bd (BS fu x17) (fun x19=>
 gd ((v11).length+(([(aC.mk x15.gAtom x19)]:List aC)).length≤68719476736)
 (some (.next (v11++([(aC.mk x15.gAtom x19)]:List aC)))))))
def CU(fu:Nat)(px x2 x4:aA)(x6:List ByteArray)(x8:List aA):Option ((aI×Bool)⊕((List aC))):=
 loopN (CV fu px x2 x4 x6 x8) (x8.length-0) 0 ([])
def pE(fu:Nat)(px:aA):Option (aI×Bool):=
 bd (cX fu px 1) (fun x2=>
 bd (cX fu px 2) (fun x4=>
 bd (kF fu x4) (fun x6=>
 bd (rT fu px 3) (fun x8=>
 so (CU fu px x2 x4 x6 x8) (fun v11=>
 bd (gA fu px) (fun x22=>
 sw (!(x22))
 (some ((aI.mk s_ [] []),false))
 (sw (decide ((((px.gList.length:Nat):Int):Int)=0))
 (some ((aI.mk s_ [] []),false))
 (bd (pX fu (aI.mk x2.gAtom x6 v11)) (fun x26=>
 bd (eW fu x26 px) (fun x28=>
 sw (!(x28))
 (some ((aI.mk s_ [] []),false))
 (some ((aI.mk x2.gAtom x6 v11),true))))))))))))
theorem C6(fu:Nat):EW (pE fu):=by
 intro px r H
 have H:=fC H
 refine qI Tryz.func231 (fun C hC=>?_)
 refine qS (qR (q1 (lA ([pS px.gAtom,a8 px.gList])) (q1 (hH qF) (q1 aF (qN (qS (bO H fun x2 z1 H=>(bO H fun x4 z3 H=>(bO H fun x6 z5 H=>(dW (dB [1] 0 1 (PY [pS px.gAtom,a8 px.gList] bP) (dI [7] (bJ Tryz.func219 (cO fu px 1 _ z1)) (dI [8] (rF1 qZ) ?_)))))))))))))
 refine dB [1] 0 1 (PY [pS px.gAtom,a8 px.gList] bP) (dI [10] (bJ Tryz.func219 (cO fu px 2 _ z3)) (dI [11] (bJ Tryz.func243 (l5 fu x4 _ z5)) (dI [9,12] (fM qF MN) (dE [] (hH qF) (mZ [4,13] (bV qU) (dN (qS (qR (q1 (c6 [pS px.gAtom,a8 px.gList] bP) (bO H fun x8 z7 H=>(q1 (bJ Tryz.func244 (wB fu px 3 _ z7)) (q1 aF (qN ?_)))))))))))))
 iterate 2 refine qS ?_
 refine qR (q1 aF (qN (aO.wk (Wk.regBox (k:=2) (j:=2) 195 2 (by decide) rfl rfl) ?_)))
 refine nF 5 (aA.trs_len _) (fun hl12=>?_)
 refine cG (σ:=(List aC)) (fun i9 v11=>⟨[(1,.ptr 0 0),(2,.ptr 1 0),(3,pB false),(4,.ptr 2 0),(5,a8 x8),(6,pN i9)],⟨[some ⟨237,[pS px.gAtom,a8 px.gList]⟩,some ⟨116,[pS s_,.nil,.nil]⟩,some ⟨116,[pS x2.gAtom,rS x6,t8 v11 0]⟩],[⟨195,2,aC.trs (v11),false⟩]⟩⟩) (fun v11=>⟨[(1,.ptr 0 0),(2,.ptr 1 0),(3,pB false),(4,.ptr 2 0)],⟨[some ⟨237,[pS px.gAtom,a8 px.gList]⟩,some ⟨116,[pS s_,.nil,.nil]⟩,some ⟨116,[pS x2.gAtom,rS x6,t8 v11 0]⟩],[⟨195,2,aC.trs (v11),false⟩]⟩⟩) (f9 H) ?_ ?_
 ·rintro i9 v11 H
  iterate 2 refine qS ?_
  refine qR ?_
  iterate 2 refine q1 aF ?_
  refine q1 (eM bH (aA.trs_len _)) (q1 gU (qN ?_))
  refine eJ H (fun h13 h13l H=>?_) (fun h13 H=>?_)
  ·have h13n:=a7 h13
   refine aO.skip (qS (aO.block (bO H fun x15 z14 H=>(bO H fun x17 z16 H=>(bO H fun x19 z18 H=>(dK H fun z20 H=>(dW (dI [4] (aZ lD) (dD [22] (bB vN) (dI [5] aF (dI [6] aF (dI [24,25] (j0 h13n bH) (dI [26] (j7 (aA.cs (a5 x8 i9)) bP) ?_)))))))))))))
   refine dI [27] (bJ Tryz.func219 (cO fu (a5 x8 i9) 0 _ z14)) (dI [28] (rF1 qZ) (dI [5] aF (dI [6] aF (dI [30,31] (j0 h13n bH) (dI [32] (j7 (aA.cs (a5 x8 i9)) bP) (dI [33] (bJ Tryz.func244 (wB fu (a5 x8 i9) 1 _ z16)) (dI [34] (bJ Tryz.func245 (ND fu x17 _ z18)) (dI [29,35] (fM T5 aeU) (dI [36] (iI ([(aC.mk x15.gAtom x19)]:List aC) tX T5) (dE [23,37] (lC z20 tX aiM) (dI [4] (aZ lD) (mZ [39,38] (bV agK) (dN ?_)))))))))))))
   refine qR (q1 aF (q1 (aW.addI rfl rfl rfl rfl (c:=((i9+1:Nat):Int)) (by omega) (by omega)) (q1 aF (qN ?_))))
   exact jA h13l ⟨_,(aY H:),bZ⟩
  refine aO.exit ?_;exact k7 ⟨_,H,bZ⟩
 rintro v11 H
 iterate 2 refine qS ?_
 refine bO H fun x22 z21 H=>?_
 rcases jS (!(x22)) with g23|g23
 ·have H:=oJ H g23
  refine dW (dD [1] (c6 [pS px.gAtom,a8 px.gList] bP) (dI [40] (bJ Tryz.func217 (cT fu px _ z21)) (dI [41] gS (dI [42] aF ?_))))
  iterate 4 refine wD g23 ?_
  refine dI [43] (bS g23) (dI [48] aF ?_)
  iterate 5 refine wD rfl ?_
  refine dI [49] (bS rfl) (dN (dT rfl (qS (qR (q1 (fM qF MN) (q1 (bV qU) (q1 aF (qN (aO.ret ?_)))))))))
  obtain rfl:_=r:=(aY H:)
  exact rA (hr:=⟨⟨_,_,_,rfl,rfl,lT,rfl,rfl⟩,rfl,trivial⟩)
 have H:=oH H g23
 rcases jS (decide ((((px.gList.length:Nat):Int):Int)=0)) with g24|g24
 ·have H:=oJ H g24
  refine dW (dD [1] (c6 [pS px.gAtom,a8 px.gList] bP) (dI [40] (bJ Tryz.func217 (cT fu px _ z21)) (dI [41] gS (dI [42] aF (dI (hg:=aT g23) [1] (aZ bF) (dD (hg:=aT g23) [44] (bB cN) (dI (hg:=aT g23) [45] (eM bH (aA.trs_len _)) (dI (hg:=aT g23) [46] dP (dI [43,47] (b4 g23) (dI [48] aF ?_))))))))))
  iterate 5 refine wD g24 ?_
  refine dI [49] (bS g24) (dN (dT rfl (qS (qR (q1 (fM qF MN) (q1 (bV qU) (q1 aF (qN (aO.ret ?_)))))))))
  obtain rfl:_=r:=(aY H:)
  exact rA (hr:=⟨⟨_,_,_,rfl,rfl,lT,rfl,rfl⟩,rfl,trivial⟩)
 have H:=oH H g24
 refine bO H fun x26 z25 H=>(bO H fun x28 z27 H=>(dW (dD [1] (c6 [pS px.gAtom,a8 px.gList] bP) (dI [40] (bJ Tryz.func217 (cT fu px _ z21)) (dI [41] gS (dI [42] aF (dI (hg:=aT g23) [1] (aZ bF) (dD (hg:=aT g23) [44] (bB cN) (dI (hg:=aT g23) [45] (eM bH (aA.trs_len _)) (dI (hg:=aT g23) [46] dP (dI [43,47] (b4 g23) (dI [48] aF (dD (hg:=aT g24) [4] (c6 [pS x2.gAtom,rS x6,t8 v11 0] lT) ?_)))))))))))))
 refine dI (hg:=aT g24) [50] (bJ Tryz.func250 (CO fu (aI.mk x2.gAtom x6 v11) _ z25)) (dD (hg:=aT g24) [1] (c6 [pS px.gAtom,a8 px.gList] bP) (dI (hg:=aT g24) [51,52] (bJ Tryz.func248 (q9 fu x26 px _ z27)) (dI (hg:=aT g24) [53] gS (dI [49,54] (b4 g24) (dN ?_)))))
 refine a9 H (fun h29 H=>?_) (fun h29 H=>?_)
 ·refine qS (qR (q1 (fM qF MN) (q1 (bV qU) (q1 aF (qN (aO.ret ?_))))))
  obtain rfl:_=r:=(aY H:)
  exact rA (hr:=⟨⟨_,_,_,rfl,rfl,lT,rfl,rfl⟩,rfl,trivial⟩)
 refine aO.skip (qS (qR (q1 (c6 [pS x2.gAtom,rS x6,t8 v11 0] lT) (q1 (bV qU) (q1 aF (qN (aO.ret ?_)))))))
 obtain rfl:_=r:=(aY H:)
 exact rA (hr:=⟨⟨_,_,_,rfl,rfl,lT,rfl,rfl⟩,rfl,trivial⟩)
def SE(m:aA→Option ((List aJ))):Prop:= ∀(px:aA) (r:(List aJ)),m px=some r→cH Tryz.prog 251 [(aA.pv px)] (eK r:PV)
def O2(fu:Nat)(px:aA):Nat→((List aJ))→Option (LR ((List aJ)) ((List aJ))):=
 fun i1 v3=>bd (cX fu (a5 px.gList i1) 0) (fun x7=>
 bd (cX fu (a5 px.gList i1) 1) (fun x9=>
 bd (kM fu x9) (fun x11=>
 gd ((v3).length+(([(aJ.mk x7.gAtom x11)]:List aJ)).length≤68719476736)
 (some (.next (v3++([(aJ.mk x7.gAtom x11)]:List aJ)))))))
def OQ(fu:Nat)(px:aA):Option (((List aJ))⊕((List aJ))):=
 loopN (O2 fu px) (px.gList.length-0) 0 ([])
def t7(fu:Nat)(px:aA):Option ((List aJ)):=
 so (OQ fu px) (fun v3=>
 some v3)
theorem DX(fu:Nat):SE (t7 fu):=by
 intro px r H
 have H:=fC H
 refine qI Tryz.func251 (fun C hC=>?_)
 refine qS (qR (q1 (lA ([pS px.gAtom,a8 px.gList])) (q1 aF (qN (qS (qR (q1 (rC ([]:List aJ) vF GZ) (q1 aF (qN ?_)))))))))
 iterate 2 refine qS ?_
 refine qR (q1 aF (qN ?_))
 refine aO.fact (cB 0 1 rfl rfl rfl (aA.trs_len _)) (fun hl4=>?_)
 refine cG (σ:=(List aJ)) (fun i1 v3=>⟨[(1,.ptr 0 0),(2,.nil),(3,RU v3 0),(4,pN i1)],⟨[some ⟨237,[pS px.gAtom,a8 px.gList]⟩],[⟨37,4,aJ.trs (v3),false⟩]⟩⟩) (fun v3=>⟨[(2,.nil),(3,RU v3 0)],⟨[some ⟨237,[pS px.gAtom,a8 px.gList]⟩],[⟨37,4,aJ.trs (v3),false⟩]⟩⟩) (f9 H) ?_ ?_
 ·rintro i1 v3 H
  iterate 2 refine qS ?_
  refine qR (q1 aF (q1 (aZ bF) (q1 (bB cN) (q1 (eM bH (aA.trs_len _)) (q1 gU (qN ?_))))))
  refine eJ H (fun h5 h5l H=>?_) (fun h5 H=>?_)
  ·have h5n:=a7 h5
   refine aO.skip (qS (aO.block (bO H fun x7 z6 H=>(bO H fun x9 z8 H=>(bO H fun x11 z10 H=>(dK H fun z12 H=>(dW (dI [3] aF (dI [1] (aZ bF) (dD [14] (bB cN) (dI [4] aF (dI [15,16] (j0 h5n bH) (dI [17] (j7 (aA.cs (a5 px.gList i1)) bP) ?_)))))))))))))
   refine dI [18] (bJ Tryz.func219 (cO fu (a5 px.gList i1) 0 _ z6)) (dI [19] (rF1 qZ) (dI [1] (aZ bF) (dD [21] (bB cN) (dI [4] aF (dI [22,23] (j0 h5n bH) (dI [24] (j7 (aA.cs (a5 px.gList i1)) bP) (dI [25] (bJ Tryz.func219 (cO fu (a5 px.gList i1) 1 _ z8)) (dI [26] (bJ Tryz.func246 (sV fu x9 _ z10)) (dI [20,27] (fM GZ acC) (dI [28] (iI ([(aJ.mk x7.gAtom x11)]:List aJ) vF GZ) (dE [13,29] (lC z12 vF ahE) (dI [30] aF (dN ?_)))))))))))))
   refine qR (q1 aF (q1 (aW.addI rfl rfl rfl rfl (c:=((i1+1:Nat):Int)) (by omega) (by omega)) (q1 aF (qN ?_))))
   exact jA h5l ⟨_,(aY H:),bZ⟩
  refine aO.exit ?_;exact k7 ⟨_,H,bZ⟩
 rintro v3 H
 refine qS (qR ?_)
 iterate 2 refine q1 aF ?_
 refine qN (aO.ret ?_)
 obtain rfl:_=r:=(aY H:)
 exact bN
def US(m:(List aJ)→Option aA):Prop:= ∀(plist:List aJ) (r:aA),m plist=some r→cH Tryz.prog 272 [eK plist] ((aA.pv r):PV)
def SI(fu:Nat)(plist:List aJ):Nat→((List aA))→Option (LR ((List aA)) aA):=
 fun i1 v3=>bd (b7 fu ((a5 plist i1).gTrait)) (fun x7=>
 bd (kK fu ((a5 plist i1).gType)) (fun x9=>
 bd (kB fu ([x7,x9]:List aA)) (fun x11=>
 gd ((v3).length+(([x11]:List aA)).length≤68719476736)
 (some (.next (v3++([x11]:List aA)))))))
def TP(fu:Nat)(plist:List aJ):Option (aA⊕((List aA))):=
 loopN (SI fu plist) (plist.length-0) 0 ([])
def vX(fu:Nat)(plist:List aJ):Option aA:=
 so (TP fu plist) (fun v3=>
 some (aA.mk s_ v3))
theorem GB(fu:Nat):US (vX fu):=by
 intro plist r H
 have H:=fC H
 refine qI Tryz.func272 (fun C hC=>?_)
 refine qS (qR (q1 (hH b3) (qN (qS (qR (q1 (fM b3 lG) (q1 (hH b3) (q1 (bV dR) (qN ?_)))))))))
 iterate 2 refine qS ?_
 refine qR (q1 aF (qN (aO.wk (Wk.regBox (k:=1) (j:=1) 237 2 (by decide) rfl rfl) ?_)))
 refine nF 0 (aJ.trs_len _) (fun hl4=>?_)
 refine cG (σ:=(List aA)) (fun i1 v3=>⟨[(0,eK plist),(2,.ptr 0 0),(3,.ptr 1 0),(4,pN i1)],⟨[some ⟨237,[pS s_,.nil]⟩,some ⟨237,[pS s_,dM v3 0]⟩],[⟨237,2,aA.trs (v3),false⟩]⟩⟩) (fun v3=>⟨[(2,.ptr 0 0),(3,.ptr 1 0)],⟨[some ⟨237,[pS s_,.nil]⟩,some ⟨237,[pS s_,dM v3 0]⟩],[⟨237,2,aA.trs (v3),false⟩]⟩⟩) (f9 H) ?_ ?_
 ·rintro i1 v3 H
  iterate 2 refine qS ?_
  refine qR ?_
  iterate 2 refine q1 aF ?_
  refine q1 (eM vF (aJ.trs_len _)) (q1 gU (qN ?_))
  refine eJ H (fun h5 h5l H=>?_) (fun h5 H=>?_)
  ·have h5n:=a7 h5
   refine aO.skip (qS (aO.block (bO H fun x7 z6 H=>(bO H fun x9 z8 H=>(bO H fun x11 z10 H=>(dK H fun z12 H=>(dW (dI [3] (aZ bF) (dD [12] (bB cN) (dI [0] aF (dI [4] aF (dI [14,15] (j0 h5n vF) (dI [16] (nD ZD) ?_)))))))))))))
   refine dI [17] (mR e8) (dI [18] (bJ Tryz.func266 (bY fu ((a5 plist i1).gTrait) _ z6)) (dI [0] aF (dI [4] aF (dI [20,21] (j0 h5n vF) (dI [22] (nD JH) (dI [23] (j7 (aB.cs ((a5 plist i1).gType)) dL) (dI [24] (bJ Tryz.func269 (sT fu ((a5 plist i1).gType) _ z8)) (dI [19,25] (iI ([x7,x9]:List aA) bH b3) (dI [26] (bJ Tryz.func265 (yV (kX fu) ([x7,x9]:List aA) _ z10)) (dI [27] (iI ([x11]:List aA) bH b3) (dE [13,28] (lC z12 bH oA) (dI [3] (aZ bF) (mZ [30,29] (bV vI) ?_)))))))))))))
   refine dN (qR (q1 aF (q1 (aW.addI rfl rfl rfl rfl (c:=((i1+1:Nat):Int)) (by omega) (by omega)) (q1 aF (qN ?_)))))
   exact jA h5l ⟨_,(aY H:),bZ⟩
  refine aO.exit ?_;exact k7 ⟨_,H,bZ⟩
 rintro v3 H
 refine qS (qR (q1 (c6 [pS s_,dM v3 0] bP) (q1 (bV dR) (qN (aO.ret ?_)))))
 obtain rfl:_=r:=(aY H:)
 exact bN (hr:=⟨⟨_,_,_,rfl,rfl,bP,rfl,rfl⟩,trivial⟩)
def D8(m:aH→Option aA):Prop:= ∀(pa0:aH) (r:aA),m pa0=some r→cH Tryz.prog 252 [(aH.pv pa0)] ((aA.pv r):PV)
def C0(fu:Nat)(pa0:aH)(x2:Bool):Option (aA⊕((List ByteArray))):=
 sw (pa0.gDefault)
 (gd (([]:List ByteArray).length+(([sB]:List ByteArray)).length≤68719476736)
 (some (.inr (([])++([sB]:List ByteArray)))))
 (some (.inr ([])))
def DC(fu:Nat)(pa0:aH)(x2:Bool)(v5:List ByteArray):Option (aA⊕(ByteArray×(List aA))):=
 sw (pa0.gHasAssoc)
 (bd (kK fu pa0.gAssoc) (fun x12=>
 bd (kB fu ([x12]:List aA)) (fun x14=>
 some (.inr (x14.gAtom,x14.gList)))))
 (some (.inr (s_,([]))))
def CM(fu:Nat)(pa0:aH)(x2:Bool)(v5:List ByteArray)(v8:ByteArray)(v9:List aA)(x16 x18 x20 x22 x24 x26 x28:aA):Nat→((List aA))→Option (LR ((List aA)) aA):=
 fun i29 v31=>lt (a5 pa0.gMethods i29) (fun y34=>
 bd (b7 fu y34.gName) (fun x37=>
 bd (jK fu y34.gVars) (fun x39=>
 bd (kJ fu y34.gBody) (fun x41=>
 bd (kB fu ([x37,x39,x41]:List aA)) (fun x43=>
 gd ((v31).length+(([(aA.mk x43.gAtom x43.gList)]:List aA)).length≤68719476736)
 (some (.next (v31++([(aA.mk x43.gAtom x43.gList)]:List aA)))))))))
def CR(fu:Nat)(pa0:aH)(x2:Bool)(v5:List ByteArray)(v8:ByteArray)(v9:List aA)(x16 x18 x20 x22 x24 x26 x28:aA):Option (aA⊕((List aA))):=
 loopN (CM fu pa0 x2 v5 v8 v9 x16 x18 x20 x22 x24 x26 x28) (pa0.gMethods.length-0) 0 x28.gList
def pZ(fu:Nat)(pa0:aH):Option aA:=
 bd (l4 fu pa0) (fun x2=>
 sw (!(x2))
 (some (aA.mk s_ []))
 (so (C0 fu pa0 x2) (fun v5=>
 so (DC fu pa0 x2 v5) (fun(v8,v9)=>
 bd (b7 fu IJ) (fun x16=>
 bd (b7 fu pa0.gTrait) (fun x18=>
 bd (jK fu pa0.gVars) (fun x20=>
 bd (kK fu pa0.gHead) (fun x22=>
 bd (vX fu pa0.gWhere) (fun x24=>
 bd (jK fu v5) (fun x26=>
 bd (kB fu ([x16,x18,x20,x22,x24,x26,(aA.mk v8 v9)]:List aA)) (fun x28=>
 so (CR fu pa0 x2 v5 v8 v9 x16 x18 x20 x22 x24 x26 x28) (fun v31=>
 bd (xI fu true (aA.mk x28.gAtom v31)) (fun x46=>
 some x46)))))))))))))
theorem CW(fu:Nat):D8 (pZ fu):=by
 intro pa0 r H
 have H:=fC H
 refine qI Tryz.func252 (fun C hC=>?_)
 refine qS (qR (q1 (lA (iP pa0)) (q1 (hH b3) (qN ?_))))
 iterate 2 refine qS ?_
 refine qR (q1 (c6 [pS pa0.gTrait,rS pa0.gVars,pI pa0.gHead.gKind,pS pa0.gHead.gName,a6 pa0.gHead.gArgs,eK pa0.gWhere,pB pa0.gDefault,pB pa0.gHasAssoc,pI pa0.gAssoc.gKind,pS pa0.gAssoc.gName,a6 pa0.gAssoc.gArgs,jY pa0.gMethods] nA) (bO H fun x2 z1 H=>(q1 (bJ Tryz.func258 (tV fu pa0 _ z1)) (q1 gS (qN ?_)))))
 refine a9 H (fun h3 H=>?_) (fun h3 H=>?_)
 ·refine qS (qR (q1 (fM b3 lG) (q1 (bV dR) (qN (aO.ret ?_)))))
  obtain rfl:_=r:=(aY H:)
  exact bN (hr:=⟨⟨_,_,_,rfl,rfl,bP,rfl,rfl⟩,trivial⟩)
 refine aO.skip (qS (qR (q1 (rC ([]:List ByteArray) bW jZ) (q1 aF (qN (qS ?_))))))
 refine oM (σ:=(List ByteArray)) (fun v5=>⟨[(1,.ptr 0 0),(2,.ptr 1 0),(3,aS v5 0)],⟨[some ⟨55,iP pa0⟩,some ⟨237,[pS s_,.nil]⟩],[⟨9,1,aX (v5),false⟩]⟩⟩) (f9 H) (fun H=>?_) ?_
 ·refine qS (qR (q1 (aZ adN) (q1 (bB sh4) (qN ?_))))
  refine a9 H (fun h6 H=>?_) (fun h6 H=>?_)
  ·refine qR (q1 aF (q1 (iI ([sB]:List ByteArray) bW jZ) (dK H fun z7 H=>(q1 (lC z7 bW oT) (q1 aF (qN ?_))))))
   exact dH ⟨_,(aY H:),bZ⟩
  refine aO.skip ?_;exact dH ⟨_,(aY H:),bZ⟩
 rintro v5 H
 refine qS (qR (q1 (fM b3 lG) (q1 (hH b3) (q1 (bV dR) (qN (qS (aO.wk (Wk.regBox (k:=2) (j:=1) 237 2 (by decide) rfl rfl) ?_)))))))
 refine oM (σ:=ByteArray×(List aA)) (fun(v8,v9)=>⟨[(1,.ptr 0 0),(2,.ptr 1 0),(3,aS v5 0),(4,.ptr 2 0)],⟨[some ⟨55,iP pa0⟩,some ⟨237,[pS s_,.nil]⟩,some ⟨237,[pS v8,a8 v9]⟩],[⟨9,1,aX (v5),false⟩,⟨237,2,aA.trs ([]),false⟩]⟩⟩) (f9 H) (fun H=>?_) ?_
 ·refine qS (qR (q1 (aZ IA) (q1 (bB sh4) (qN ?_))))
  refine a9 H (fun h10 H=>?_) (fun h10 H=>?_)
  ·refine qR (q1 (aZ AJ) (q1 (c6 [pI pa0.gAssoc.gKind,pS pa0.gAssoc.gName,a6 pa0.gAssoc.gArgs] dL) (bO H fun x12 z11 H=>(q1 (bJ Tryz.func269 (sT fu pa0.gAssoc _ z11)) (q1 (iI ([x12]:List aA) bH b3) (bO H fun x14 z13 H=>(q1 (aW.callOwn (pre:=⟨[],[]⟩) (B:= []) (R:=fun k=> .agg [pS x14.gAtom,dM x14.gList k]) (ps:= [_]) (qs:= [a8 ([x12]:List aA)]) [] rfl rfl Tryz.func265 (by kernel_rfl) rfl rfl rfl (mO.of trivial trivial (by decide) (by decide)) rfl mD rfl rfl rfl (fun k k'=>(.agg (.cons (.free _ rfl) (.cons Mv.acc QV.nil)))) (kX fu ([x12]:List aA) _ z13)) (q1 (bV dR) (qN ?_)))))))))
   exact dH ⟨_,(aY H:),bZ⟩
  refine aO.skip ?_;exact dH ⟨_,(aY H:),bZ⟩
 rintro⟨v8,v9⟩ H
 refine qS (bO H fun x16 z15 H=>(bO H fun x18 z17 H=>(bO H fun x20 z19 H=>(bO H fun x22 z21 H=>(bO H fun x24 z23 H=>(bO H fun x26 z25 H=>(bO H fun x28 z27 H=>(dWa (dI [] (bJ Tryz.func266 (bY fu IJ _ z15)) (dI [1] (aZ IU) (dBz [27] 0 0 (s5 e8) (dI [28] (bJ Tryz.func266 (bY fu pa0.gTrait _ z17)) (dI [1] (aZ pM) ?_)))))))))))))
 refine dBz [30] 0 0 (s5 jM) (dI [31] (bJ Tryz.func267 (kG fu pa0.gVars _ z19)) (dI [1] (aZ nB) (dBz [33] 0 0 (PY [pI pa0.gHead.gKind,pS pa0.gHead.gName,a6 pa0.gHead.gArgs] dL) (dI [34] (bJ Tryz.func269 (sT fu pa0.gHead _ z21)) (dI [1] (aZ AU) (dBz [36] 0 0 (s5 ZR) (dI [37] (bJ Tryz.func272 (GB fu pa0.gWhere _ z23)) (dI [3] aF (dI [39] (bJ Tryz.func267 (kG fu v5 _ z25)) (dBz [4] 0 0 (PY [pS v8,a8 v9] bP) (dI [26,29,32,35,38,40,41] (iI ([x16,x18,x20,x22,x24,x26,(aA.mk v8 v9)]:List aA) bH b3) ?_)))))))))))
 refine dEz [42] (fun _ z=>by cases z<;>exact aW.callOwn (pre:=⟨[],[]⟩) (B:= []) (R:=fun k=> .agg [pS x28.gAtom,dM x28.gList k]) (ps:= [_]) (qs:= [a8 ([x16,x18,x20,x22,x24,x26,(aA.mk v8 v9)]:List aA)]) [] rfl rfl Tryz.func265 (by kernel_rfl) rfl rfl rfl (mO.of trivial trivial (by decide) (by decide)) rfl mD rfl rfl rfl (fun k k'=>(.agg (.cons (.free _ rfl) (.cons Mv.acc QV.nil)))) (kX fu ([x16,x18,x20,x22,x24,x26,(aA.mk v8 v9)]:List aA) _ z27)) ?_;refine dA (fun _ st h=>vAl h b3) (dZ 5 [5,43] (bV dR) (dN ?_))
 iterate 2 refine qS ?_
 refine qR (q1 aF (qN ?_))
 refine aO.fact (cB 0 11 rfl rfl rfl (aN.trs_len _)) (fun hl32=>?_)
 refine cG (σ:=(List aA)) (fun i29 v31=>⟨[(1,.ptr 0 0),(2,.ptr 1 0),(5,.ptr 3 0),(6,pN i29)],⟨[some ⟨55,iP pa0⟩,some ⟨237,[pS s_,.nil]⟩,some ⟨237,[pS v8,a8 v9]⟩,some ⟨237,[pS x28.gAtom,dM v31 2]⟩],[⟨9,1,aX (v5),false⟩,⟨237,2,aA.trs ([]),false⟩,⟨237,2,aA.trs (v31),false⟩]⟩⟩) (fun v31=>⟨[(2,.ptr 1 0),(5,.ptr 3 0)],⟨[some ⟨55,iP pa0⟩,some ⟨237,[pS s_,.nil]⟩,some ⟨237,[pS v8,a8 v9]⟩,some ⟨237,[pS x28.gAtom,dM v31 2]⟩],[⟨9,1,aX (v5),false⟩,⟨237,2,aA.trs ([]),false⟩,⟨237,2,aA.trs (v31),false⟩]⟩⟩) (f9 H) ?_ ?_
 ·rintro i29 v31 H
  iterate 2 refine qS ?_
  refine qR (q1 aF (q1 (aZ uU) (q1 (bB SH) (q1 (eM FZ (aN.trs_len _)) (q1 gU (qN ?_))))))
  refine eJ H (fun h33 h33l H=>?_) (fun h33 H=>?_)
  ·have h33n:=a7 h33
   refine aO.skip (qS (aO.block (qS (qR (q1 (aZ uU) (q1 (bB SH) (q1 aF (gE H fun y34 h35 H=>(q1 (pA h35 h33n FZ) (q1 (j7 (aN.cs y34) adU) (q1 (hH DN) (q1 (bV aeF) (qN ?_)))))))))))))
   refine bO H fun x37 z36 H=>(bO H fun x39 z38 H=>(bO H fun x41 z40 H=>(bO H fun x43 z42 H=>(dK H fun z44 H=>(dW (dI [5] (aZ bF) (dB [56] 0 1 (s5 cN) (dI [7] (aZ Q3) (dD [58] (bB e8) (dI [59] (bJ Tryz.func266 (bY fu y34.gName _ z36)) (dI [7] (aZ BL) (dD [61] (bB jM) (dI [62] (bJ Tryz.func267 (kG fu y34.gVars _ z38)) ?_)))))))))))))
   refine dI [7] (aZ LM) (dD [64] (c6 [pI y34.gBody.gKind,pS y34.gBody.gTrait,pS y34.gBody.gName,pI y34.gBody.gN,pI y34.gBody.gType.gKind,pS y34.gBody.gType.gName,a6 y34.gBody.gType.gArgs,fD y34.gBody.gArgs,lH y34.gBody.gArms] gC) (dI [65] (bJ Tryz.func270 (H2 fu y34.gBody _ z40)) (dI [60,63,66] (iI ([x37,x39,x41]:List aA) bH b3) (dE [67] (aW.callOwn (pre:=⟨[],[]⟩) (B:= []) (R:=fun k=> .agg [pS x43.gAtom,dM x43.gList k]) (ps:= [_]) (qs:= [a8 ([x37,x39,x41]:List aA)]) [] rfl rfl Tryz.func265 (by kernel_rfl) rfl rfl rfl (mO.of trivial trivial (by decide) (by decide)) rfl mD rfl rfl rfl (fun k k'=>(.agg (.cons (.free _ rfl) (.cons Mv.acc QV.nil)))) (kX fu ([x37,x39,x41]:List aA) _ z42)) (dI [68] (iI ([(aA.mk x43.gAtom x43.gList)]:List aA) bH b3) (dE [57,69] (lC z44 bH oA) (dI [5] (aZ bF) (mZ [71,70] (bV vI) (dN (qR (q1 aF (q1 (aW.addI rfl rfl rfl rfl (c:=((i29+1:Nat):Int)) (by omega) (by omega)) (q1 aF ?_)))))))))))))
   refine qN ?_;exact jA h33l ⟨_,(aY H:),bZ⟩
  refine aO.exit ?_;exact k7 ⟨_,H,bZ⟩
 rintro v31 H
 refine qS (qR (q1 (c6 [pS x28.gAtom,dM v31 2] bP) (bO H fun x46 z45 H=>(q1 (bJ Tryz.func271 (B4 fu true (aA.mk x28.gAtom v31) _ z45)) (q1 (bV dR) (qN (aO.ret ?_)))))))
 obtain rfl:_=r:=(aY H:)
 exact bN (hr:=⟨⟨_,_,_,rfl,rfl,bP,rfl,rfl⟩,trivial⟩)
def EB(m:aA→Option (aH×Bool)):Prop:= ∀(pa0:aA) (r:aH×Bool),m pa0=some r→cH Tryz.prog 232 [(aA.pv pa0)] (.tup [(aH.pv r.1),pB r.2]:PV)
def DA(fu:Nat)(pa0 x2 x4:aA)(x6:List ByteArray)(x8:aA)(x10:aB)(x12:aA)(x14:List aJ)(x16 x18:aA):Option ((aH×Bool)⊕((List aB)×Bool×Int×ByteArray)):=
 sw (decide ((((x18.gList.length:Nat):Int):Int)>0))
 (gd (0<(x18.gList).length)
 (bd (kM fu (a5 x18.gList 0)) (fun x26=>
 some (.inr (x26.gArgs,true,x26.gKind,x26.gName)))))
 (some (.inr ([],false,0,s_)))
def CI(fu:Nat)(pa0 x2 x4:aA)(x6:List ByteArray)(x8:aA)(x10:aB)(x12:aA)(x14:List aJ)(x16 x18:aA)(v22:List aB)(v19:Bool)(v20:Int)(v21:ByteArray)(x28:List aA):Nat→((List aN))→Option (LR ((List aN)) (aH×Bool)):=
 fun i29 v31=>bd (cX fu (a5 x28 i29) 0) (fun x35=>
 bd (cX fu (a5 x28 i29) 1) (fun x37=>
 bd (kF fu x37) (fun x39=>
 bd (cX fu (a5 x28 i29) 2) (fun x41=>
 bd (fS fu x41) (fun x43=>
 gd ((v31).length+(([(aN.mk x35.gAtom x39 x43)]:List aN)).length≤68719476736)
 (some (.next (v31++([(aN.mk x35.gAtom x39 x43)]:List aN)))))))))
def C4(fu:Nat)(pa0 x2 x4:aA)(x6:List ByteArray)(x8:aA)(x10:aB)(x12:aA)(x14:List aJ)(x16 x18:aA)(v22:List aB)(v19:Bool)(v20:Int)(v21:ByteArray)(x28:List aA):Option ((aH×Bool)⊕((List aN))):=
 loopN (CI fu pa0 x2 x4 x6 x8 x10 x12 x14 x16 x18 v22 v19 v20 v21 x28) (x28.length-0) 0 ([])
def pQ(fu:Nat)(pa0:aA):Option (aH×Bool):=
 bd (cX fu pa0 1) (fun x2=>
 bd (cX fu pa0 2) (fun x4=>
 bd (kF fu x4) (fun x6=>
 bd (cX fu pa0 3) (fun x8=>
 bd (kM fu x8) (fun x10=>
 bd (cX fu pa0 4) (fun x12=>
 bd (t7 fu x12) (fun x14=>
 bd (cX fu pa0 5) (fun x16=>
 bd (cX fu pa0 6) (fun x18=>
 so (DA fu pa0 x2 x4 x6 x8 x10 x12 x14 x16 x18) (fun(v22,v19,v20,v21)=>
 bd (rT fu pa0 7) (fun x28=>
 so (C4 fu pa0 x2 x4 x6 x8 x10 x12 x14 x16 x18 v22 v19 v20 v21 x28) (fun v31=>
 bd (gA fu pa0) (fun x46=>
 sw (!(x46))
 (some ((aH.mk s_ [] (aB.mk 0 s_ []) [] false false (aB.mk 0 s_ []) []),false))
 (sw (decide ((((pa0.gList.length:Nat):Int):Int)=0))
 (some ((aH.mk s_ [] (aB.mk 0 s_ []) [] false false (aB.mk 0 s_ []) []),false))
 (bd (pZ fu (aH.mk x2.gAtom x6 x10 x14 (decide ((((x16.gList.length:Nat):Int):Int)>0)) v19 (aB.mk v20 v21 v22) v31)) (fun x50=>
 bd (eW fu x50 pa0) (fun x52=>
 sw (!(x52))
 (some ((aH.mk s_ [] (aB.mk 0 s_ []) [] false false (aB.mk 0 s_ []) []),false))
 (some ((aH.mk x2.gAtom x6 x10 x14 (decide ((((x16.gList.length:Nat):Int):Int)>0)) v19 (aB.mk v20 v21 v22) v31),true)))))))))))))))))))
theorem C8(fu:Nat):EB (pQ fu):=by
 intro pa0 r H
 have H:=fC H
 refine qI Tryz.func232 (fun C hC=>?_)
 refine qS (qR (q1 (lA ([pS pa0.gAtom,a8 pa0.gList])) (q1 (hH sZ) (q1 aF (qN (qS (bO H fun x2 z1 H=>(bO H fun x4 z3 H=>(bO H fun x6 z5 H=>(bO H fun x8 z7 H=>(bO H fun x10 z9 H=>(bO H fun x12 z11 H=>(bO H fun x14 z13 H=>?_)))))))))))))
 refine bO H fun x16 z15 H=>(dW (dB [1] 0 1 (PY [pS pa0.gAtom,a8 pa0.gList] bP) (dI [8] (bJ Tryz.func219 (cO fu pa0 1 _ z1)) (dI [9] (rF1 qZ) (dB [1] 0 1 (PY [pS pa0.gAtom,a8 pa0.gList] bP) (dI [11] (bJ Tryz.func219 (cO fu pa0 2 _ z3)) (dI [12] (bJ Tryz.func243 (l5 fu x4 _ z5)) (dB [1] 0 1 (PY [pS pa0.gAtom,a8 pa0.gList] bP) (dI [14] (bJ Tryz.func219 (cO fu pa0 3 _ z7)) (dI [15] (bJ Tryz.func246 (sV fu x8 _ z9)) (dB [1] 0 1 (PY [pS pa0.gAtom,a8 pa0.gList] bP) (dI [17] (bJ Tryz.func219 (cO fu pa0 4 _ z11)) (dI [18] (bJ Tryz.func251 (DX fu x12 _ z13)) ?_)))))))))))))
 refine dB [1] 0 1 (PY [pS pa0.gAtom,a8 pa0.gList] bP) (dI [20] (bJ Tryz.func219 (cO fu pa0 5 _ z15)) (dI [21] (rF1 Q4) (dI [22] (eM bH (aA.trs_len _)) (dI [23] HB (dI [10,13,16,19,24] (fM sZ MW) (dE [] (hH sZ) (mZ [4,25] (bV rB) (dN (qS (qR (q1 (c6 [pS pa0.gAtom,a8 pa0.gList] bP) (bO H fun x18 z17 H=>(q1 (bJ Tryz.func219 (cO fu pa0 6 _ z17)) ?_)))))))))))))
 refine q1 (hH b3) (q1 (bV dR) (qN (qS ?_)))
 refine oM (σ:=(List aB)×Bool×Int×ByteArray) (fun(v22,v19,v20,v21)=>⟨[(1,.ptr 0 0),(2,.ptr 1 0),(3,pB false),(4,.ptr 2 0)],⟨[some ⟨237,[pS pa0.gAtom,a8 pa0.gList]⟩,some ⟨55,[pS s_,.nil,pI 0,pS s_,.nil,.nil,pB false,pB false,pI 0,pS s_,.nil,.nil]⟩,some ⟨55,[pS x2.gAtom,rS x6,pI x10.gKind,pS x10.gName,a6 x10.gArgs,eK x14,pB (decide ((((x16.gList.length:Nat):Int):Int)>0)),pB v19,pI v20,pS v21,a6 v22,.nil]⟩,some ⟨237,[pS x18.gAtom,a8 x18.gList]⟩],[]⟩⟩) (f9 H) (fun H=>?_) ?_
 ·refine qS (qR (q1 (aZ bF) (q1 (bB cN) (q1 (eM bH (aA.trs_len _)) (q1 HB (qN ?_))))))
  refine a9 H (fun h23 H=>?_) (fun h23 H=>?_)
  ·refine qS (qR (q1 (aZ IA) (q1 (bV sz4) (qN (qR (q1 (aZ bF) (q1 (bB cN) (dK H fun z24 H=>(q1 (j0 z24 bH) (q1 (j7 (aA.cs (a5 x18.gList 0)) bP) (bO H fun x26 z25 H=>(q1 (bJ Tryz.func246 (sV fu (a5 x18.gList 0) _ z25)) (q1 (aZ AJ) ?_)))))))))))))
   refine q1 (bV iV) (qN ?_)
   exact dH ⟨_,(aY H:),bZ⟩
  refine aO.skip ?_;exact dH ⟨_,(aY H:),bZ⟩
 rintro⟨v22,v19,v20,v21⟩ H
 refine qS (qR (q1 (c6 [pS pa0.gAtom,a8 pa0.gList] bP) (bO H fun x28 z27 H=>(q1 (bJ Tryz.func244 (wB fu pa0 7 _ z27)) (q1 aF (qN ?_))))))
 iterate 2 refine qS ?_
 refine qR (q1 aF (qN (aO.wk (Wk.regBox (k:=2) (j:=11) 161 11 (by decide) rfl rfl) ?_)))
 refine nF 6 (aA.trs_len _) (fun hl32=>?_)
 refine cG (σ:=(List aN)) (fun i29 v31=>⟨[(1,.ptr 0 0),(2,.ptr 1 0),(3,pB false),(4,.ptr 2 0),(6,a8 x28),(7,pN i29)],⟨[some ⟨237,[pS pa0.gAtom,a8 pa0.gList]⟩,some ⟨55,[pS s_,.nil,pI 0,pS s_,.nil,.nil,pB false,pB false,pI 0,pS s_,.nil,.nil]⟩,some ⟨55,[pS x2.gAtom,rS x6,pI x10.gKind,pS x10.gName,a6 x10.gArgs,eK x14,pB (decide ((((x16.gList.length:Nat):Int):Int)>0)),pB v19,pI v20,pS v21,a6 v22,zF v31 0]⟩,some ⟨237,[pS x18.gAtom,a8 x18.gList]⟩],[⟨161,11,aN.trs (v31),false⟩]⟩⟩) (fun v31=>⟨[(1,.ptr 0 0),(2,.ptr 1 0),(3,pB false),(4,.ptr 2 0)],⟨[some ⟨237,[pS pa0.gAtom,a8 pa0.gList]⟩,some ⟨55,[pS s_,.nil,pI 0,pS s_,.nil,.nil,pB false,pB false,pI 0,pS s_,.nil,.nil]⟩,some ⟨55,[pS x2.gAtom,rS x6,pI x10.gKind,pS x10.gName,a6 x10.gArgs,eK x14,pB (decide ((((x16.gList.length:Nat):Int):Int)>0)),pB v19,pI v20,pS v21,a6 v22,zF v31 0]⟩,some ⟨237,[pS x18.gAtom,a8 x18.gList]⟩],[⟨161,11,aN.trs (v31),false⟩]⟩⟩) (f9 H) ?_ ?_
 ·rintro i29 v31 H
  iterate 2 refine qS ?_
  refine qR ?_
  iterate 2 refine q1 aF ?_
  refine q1 (eM bH (aA.trs_len _)) (q1 gU (qN ?_))
  refine eJ H (fun h33 h33l H=>?_) (fun h33 H=>?_)
  ·have h33n:=a7 h33
   refine aO.skip (qS (aO.block (bO H fun x35 z34 H=>(bO H fun x37 z36 H=>(bO H fun x39 z38 H=>(bO H fun x41 z40 H=>(bO H fun x43 z42 H=>(dK H fun z44 H=>(dW (dI [4] (aZ uU) (dD [47] (bB SH) (dI [6] aF (dI [7] aF ?_)))))))))))))
   refine dI [49,50] (j0 h33n bH) (dI [51] (j7 (aA.cs (a5 x28 i29)) bP) (dI [52] (bJ Tryz.func219 (cO fu (a5 x28 i29) 0 _ z34)) (dI [53] (rF1 qZ) (dI [6] aF (dI [7] aF (dI [55,56] (j0 h33n bH) (dI [57] (j7 (aA.cs (a5 x28 i29)) bP) (dI [58] (bJ Tryz.func219 (cO fu (a5 x28 i29) 1 _ z36)) (dI [59] (bJ Tryz.func243 (l5 fu x37 _ z38)) (dI [6] aF (dI [7] aF (dI [61,62] (j0 h33n bH) (dI [63] (j7 (aA.cs (a5 x28 i29)) bP) ?_)))))))))))))
   refine dI [64] (bJ Tryz.func219 (cO fu (a5 x28 i29) 2 _ z40)) (dI [65] (bJ Tryz.func247 (A1 fu x41 _ z42)) (dI [54,60,66] (fM DN aeY) (dI [67] (iI ([(aN.mk x35.gAtom x39 x43)]:List aN) FZ DN) (dE [48,68] (lC z44 FZ ah5) (dI [4] (aZ uU) (mZ [70,69] (bV ah3) (dN (qR (q1 aF (q1 (aW.addI rfl rfl rfl rfl (c:=((i29+1:Nat):Int)) (by omega) (by omega)) (q1 aF (qN ?_))))))))))))
   exact jA h33l ⟨_,(aY H:),bZ⟩
  refine aO.exit ?_;exact k7 ⟨_,H,bZ⟩
 rintro v31 H
 iterate 2 refine qS ?_
 refine bO H fun x46 z45 H=>?_
 rcases jS (!(x46)) with g47|g47
 ·have H:=oJ H g47
  refine dW (dD [1] (c6 [pS pa0.gAtom,a8 pa0.gList] bP) (dI [71] (bJ Tryz.func217 (cT fu pa0 _ z45)) (dI [72] gS (dI [73] aF ?_))))
  iterate 4 refine wD g47 ?_
  refine dI [74] (bS g47) (dI [79] aF ?_)
  iterate 5 refine wD rfl ?_
  refine dI [80] (bS rfl) (dN (dT rfl (qS (qR (q1 (fM sZ MW) (q1 (bV rB) (q1 aF (qN (aO.ret ?_)))))))))
  obtain rfl:_=r:=(aY H:)
  exact rA (hr:=⟨⟨_,_,_,rfl,rfl,nA,rfl,rfl⟩,rfl,trivial⟩)
 have H:=oH H g47
 rcases jS (decide ((((pa0.gList.length:Nat):Int):Int)=0)) with g48|g48
 ·have H:=oJ H g48
  refine dW (dD [1] (c6 [pS pa0.gAtom,a8 pa0.gList] bP) (dI [71] (bJ Tryz.func217 (cT fu pa0 _ z45)) (dI [72] gS (dI [73] aF (dI (hg:=aT g47) [1] (aZ bF) (dD (hg:=aT g47) [75] (bB cN) (dI (hg:=aT g47) [76] (eM bH (aA.trs_len _)) (dI (hg:=aT g47) [77] dP (dI [74,78] (b4 g47) (dI [79] aF ?_))))))))))
  iterate 5 refine wD g48 ?_
  refine dI [80] (bS g48) (dN (dT rfl (qS (qR (q1 (fM sZ MW) (q1 (bV rB) (q1 aF (qN (aO.ret ?_)))))))))
  obtain rfl:_=r:=(aY H:)
  exact rA (hr:=⟨⟨_,_,_,rfl,rfl,nA,rfl,rfl⟩,rfl,trivial⟩)
 have H:=oH H g48
 refine bO H fun x50 z49 H=>(bO H fun x52 z51 H=>(dW (dD [1] (c6 [pS pa0.gAtom,a8 pa0.gList] bP) (dI [71] (bJ Tryz.func217 (cT fu pa0 _ z45)) (dI [72] gS (dI [73] aF (dI (hg:=aT g47) [1] (aZ bF) (dD (hg:=aT g47) [75] (bB cN) (dI (hg:=aT g47) [76] (eM bH (aA.trs_len _)) (dI (hg:=aT g47) [77] dP (dI [74,78] (b4 g47) (dI [79] aF (dD (hg:=aT g48) [4] (c6 [pS x2.gAtom,rS x6,pI x10.gKind,pS x10.gName,a6 x10.gArgs,eK x14,pB (decide ((((x16.gList.length:Nat):Int):Int)>0)),pB v19,pI v20,pS v21,a6 v22,zF v31 0] nA) ?_)))))))))))))
 refine dI (hg:=aT g48) [81] (bJ Tryz.func252 (CW fu (aH.mk x2.gAtom x6 x10 x14 (decide ((((x16.gList.length:Nat):Int):Int)>0)) v19 (aB.mk v20 v21 v22) v31) _ z49)) (dD (hg:=aT g48) [1] (c6 [pS pa0.gAtom,a8 pa0.gList] bP) (dI (hg:=aT g48) [82,83] (bJ Tryz.func248 (q9 fu x50 pa0 _ z51)) (dI (hg:=aT g48) [84] gS (dI [80,85] (b4 g48) (dN ?_)))))
 refine a9 H (fun h53 H=>?_) (fun h53 H=>?_)
 ·refine qS (qR (q1 (fM sZ MW) (q1 (bV rB) (q1 aF (qN (aO.ret ?_))))))
  obtain rfl:_=r:=(aY H:)
  exact rA (hr:=⟨⟨_,_,_,rfl,rfl,nA,rfl,rfl⟩,rfl,trivial⟩)
 refine aO.skip (qS (qR (q1 (c6 [pS x2.gAtom,rS x6,pI x10.gKind,pS x10.gName,a6 x10.gArgs,eK x14,pB (decide ((((x16.gList.length:Nat):Int):Int)>0)),pB v19,pI v20,pS v21,a6 v22,zF v31 0] nA) (q1 (bV rB) (q1 aF (qN (aO.ret ?_)))))))
 obtain rfl:_=r:=(aY H:)
 exact rA (hr:=⟨⟨_,_,_,rfl,rfl,nA,rfl,rfl⟩,rfl,trivial⟩)
def EE(m:aL→Option aA):Prop:= ∀(pf:aL) (r:aA),m pf=some r→cH Tryz.prog 253 [(aL.pv pf)] ((aA.pv r):PV)
def DF(fu:Nat)(pf:aL)(x2:Bool):Nat→((List aA))→Option (LR ((List aA)) aA):=
 fun i4 v6=>bd (b7 fu ((a5 pf.gParams i4).gName)) (fun x10=>
 bd (kK fu ((a5 pf.gParams i4).gType)) (fun x12=>
 bd (kB fu ([x10,x12]:List aA)) (fun x14=>
 gd ((v6).length+(([x14]:List aA)).length≤68719476736)
 (some (.next (v6++([x14]:List aA)))))))
def CQ(fu:Nat)(pf:aL)(x2:Bool):Option (aA⊕((List aA))):=
 loopN (DF fu pf x2) (pf.gParams.length-0) 0 ([])
def pT(fu:Nat)(pf:aL):Option aA:=
 bd (mF fu pf) (fun x2=>
 sw (!(x2))
 (some (aA.mk s_ []))
 (so (CQ fu pf x2) (fun v6=>
 bd (b7 fu ab3) (fun x17=>
 bd (b7 fu pf.gName) (fun x19=>
 bd (jK fu pf.gVars) (fun x21=>
 bd (vX fu pf.gWhere) (fun x23=>
 bd (kK fu pf.gResult) (fun x25=>
 bd (kJ fu pf.gBody) (fun x27=>
 bd (kB fu ([x17,x19,x21,x23,(aA.mk s_ v6),x25,x27]:List aA)) (fun x29=>
 bd (xI fu true x29) (fun x31=>
 some x31)))))))))))
theorem CY(fu:Nat):EE (pT fu):=by
 intro pf r H
 have H:=fC H
 refine qI Tryz.func253 (fun C hC=>?_)
 refine qS (qR (q1 (lA (uG pf)) (q1 (hH b3) (qN ?_))))
 iterate 2 refine qS ?_
 refine qR (q1 (c6 [pS pf.gName,rS pf.gVars,eK pf.gWhere,NN pf.gParams,pI pf.gResult.gKind,pS pf.gResult.gName,a6 pf.gResult.gArgs,pI pf.gBody.gKind,pS pf.gBody.gTrait,pS pf.gBody.gName,pI pf.gBody.gN,pI pf.gBody.gType.gKind,pS pf.gBody.gType.gName,a6 pf.gBody.gType.gArgs,fD pf.gBody.gArgs,lH pf.gBody.gArms] o4) (bO H fun x2 z1 H=>(q1 (bJ Tryz.func259 (tY fu pf _ z1)) (q1 gS (qN ?_)))))
 refine a9 H (fun h3 H=>?_) (fun h3 H=>?_)
 ·refine qS (qR (q1 (fM b3 lG) (q1 (bV dR) (qN (aO.ret ?_)))))
  obtain rfl:_=r:=(aY H:)
  exact bN (hr:=⟨⟨_,_,_,rfl,rfl,bP,rfl,rfl⟩,trivial⟩)
 refine aO.skip (qS (qR (q1 (fM b3 lG) (q1 (hH b3) (q1 (bV dR) (qN ?_))))))
 iterate 2 refine qS ?_
 refine qR (q1 aF (qN (aO.wk (Wk.regBox (k:=2) (j:=1) 237 2 (by decide) rfl rfl) ?_)))
 refine aO.fact (cB 0 3 rfl rfl rfl (aR.trs_len _)) (fun hl7=>?_)
 refine cG (σ:=(List aA)) (fun i4 v6=>⟨[(1,.ptr 0 0),(2,.ptr 1 0),(3,.ptr 2 0),(4,pN i4)],⟨[some ⟨148,uG pf⟩,some ⟨237,[pS s_,.nil]⟩,some ⟨237,[pS s_,dM v6 0]⟩],[⟨237,2,aA.trs (v6),false⟩]⟩⟩) (fun v6=>⟨[(1,.ptr 0 0),(2,.ptr 1 0),(3,.ptr 2 0)],⟨[some ⟨148,uG pf⟩,some ⟨237,[pS s_,.nil]⟩,some ⟨237,[pS s_,dM v6 0]⟩],[⟨237,2,aA.trs (v6),false⟩]⟩⟩) (f9 H) ?_ ?_
 ·rintro i4 v6 H
  iterate 2 refine qS ?_
  refine qR (q1 aF (q1 (aZ sL) (q1 (bB J7) (q1 (eM A6 (aR.trs_len _)) (q1 gU (qN ?_))))))
  refine eJ H (fun h8 h8l H=>?_) (fun h8 H=>?_)
  ·have h8n:=a7 h8
   refine aO.skip (qS (aO.block (bO H fun x10 z9 H=>(bO H fun x12 z11 H=>(bO H fun x14 z13 H=>(dK H fun z15 H=>(dW (dI [3] (aZ bF) (dD [17] (bB cN) (dI [1] (aZ sL) (dD [19] (bB J7) (dI [4] aF (dI [20,21] (j0 h8n A6) ?_)))))))))))))
   refine dI [22] (nD aa3) (dI [23] (mR e8) (dI [24] (bJ Tryz.func266 (bY fu ((a5 pf.gParams i4).gName) _ z9)) (dI [1] (aZ sL) (dD [26] (bB J7) (dI [4] aF (dI [27,28] (j0 h8n A6) (dI [29] (nD abD) (dI [30] (j7 (aB.cs ((a5 pf.gParams i4).gType)) dL) (dI [31] (bJ Tryz.func269 (sT fu ((a5 pf.gParams i4).gType) _ z11)) (dI [25,32] (iI ([x10,x12]:List aA) bH b3) (dI [33] (bJ Tryz.func265 (yV (kX fu) ([x10,x12]:List aA) _ z13)) (dI [34] (iI ([x14]:List aA) bH b3) (dE [18,35] (lC z15 bH oA) ?_)))))))))))))
   refine dI [3] (aZ bF) (mZ [37,36] (bV vI) (dN (qR (q1 aF (q1 (aW.addI rfl rfl rfl rfl (c:=((i4+1:Nat):Int)) (by omega) (by omega)) (q1 aF (qN ?_)))))))
   exact jA h8l ⟨_,(aY H:),bZ⟩
  refine aO.exit ?_;exact k7 ⟨_,H,bZ⟩
 rintro v6 H
 refine qS (bO H fun x17 z16 H=>(bO H fun x19 z18 H=>(bO H fun x21 z20 H=>(bO H fun x23 z22 H=>(bO H fun x25 z24 H=>(bO H fun x27 z26 H=>(bO H fun x29 z28 H=>(bO H fun x31 z30 H=>(dW (dI [] (bJ Tryz.func266 (bY fu ab3 _ z16)) (dI [1] (aZ LL) (dD [39] (bB e8) (dI [40] (bJ Tryz.func266 (bY fu pf.gName _ z18)) ?_)))))))))))))
 refine dI [1] (aZ GI) (dD [42] (bB jM) (dI [43] (bJ Tryz.func267 (kG fu pf.gVars _ z20)) (dI [1] (aZ S9) (dD [45] (bB ZR) (dI [46] (bJ Tryz.func272 (GB fu pf.gWhere _ z22)) (dD [3] (c6 [pS s_,dM v6 0] bP) (dI [1] (aZ TD) (dD [49] (c6 [pI pf.gResult.gKind,pS pf.gResult.gName,a6 pf.gResult.gArgs] dL) (dI [50] (bJ Tryz.func269 (sT fu pf.gResult _ z24)) (dI [1] (aZ SG) (dD [52] (c6 [pI pf.gBody.gKind,pS pf.gBody.gTrait,pS pf.gBody.gName,pI pf.gBody.gN,pI pf.gBody.gType.gKind,pS pf.gBody.gType.gName,a6 pf.gBody.gType.gArgs,fD pf.gBody.gArgs,lH pf.gBody.gArms] gC) (dI [53] (bJ Tryz.func270 (H2 fu pf.gBody _ z26)) (dI [38,41,44,47,48,51,54] (iI ([x17,x19,x21,x23,(aA.mk s_ v6),x25,x27]:List aA) bH b3) ?_)))))))))))))
 refine dI [55] (bJ Tryz.func265 (yV (kX fu) ([x17,x19,x21,x23,(aA.mk s_ v6),x25,x27]:List aA) _ z28)) (dI [56] (bJ Tryz.func271 (B4 fu true x29 _ z30)) (mZ [2,57] (bV dR) (dN (aO.ret ?_))))
 obtain rfl:_=r:=(aY H:)
 exact bN (hr:=⟨⟨_,_,_,rfl,rfl,bP,rfl,rfl⟩,trivial⟩)
def D2(m:aA→Option (aL×Bool)):Prop:= ∀(pa0:aA) (r:aL×Bool),m pa0=some r→cH Tryz.prog 233 [(aA.pv pa0)] (.tup [(aL.pv r.1),pB r.2]:PV)
def CJ(fu:Nat)(pa0 x2 x4:aA)(x6:List ByteArray)(x8:aA)(x10:List aJ)(x12:aA)(x14:aB)(x16:aA)(x18:aG)(x20:aA):Nat→((List aR))→Option (LR ((List aR)) (aL×Bool)):=
 fun i21 v23=>bd (cX fu (a5 x20.gList i21) 0) (fun x27=>
 bd (cX fu (a5 x20.gList i21) 1) (fun x29=>
 bd (kM fu x29) (fun x31=>
 gd ((v23).length+(([(aR.mk x27.gAtom x31)]:List aR)).length≤68719476736)
 (some (.next (v23++([(aR.mk x27.gAtom x31)]:List aR)))))))
def CP(fu:Nat)(pa0 x2 x4:aA)(x6:List ByteArray)(x8:aA)(x10:List aJ)(x12:aA)(x14:aB)(x16:aA)(x18:aG)(x20:aA):Option ((aL×Bool)⊕((List aR))):=
 loopN (CJ fu pa0 x2 x4 x6 x8 x10 x12 x14 x16 x18 x20) (x20.gList.length-0) 0 ([])
def pR(fu:Nat)(pa0:aA):Option (aL×Bool):=
 bd (cX fu pa0 1) (fun x2=>
 bd (cX fu pa0 2) (fun x4=>
 bd (kF fu x4) (fun x6=>
 bd (cX fu pa0 3) (fun x8=>
 bd (t7 fu x8) (fun x10=>
 bd (cX fu pa0 5) (fun x12=>
 bd (kM fu x12) (fun x14=>
 bd (cX fu pa0 6) (fun x16=>
 bd (fS fu x16) (fun x18=>
 bd (cX fu pa0 4) (fun x20=>
 so (CP fu pa0 x2 x4 x6 x8 x10 x12 x14 x16 x18 x20) (fun v23=>
 bd (gA fu pa0) (fun x34=>
 sw (!(x34))
 (some ((aL.mk s_ [] [] [] (aB.mk 0 s_ []) (aG.mk 0 s_ s_ 0 (aB.mk 0 s_ []) [] [])),false))
 (sw (decide ((((pa0.gList.length:Nat):Int):Int)=0))
 (some ((aL.mk s_ [] [] [] (aB.mk 0 s_ []) (aG.mk 0 s_ s_ 0 (aB.mk 0 s_ []) [] [])),false))
 (bd (pT fu (aL.mk x2.gAtom x6 x10 v23 x14 x18)) (fun x38=>
 bd (eW fu x38 pa0) (fun x40=>
 sw (!(x40))
 (some ((aL.mk s_ [] [] [] (aB.mk 0 s_ []) (aG.mk 0 s_ s_ 0 (aB.mk 0 s_ []) [] [])),false))
 (some ((aL.mk x2.gAtom x6 x10 v23 x14 x18),true))))))))))))))))))
theorem CX(fu:Nat):D2 (pR fu):=by
 intro pa0 r H
 have H:=fC H
 refine qI Tryz.func233 (fun C hC=>?_)
 refine qS (qR (q1 (lA ([pS pa0.gAtom,a8 pa0.gList])) (q1 (hH zI) (q1 aF (qN (qS (bO H fun x2 z1 H=>(bO H fun x4 z3 H=>(bO H fun x6 z5 H=>(bO H fun x8 z7 H=>(bO H fun x10 z9 H=>(bO H fun x12 z11 H=>(bO H fun x14 z13 H=>?_)))))))))))))
 refine bO H fun x16 z15 H=>(bO H fun x18 z17 H=>(dW (dB [1] 0 1 (PY [pS pa0.gAtom,a8 pa0.gList] bP) (dI [7] (bJ Tryz.func219 (cO fu pa0 1 _ z1)) (dI [8] (rF1 qZ) (dB [1] 0 1 (PY [pS pa0.gAtom,a8 pa0.gList] bP) (dI [10] (bJ Tryz.func219 (cO fu pa0 2 _ z3)) (dI [11] (bJ Tryz.func243 (l5 fu x4 _ z5)) (dB [1] 0 1 (PY [pS pa0.gAtom,a8 pa0.gList] bP) (dI [13] (bJ Tryz.func219 (cO fu pa0 3 _ z7)) (dI [14] (bJ Tryz.func251 (DX fu x8 _ z9)) (dB [1] 0 1 (PY [pS pa0.gAtom,a8 pa0.gList] bP) (dI [16] (bJ Tryz.func219 (cO fu pa0 5 _ z11)) ?_)))))))))))))
 refine dI [17] (bJ Tryz.func246 (sV fu x12 _ z13)) (dB [1] 0 1 (PY [pS pa0.gAtom,a8 pa0.gList] bP) (dI [19] (bJ Tryz.func219 (cO fu pa0 6 _ z15)) (dI [20] (bJ Tryz.func247 (A1 fu x16 _ z17)) (dI [9,12,15,18,21] (fM zI WV) (dE [] (hH zI) (mZ [4,22] (bV wQ) (dN (qS (qR (q1 (c6 [pS pa0.gAtom,a8 pa0.gList] bP) (bO H fun x20 z19 H=>(q1 (bJ Tryz.func219 (cO fu pa0 4 _ z19)) (q1 (hH b3) ?_)))))))))))))
 refine q1 (bV dR) (qN ?_)
 iterate 2 refine qS ?_
 refine qR (q1 aF (qN (aO.wk (Wk.regBox (k:=2) (j:=3) 226 4 (by decide) rfl rfl) ?_)))
 refine aO.fact (cB 3 1 rfl rfl rfl (aA.trs_len _)) (fun hl24=>?_)
 refine cG (σ:=(List aR)) (fun i21 v23=>⟨[(1,.ptr 0 0),(2,.ptr 1 0),(3,pB false),(4,.ptr 2 0),(5,.ptr 3 0),(6,pN i21)],⟨[some ⟨237,[pS pa0.gAtom,a8 pa0.gList]⟩,some ⟨148,[pS s_,.nil,.nil,.nil,pI 0,pS s_,.nil,pI 0,pS s_,pS s_,pI 0,pI 0,pS s_,.nil,.nil,.nil]⟩,some ⟨148,[pS x2.gAtom,rS x6,eK x10,QL v23 0,pI x14.gKind,pS x14.gName,a6 x14.gArgs,pI x18.gKind,pS x18.gTrait,pS x18.gName,pI x18.gN,pI x18.gType.gKind,pS x18.gType.gName,a6 x18.gType.gArgs,fD x18.gArgs,lH x18.gArms]⟩,some ⟨237,[pS x20.gAtom,a8 x20.gList]⟩],[⟨226,4,aR.trs (v23),false⟩]⟩⟩) (fun v23=>⟨[(1,.ptr 0 0),(2,.ptr 1 0),(3,pB false),(4,.ptr 2 0)],⟨[some ⟨237,[pS pa0.gAtom,a8 pa0.gList]⟩,some ⟨148,[pS s_,.nil,.nil,.nil,pI 0,pS s_,.nil,pI 0,pS s_,pS s_,pI 0,pI 0,pS s_,.nil,.nil,.nil]⟩,some ⟨148,[pS x2.gAtom,rS x6,eK x10,QL v23 0,pI x14.gKind,pS x14.gName,a6 x14.gArgs,pI x18.gKind,pS x18.gTrait,pS x18.gName,pI x18.gN,pI x18.gType.gKind,pS x18.gType.gName,a6 x18.gType.gArgs,fD x18.gArgs,lH x18.gArms]⟩,some ⟨237,[pS x20.gAtom,a8 x20.gList]⟩],[⟨226,4,aR.trs (v23),false⟩]⟩⟩) (f9 H) ?_ ?_
 ·rintro i21 v23 H
  iterate 2 refine qS ?_
  refine qR (q1 aF (q1 (aZ bF) (q1 (bB cN) (q1 (eM bH (aA.trs_len _)) (q1 gU (qN ?_))))))
  refine eJ H (fun h25 h25l H=>?_) (fun h25 H=>?_)
  ·have h25n:=a7 h25
   refine aO.skip (qS (aO.block (bO H fun x27 z26 H=>(bO H fun x29 z28 H=>(bO H fun x31 z30 H=>(dK H fun z32 H=>(dW (dI [4] (aZ sL) (dD [32] (bB J7) (dI [5] (aZ bF) (dD [34] (bB cN) (dI [6] aF (dI [35,36] (j0 h25n bH) ?_)))))))))))))
   refine dI [37] (j7 (aA.cs (a5 x20.gList i21)) bP) (dI [38] (bJ Tryz.func219 (cO fu (a5 x20.gList i21) 0 _ z26)) (dI [39] (rF1 qZ) (dI [5] (aZ bF) (dD [41] (bB cN) (dI [6] aF (dI [42,43] (j0 h25n bH) (dI [44] (j7 (aA.cs (a5 x20.gList i21)) bP) (dI [45] (bJ Tryz.func219 (cO fu (a5 x20.gList i21) 1 _ z28)) (dI [46] (bJ Tryz.func246 (sV fu x29 _ z30)) (dI [40,47] (fM PW aeX) (dI [48] (iI ([(aR.mk x27.gAtom x31)]:List aR) A6 PW) (dE [33,49] (lC z32 A6 agO) (dI [4] (aZ sL) ?_)))))))))))))
   refine mZ [51,50] (bV agV) (dN (qR (q1 aF (q1 (aW.addI rfl rfl rfl rfl (c:=((i21+1:Nat):Int)) (by omega) (by omega)) (q1 aF (qN ?_))))))
   exact jA h25l ⟨_,(aY H:),bZ⟩
  refine aO.exit ?_;exact k7 ⟨_,H,bZ⟩
 rintro v23 H
 iterate 2 refine qS ?_
 refine bO H fun x34 z33 H=>?_
 rcases jS (!(x34)) with g35|g35
 ·have H:=oJ H g35
  refine dW (dD [1] (c6 [pS pa0.gAtom,a8 pa0.gList] bP) (dI [52] (bJ Tryz.func217 (cT fu pa0 _ z33)) (dI [53] gS (dI [54] aF ?_))))
  iterate 4 refine wD g35 ?_
  refine dI [55] (bS g35) (dI [60] aF ?_)
  iterate 5 refine wD rfl ?_
  refine dI [61] (bS rfl) (dN (dT rfl (qS (qR (q1 (fM zI WV) (q1 (bV wQ) (q1 aF (qN (aO.ret ?_)))))))))
  obtain rfl:_=r:=(aY H:)
  exact rA (hr:=⟨⟨_,_,_,rfl,rfl,o4,rfl,rfl⟩,rfl,trivial⟩)
 have H:=oH H g35
 rcases jS (decide ((((pa0.gList.length:Nat):Int):Int)=0)) with g36|g36
 ·have H:=oJ H g36
  refine dW (dD [1] (c6 [pS pa0.gAtom,a8 pa0.gList] bP) (dI [52] (bJ Tryz.func217 (cT fu pa0 _ z33)) (dI [53] gS (dI [54] aF (dI (hg:=aT g35) [1] (aZ bF) (dD (hg:=aT g35) [56] (bB cN) (dI (hg:=aT g35) [57] (eM bH (aA.trs_len _)) (dI (hg:=aT g35) [58] dP (dI [55,59] (b4 g35) (dI [60] aF ?_))))))))))
  iterate 5 refine wD g36 ?_
  refine dI [61] (bS g36) (dN (dT rfl (qS (qR (q1 (fM zI WV) (q1 (bV wQ) (q1 aF (qN (aO.ret ?_)))))))))
  obtain rfl:_=r:=(aY H:)
  exact rA (hr:=⟨⟨_,_,_,rfl,rfl,o4,rfl,rfl⟩,rfl,trivial⟩)
 have H:=oH H g36
 refine bO H fun x38 z37 H=>(bO H fun x40 z39 H=>(dW (dD [1] (c6 [pS pa0.gAtom,a8 pa0.gList] bP) (dI [52] (bJ Tryz.func217 (cT fu pa0 _ z33)) (dI [53] gS (dI [54] aF (dI (hg:=aT g35) [1] (aZ bF) (dD (hg:=aT g35) [56] (bB cN) (dI (hg:=aT g35) [57] (eM bH (aA.trs_len _)) (dI (hg:=aT g35) [58] dP (dI [55,59] (b4 g35) (dI [60] aF (dD (hg:=aT g36) [4] (c6 [pS x2.gAtom,rS x6,eK x10,QL v23 0,pI x14.gKind,pS x14.gName,a6 x14.gArgs,pI x18.gKind,pS x18.gTrait,pS x18.gName,pI x18.gN,pI x18.gType.gKind,pS x18.gType.gName,a6 x18.gType.gArgs,fD x18.gArgs,lH x18.gArms] o4) ?_)))))))))))))
 refine dI (hg:=aT g36) [62] (bJ Tryz.func253 (CY fu (aL.mk x2.gAtom x6 x10 v23 x14 x18) _ z37)) (dD (hg:=aT g36) [1] (c6 [pS pa0.gAtom,a8 pa0.gList] bP) (dI (hg:=aT g36) [63,64] (bJ Tryz.func248 (q9 fu x38 pa0 _ z39)) (dI (hg:=aT g36) [65] gS (dI [61,66] (b4 g36) (dN ?_)))))
 refine a9 H (fun h41 H=>?_) (fun h41 H=>?_)
 ·refine qS (qR (q1 (fM zI WV) (q1 (bV wQ) (q1 aF (qN (aO.ret ?_))))))
  obtain rfl:_=r:=(aY H:)
  exact rA (hr:=⟨⟨_,_,_,rfl,rfl,o4,rfl,rfl⟩,rfl,trivial⟩)
 refine aO.skip (qS (qR (q1 (c6 [pS x2.gAtom,rS x6,eK x10,QL v23 0,pI x14.gKind,pS x14.gName,a6 x14.gArgs,pI x18.gKind,pS x18.gTrait,pS x18.gName,pI x18.gN,pI x18.gType.gKind,pS x18.gType.gName,a6 x18.gType.gArgs,fD x18.gArgs,lH x18.gArms] o4) (q1 (bV wQ) (q1 aF (qN (aO.ret ?_)))))))
 obtain rfl:_=r:=(aY H:)
 exact rA (hr:=⟨⟨_,_,_,rfl,rfl,o4,rfl,rfl⟩,rfl,trivial⟩)
end
end Go.Proofs.YtpioomclpaiomaaGreat.W
