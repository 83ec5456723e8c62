/- Words, rules and walks of several kinds, laid together: MaP3, MaP4, MaP5. No conditions but those that each theorem states. -/
import Derived.Test.YtpioomclpaiomaaGreatQh981ab51f
import Derived.Test.YtpioomclpaiomaaGreatQh54773eaf
import Derived.Test.YtpioomclpaiomaaGreatQh8fabc4e5
set_option linter.unusedSimpArgs false
set_option linter.unusedVariables false
namespace Go.Proofs.YtpioomclpaiomaaGreat.W
set_option maxRecDepth 100000
set_option maxHeartbeats 40000000
noncomputable section
open Go.RowKit Go.Proofs
set_option linter.unusedSimpArgs false
set_option linter.unusedVariables false
attribute [local irreducible] lt
def YD(m:Int→Option ByteArray):Prop:= ∀(pn:Int) (r:ByteArray),m pn=some r→cA Tryz.prog 281 [pI pn] (pS r:PV)
def IH(fu:Nat)(pn:Int):(Int×ByteArray)→Option (LR (Int×ByteArray) ByteArray):=
 fun(v2,v3)=>sw (!decide (v2=0))
 (sw (decide (((v2).tmod 10:Int)<0))
 (gd ((bytesStr ([(FD (aQ (48+(aQ (0-((v2).tmod 10))))))]:List UInt8)).size+(v3).size≤1099511627776)
 (some (.next ((aQ ((v2).tdiv 10)),((bytesStr ([(FD (aQ (48+(aQ (0-((v2).tmod 10))))))]:List UInt8))++v3)))))
 (gd ((bytesStr ([(FD (aQ (48+((v2).tmod 10))))]:List UInt8)).size+(v3).size≤1099511627776)
 (some (.next ((aQ ((v2).tdiv 10)),((bytesStr ([(FD (aQ (48+((v2).tmod 10))))]:List UInt8))++v3))))))
 (some (.brk (v2,v3)))
def II(fu:Nat)(pn:Int):Option (ByteArray⊕(Int×ByteArray)):=
 loopW (IH fu pn) fu (pn,s_)
def n0(fu:Nat)(pn:Int):Option ByteArray:=
 sw (decide (pn=0))
 (some s_0)
 (so (II fu pn) (fun(v2,v3)=>
 sw (decide (pn<0))
 (gd ((DV).size+(v3).size≤1099511627776)
 (some (DV++v3)))
 (some v3)))
theorem AH(fu:Nat):YD (n0 fu):=by
 intro pn r H
 have H:=fF H
 refine qI Tryz.func281 (fun C hC=>?_)
 refine qS (qR (q1 aF (qN ?_)))
 iterate 2 refine qS ?_
 refine qR (q1 aF (q1 eP (qN ?_)))
 refine bH H (fun h1 H=>?_) (fun h1 H=>?_)
 ·refine qS (qR (q1 aF (qN (aO.ret ?_))))
  cases aZ H
  exact bR
 refine aO.skip (qS (qR (q1 aF (q1 iQ (q1 aF (qN (qS (qR (q1 aF (qN (qS ?_)))))))))))
 refine WJ (σ:=Int×ByteArray) (fun(v2,v3)=>⟨[(0,pI v2),(2,pS s_),(3,pB (decide (pn<0))),(4,pS v3)],⟨[],[]⟩⟩) (fun(v2,v3)=>⟨[(2,pS s_),(3,pB (decide (pn<0))),(4,pS v3)],⟨[],[]⟩⟩) (gW H) ?_ ?_
 ·rintro k4 ⟨v2,v3⟩ H
  iterate 2 refine qS ?_
  refine qR (q1 aF (q1 MJ (qN ?_)))
  refine bH H (fun h5 H=>?_) (fun h5 H=>?_)
  ·refine aO.skip (aO.block (qS (qR (q1 aF (q1 (aV.remI (a:=v2) (b:=10) rfl rfl rfl rfl (by decide)) (q1 aF (qN ?_)))))))
   iterate 2 refine qS ?_
   refine qR (q1 aF (q1 iQ (qN ?_)))
   refine bH H (fun h6 H=>?_) (fun h6 H=>?_)
   ·refine qR (q1 aF (q1 GQ (q1 aF (qN (qS (qR (q1 aF (q1 Q6 (q1 (aV.convU8 (a:=aQ (48+(aQ (0-((v2).tmod 10))))) rfl rfl rfl ⟨_,Tryz.underlying3⟩ Tryz.underlying5) (q1 (iW ([(FD (aQ (48+(aQ (0-((v2).tmod 10))))))]:List UInt8) aa0 zr5) (q1 (aV.bytesStr rfl rfl rfl rfl Tryz.underlying22 Tryz.underlying5 Tryz.underlying9) (q1 aF (c9 H fun z7 H=>?_)))))))))))))
    refine q1 (aV.addS rfl rfl rfl rfl (Nat.le_trans z7 (by decide))) (q1 aF (qN (qR (q1 aF (q1 (aV.quoI (a:=v2) (b:=10) rfl rfl rfl rfl (by decide)) (q1 aF (qN ?_)))))))
    exact lwN ⟨_,(aZ H:),b9⟩
   refine aO.skip (qS (qR (q1 aF (q1 Q6 (q1 (aV.convU8 (a:=aQ (48+((v2).tmod 10))) rfl rfl rfl ⟨_,Tryz.underlying3⟩ Tryz.underlying5) (q1 (iW ([(FD (aQ (48+((v2).tmod 10))))]:List UInt8) aa0 zr5) (q1 (aV.bytesStr rfl rfl rfl rfl Tryz.underlying22 Tryz.underlying5 Tryz.underlying9) (q1 aF (c9 H fun z8 H=>(q1 (aV.addS rfl rfl rfl rfl (Nat.le_trans z8 (by decide))) (q1 aF (qN (qR ?_)))))))))))))
   refine q1 aF (q1 (aV.quoI (a:=v2) (b:=10) rfl rfl rfl rfl (by decide)) (q1 aF (qN ?_)))
   exact lwN ⟨_,(aZ H:),b9⟩
  refine aO.exit ?_;exact lwB ⟨_,(aZ H:),b9⟩
 rintro⟨v2,v3⟩ H
 iterate 2 refine qS ?_
 refine qR (q1 aF (qN ?_))
 refine bH H (fun h9 H=>?_) (fun h9 H=>?_)
 ·refine qS (qR (q1 aF (c9 H fun z10 H=>(q1 (aV.addS rfl rfl rfl rfl (Nat.le_trans z10 (by decide))) (q1 aF (qN (aO.ret ?_)))))))
  cases aZ H
  exact bR
 refine aO.skip (qS (qR ?_))
 iterate 2 refine q1 aF ?_
 refine qN (aO.ret ?_)
 cases aZ H
 exact bR
def ajU(m:ByteArray→Int→Option (Int×Bool)):Prop:= ∀(ps:ByteArray) (pmost:Int) (r:Int×Bool),m ps pmost=some r→cA Tryz.prog 279 [pS ps,pI pmost] (.tup [pI r.1,pB r.2]:PV)
def TN(fu:Nat)(ps:ByteArray)(pmost:Int):Option ((Int×Bool)⊕ByteArray):=
 sw (decide ((((B4 ps 0).toNat:Int):Int)=45))
 (gd ((0:Int)≤1∧(1:Int)≤(ps.size:Int)∧(ps.size:Int)≤(ps.size:Int))
 (some (.inr (ps.extract (1:Int).toNat (ps.size:Int).toNat))))
 (some (.inr ps))
def TP(fu:Nat)(ps:ByteArray)(pmost:Int)(v3:ByteArray):Nat→Int→Option (LR Int (Int×Bool)):=
 fun i8 v9=>gd (i8<(v3).size)
 (sw (decide ((((B4 v3 i8).toNat:Int):Int)<48))
 (some (.ret (0,false)))
 (sw (decide ((((B4 v3 i8).toNat:Int):Int)>57))
 (some (.ret (0,false)))
 (some (.next (aQ ((aQ (10*v9))+((FD (((B4 v3 i8).toNat:Int)-48)).toNat:Int)))))))
def TR(fu:Nat)(ps:ByteArray)(pmost:Int)(v3:ByteArray):Option ((Int×Bool)⊕Int):=
 loopN (TP fu ps pmost v3) (v3.size-0) 0 0
def TO(fu:Nat)(ps:ByteArray)(pmost:Int)(v3:ByteArray)(v9:Int):Option ((Int×Bool)⊕Int):=
 sw (decide ((((B4 ps 0).toNat:Int):Int)=45))
 (some (.inr (aQ (0-v9))))
 (some (.inr v9))
def TQ(fu:Nat)(ps:ByteArray)(pmost:Int):Nat→Int→Option (LR Int (Int×Bool)):=
 fun i22 v23=>gd (i22<(ps).size)
 (sw (decide ((((B4 ps i22).toNat:Int):Int)<48))
 (some (.ret (0,false)))
 (sw (decide ((((B4 ps i22).toNat:Int):Int)>57))
 (some (.ret (0,false)))
 (some (.next (aQ ((aQ (10*v23))+((FD (((B4 ps i22).toNat:Int)-48)).toNat:Int)))))))
def TS(fu:Nat)(ps:ByteArray)(pmost:Int):Option ((Int×Bool)⊕Int):=
 loopN (TQ fu ps pmost) (ps.size-0) 0 0
def OH(fu:Nat)(ps:ByteArray)(pmost:Int):Option (Int×Bool):=
 sw (decide ((ps.size:Int)>0))
 (gd (0<(ps).size)
 (so (TN fu ps pmost) (fun v3=>
 sw (decide ((v3.size:Int)<1))
 (some (0,false))
 (sw (decide ((v3.size:Int)>pmost))
 (some (0,false))
 (so (TR fu ps pmost v3) (fun v9=>
 so (TO fu ps pmost v3 v9) (fun v15=>
 bd (n0 fu v15) (fun x18=>
 sw (!decide (x18=ps))
 (some (0,false))
 (some (v15,true))))))))))
 (sw (decide ((ps.size:Int)<1))
 (some (0,false))
 (sw (decide ((ps.size:Int)>pmost))
 (some (0,false))
 (so (TS fu ps pmost) (fun v23=>
 bd (n0 fu v23) (fun x30=>
 sw (!decide (x30=ps))
 (some (0,false))
 (some (v23,true)))))))
theorem af4(fu:Nat):ajU (OH fu):=by
 intro ps pmost r H
 have H:=fF H
 refine qI Tryz.func279 (fun C hC=>?_)
 refine qS (qR ?_)
 iterate 2 refine q1 aF ?_
 refine qN (qS (qR (q1 aF (q1 (aV.lenS rfl rfl rfl Tryz.underlying9) (q1 MI (q1 aF ?_))))))
 refine eK 13 H (fun g1 H=>?_) fun g1 H=>?_
 ·refine qg g1 aF (c9 H fun z2 H=>(qg g1 (aV.indexS (k:=0) rfl rfl rfl rfl z2 Tryz.underlying9) (qg g1 eP (q1 (b0 g1) (q1 aF (qN (qS (qR ?_))))))))
  iterate 2 refine q1 aF ?_
  refine qN (qS ?_)
  refine qF (σ:=ByteArray) (fun v3=>⟨[(0,pS ps),(1,pI pmost),(4,pI 0),(5,pB false),(6,pB (decide ((((B4 ps 0).toNat:Int):Int)=45))),(7,pS v3)],⟨[],[]⟩⟩) (gW H) (fun H=>?_) ?_
  ·refine qS (qR (q1 aF (qN ?_)))
   refine bH H (fun h4 H=>?_) (fun h4 H=>?_)
   ·refine qR (q1 aF (c9 H fun z5 H=>(q1 (aV.sliceS (l:=1) (k:=(ps.size:Int)) rfl rfl rfl rfl rfl z5 Tryz.underlying9) (q1 aF (qN ?_)))))
    exact eC ⟨_,(aZ H:),b9⟩
   refine aO.skip ?_;exact eC ⟨_,(aZ H:),b9⟩
  rintro v3 H
  iterate 2 refine qS ?_
  refine qR (q1 aF (q1 (aV.lenS rfl rfl rfl Tryz.underlying9) (q1 iQ (q1 aF ?_))))
  refine eK 25 H (fun g6 H=>?_) fun g6 H=>?_
  ·have g6n:v3.size<1:=by have:=of_decide_eq_true g6;omega
   iterate 4 refine qk g6 ?_
   refine q1 (b0 g6) (qN (eM rfl (qS (qR ?_))))
   iterate 2 refine q1 aF ?_
   refine qN (aO.ret ?_)
   cases aZ H
   exact lW
  refine qg g6 aF (qg g6 (aV.lenS rfl rfl rfl Tryz.underlying9) (qg g6 aF (qg g6 MI (q1 (cC g6) (qN ?_)))))
  refine bH H (fun h7 H=>?_) (fun h7 H=>?_)
  ·refine qS (qR ?_)
   iterate 2 refine q1 aF ?_
   refine qN (aO.ret ?_)
   cases aZ H
   exact lW
  refine aO.skip (qS (qR (q1 aF (qN ?_))))
  iterate 2 refine qS ?_
  refine qR (q1 aF (qN ?_))
  refine szF 7 (fun hl10=>?_)
  refine cM (σ:=Int) (fun i8 v9=>⟨[(0,pS ps),(4,pI 0),(5,pB false),(6,pB (decide ((((B4 ps 0).toNat:Int):Int)=45))),(7,pS v3),(8,pI v9),(9,pN i8)],⟨[],[]⟩⟩) (fun v9=>⟨[(0,pS ps),(4,pI 0),(5,pB false),(6,pB (decide ((((B4 ps 0).toNat:Int):Int)=45))),(8,pI v9)],⟨[],[]⟩⟩) (gW H) ?_ ?_
  ·rintro i8 v9 H
   iterate 2 refine qS ?_
   refine qR ?_
   iterate 2 refine q1 aF ?_
   refine q1 (aV.lenS rfl rfl rfl Tryz.underlying9) (q1 iQ (qN ?_))
   refine eO H (fun h11 h11l H=>?_) (fun h11 H=>?_)
   ·have h11n:i8<v3.size:=by have:=of_decide_eq_true h11;omega
    refine aO.skip (qS (aO.block ?_))
    iterate 2 refine qS ?_
    refine qR ?_
    iterate 2 refine q1 aF ?_
    refine c9 H fun z12 H=>(q1 (aV.indexS (k:=i8) rfl rfl rfl rfl z12 Tryz.underlying9) (q1 iQ (q1 aF ?_)))
    refine eK 41 H (fun g13 H=>?_) fun g13 H=>?_
    ·refine qk g13 ?_
     iterate 3 refine qk g13 ?_
     refine q1 (b0 g13) (qN (eM rfl (qS (qR ?_))))
     iterate 2 refine q1 aF ?_
     refine qN (aO.ret ?_)
     obtain rfl:_=r:=(rK (aZ H):)
     exact lW
    iterate 2 refine qg g13 aF ?_
    refine qg g13 (aV.indexS (k:=i8) rfl rfl rfl rfl z12 Tryz.underlying9) (qg g13 MI (q1 (cC g13) (qN ?_)))
    refine bH H (fun h14 H=>?_) (fun h14 H=>?_)
    ·refine qS (qR ?_)
     iterate 2 refine q1 aF ?_
     refine qN (aO.ret ?_)
     obtain rfl:_=r:=(rK (aZ H):)
     exact lW
    refine aO.skip (qR (q1 aF (q1 (aV.mulW rfl rfl rfl rfl) ?_)))
    iterate 2 refine q1 aF ?_
    refine q1 (aV.indexS (k:=i8) rfl rfl rfl rfl z12 Tryz.underlying9) (q1 (aV.subU8 rfl rfl rfl rfl) ?_)
    refine q1 (aV.convI rfl rfl rfl ⟨_,Tryz.underlying5⟩ Tryz.underlying3 (by first|omega|(have:=UInt8.toNat_lt (FD (((B4 v3 i8).toNat:Int)-48));omega)) (by first|omega|(have:=UInt8.toNat_lt (FD (((B4 v3 i8).toNat:Int)-48));omega))) ?_;refine q1 Q6 (q1 aF (qN (qR (q1 aF (q1 (aV.addI rfl rfl rfl rfl (c:=((i8+1:Nat):Int)) (by omega) (by omega)) (q1 aF (qN ?_)))))))
    exact j8 h11l ⟨_,(aZ H:),b9⟩
   refine aO.exit ?_;exact lP ⟨_,H,b9⟩
  rintro v9 H
  refine qS ?_;refine qF (σ:=Int) (fun v15=>⟨[(0,pS ps),(4,pI 0),(5,pB false),(8,pI v15)],⟨[],[]⟩⟩) (gW H) (fun H=>?_) ?_
  ·refine qS (qR (q1 aF (qN ?_)))
   refine bH H (fun h16 H=>?_) (fun h16 H=>?_)
   ·refine qR (q1 aF (q1 GQ (q1 aF (qN ?_))))
    exact eC ⟨_,(aZ H:),b9⟩
   refine aO.skip ?_;exact eC ⟨_,(aZ H:),b9⟩
  rintro v15 H
  iterate 2 refine qS ?_
  refine qR (q1 aF (bU H fun x18 z17 H=>(q1 (bQ Tryz.func281 (AH fu v15 _ z17)) (q1 aF (q1 SP (qN ?_))))))
  refine bH H (fun h19 H=>?_) (fun h19 H=>?_)
  ·refine qS (qR ?_)
   iterate 2 refine q1 aF ?_
   refine qN (aO.ret ?_)
   cases aZ H
   exact lW
  refine aO.skip (qS (qR ?_))
  iterate 3 refine q1 aF ?_
  refine qN (aO.ret ?_)
  cases aZ H
  exact lW
 iterate 3 refine qk g1 ?_
 refine q1 (cC g1) (q1 aF (qN (qS (qR ?_))))
 iterate 2 refine q1 aF ?_
 refine qN ?_
 iterate 2 refine qS ?_
 refine qR (q1 aF (qN (kP rfl (aO.skip ?_))))
 iterate 2 refine qS ?_
 refine qR (q1 aF (q1 (aV.lenS rfl rfl rfl Tryz.underlying9) (q1 iQ (q1 aF ?_))))
 refine eK 25 H (fun g20 H=>?_) fun g20 H=>?_
 ·have g20n:ps.size<1:=by have:=of_decide_eq_true g20;omega
  iterate 4 refine qk g20 ?_
  refine q1 (b0 g20) (qN (eM rfl (qS (qR ?_))))
  iterate 2 refine q1 aF ?_
  refine qN (aO.ret ?_)
  cases aZ H
  exact lW
 refine qg g20 aF (qg g20 (aV.lenS rfl rfl rfl Tryz.underlying9) (qg g20 aF (qg g20 MI (q1 (cC g20) (qN ?_)))))
 refine bH H (fun h21 H=>?_) (fun h21 H=>?_)
 ·refine qS (qR ?_)
  iterate 2 refine q1 aF ?_
  refine qN (aO.ret ?_)
  cases aZ H
  exact lW
 refine aO.skip (qS (qR (q1 aF (qN ?_))))
 iterate 2 refine qS ?_
 refine qR (q1 aF (qN ?_))
 refine szF 0 (fun hl24=>?_)
 refine cM (σ:=Int) (fun i22 v23=>⟨[(0,pS ps),(4,pI 0),(5,pB false),(6,pB false),(7,pS ps),(8,pI v23),(9,pN i22)],⟨[],[]⟩⟩) (fun v23=>⟨[(0,pS ps),(4,pI 0),(5,pB false),(6,pB false),(8,pI v23)],⟨[],[]⟩⟩) (gW H) ?_ ?_
 ·rintro i22 v23 H
  iterate 2 refine qS ?_
  refine qR ?_
  iterate 2 refine q1 aF ?_
  refine q1 (aV.lenS rfl rfl rfl Tryz.underlying9) (q1 iQ (qN ?_))
  refine eO H (fun h25 h25l H=>?_) (fun h25 H=>?_)
  ·have h25n:i22<ps.size:=by have:=of_decide_eq_true h25;omega
   refine aO.skip (qS (aO.block ?_))
   iterate 2 refine qS ?_
   refine qR ?_
   iterate 2 refine q1 aF ?_
   refine c9 H fun z26 H=>(q1 (aV.indexS (k:=i22) rfl rfl rfl rfl z26 Tryz.underlying9) (q1 iQ (q1 aF ?_)))
   refine eK 41 H (fun g27 H=>?_) fun g27 H=>?_
   ·refine qk g27 ?_
    iterate 3 refine qk g27 ?_
    refine q1 (b0 g27) (qN (eM rfl (qS (qR ?_))))
    iterate 2 refine q1 aF ?_
    refine qN (aO.ret ?_)
    obtain rfl:_=r:=(rK (aZ H):)
    exact lW
   iterate 2 refine qg g27 aF ?_
   refine qg g27 (aV.indexS (k:=i22) rfl rfl rfl rfl z26 Tryz.underlying9) (qg g27 MI (q1 (cC g27) (qN ?_)))
   refine bH H (fun h28 H=>?_) (fun h28 H=>?_)
   ·refine qS (qR ?_)
    iterate 2 refine q1 aF ?_
    refine qN (aO.ret ?_)
    obtain rfl:_=r:=(rK (aZ H):)
    exact lW
   refine aO.skip (qR (q1 aF (q1 (aV.mulW rfl rfl rfl rfl) ?_)))
   iterate 2 refine q1 aF ?_
   refine q1 (aV.indexS (k:=i22) rfl rfl rfl rfl z26 Tryz.underlying9) (q1 (aV.subU8 rfl rfl rfl rfl) ?_)
   refine q1 (aV.convI rfl rfl rfl ⟨_,Tryz.underlying5⟩ Tryz.underlying3 (by first|omega|(have:=UInt8.toNat_lt (FD (((B4 ps i22).toNat:Int)-48));omega)) (by first|omega|(have:=UInt8.toNat_lt (FD (((B4 ps i22).toNat:Int)-48));omega))) ?_;refine q1 Q6 (q1 aF (qN (qR (q1 aF (q1 (aV.addI rfl rfl rfl rfl (c:=((i22+1:Nat):Int)) (by omega) (by omega)) (q1 aF (qN ?_)))))))
   exact j8 h25l ⟨_,(aZ H:),b9⟩
  refine aO.exit ?_;exact lP ⟨_,H,b9⟩
 rintro v23 H
 iterate 2 refine qS ?_
 refine qR (q1 aF (qN (kP rfl (aO.skip ?_))))
 iterate 2 refine qS ?_
 refine qR (q1 aF (bU H fun x30 z29 H=>(q1 (bQ Tryz.func281 (AH fu v23 _ z29)) (q1 aF (q1 SP (qN ?_))))))
 refine bH H (fun h31 H=>?_) (fun h31 H=>?_)
 ·refine qS (qR ?_)
  iterate 2 refine q1 aF ?_
  refine qN (aO.ret ?_)
  cases aZ H
  exact lW
 refine aO.skip (qS (qR ?_))
 iterate 3 refine q1 aF ?_
 refine qN (aO.ret ?_)
 cases aZ H
 exact lW
def abO(m:ByteArray→Option (Int×Bool)):Prop:= ∀(ps:ByteArray) (r:Int×Bool),m ps=some r→cA Tryz.prog 262 [pS ps] (.tup [pI r.1,pB r.2]:PV)
def zH(fu:Nat)(ps:ByteArray):Option (Int×Bool):=
 bd (OH fu ps 12) (fun(x2,x3)=>
 some (x2,x3))
theorem YI(fu:Nat):abO (zH fu):=by
 intro ps r H
 have H:=fF H
 refine qI Tryz.func262 (fun C hC=>?_)
 refine qS (qR ?_)
 iterate 2 refine q1 aF ?_
 refine qN (qS (qR (q1 aF (fQ H fun x2 x3 z1 H=>(q1 (bQ Tryz.func279 (af4 fu ps 12 _ z1)) ?_)))))
 iterate 2 refine q1 BH ?_
 iterate 2 refine q1 aF ?_
 refine qN (aO.ret ?_)
 cases aZ H
 exact lW
def ajI(m:Int→Option aH):Prop:= ∀(pn:Int) (r:aH),m pn=some r→cA Tryz.prog 159 [pI pn] ((aH.pv r):PV)
def sV(fu:Nat)(pn:Int):Option aH:=
 some (aH.mk 1 s_ s_ pn (aA.mk 0 s_ []) [] [])
theorem uM(fu:Nat):ajI (sV fu):=by
 intro pn r H
 have H:=fF H
 refine qI Tryz.func159 (fun C hC=>?_)
 refine qS (qR (q1 (iG lN) (qN (qS (qR (q1 aF (q1 (gD lN yH) (q1 (b3 pL) (qN (aO.ret ?_))))))))))
 cases aZ H
 exact bR (hr:=⟨⟨_,_,_,rfl,rfl,iH,rfl,rfl⟩,trivial⟩)
def ajJ(m:ByteArray→Option aH):Prop:= ∀(ps:ByteArray) (r:aH),m ps=some r→cA Tryz.prog 157 [pS ps] ((aH.pv r):PV)
def uO(fu:Nat)(ps:ByteArray):Option aH:=
 some (aH.mk 3 s_ ps 0 (aA.mk 0 s_ []) [] [])
theorem yR(fu:Nat):ajJ (uO fu):=by
 intro ps r H
 have H:=fF H
 refine qI Tryz.func157 (fun C hC=>?_)
 refine qS (qR (q1 (iG lN) (qN (qS (qR (q1 aF (q1 (gD lN yH) (q1 (b3 pL) (qN (aO.ret ?_))))))))))
 cases aZ H
 exact bR (hr:=⟨⟨_,_,_,rfl,rfl,iH,rfl,rfl⟩,trivial⟩)
def alO(m:Int→Int→Option Int):Prop:= ∀(pa:Int) (pb:Int) (r:Int),m pa pb=some r→cA Tryz.prog 261 [pI pa,pI pb] (pI r:PV)
def qD(fu:Nat)(pa pb:Int):Option Int:=
 sw (decide (pa<pb))
 (some pa)
 (some pb)
theorem qU(fu:Nat):alO (qD fu):=by
 intro pa pb r H
 have H:=fF H
 refine qI Tryz.func261 (fun C hC=>?_)
 refine qS (qR (q1 aF (qN ?_)))
 iterate 2 refine qS ?_
 refine qR ?_
 iterate 2 refine q1 aF ?_
 refine q1 iQ (qN ?_)
 refine bH H (fun h1 H=>?_) (fun h1 H=>?_)
 ·refine qS (qR ?_)
  iterate 2 refine q1 aF ?_
  refine qN (aO.ret ?_)
  cases aZ H
  exact bR
 refine aO.skip (qS (qR ?_))
 iterate 2 refine q1 aF ?_
 refine qN (aO.ret ?_)
 cases aZ H
 exact bR
abbrev iI:=aB→Option aH
abbrev gK:=(List aB)→Option ((List aH))
abbrev jZ:=aB→Option bM
def uP(m:iI):Prop:= ∀(pa0:aB) (r:aH),m pa0=some r→cA Tryz.prog 247 [(aB.pv pa0)] ((aH.pv r):PV)
def vN(m:gK):Prop:= ∀(plist:List aB) (r:(List aH)),m plist=some r→cA Tryz.prog 263 [bJ plist] (fZ r:PV)
def BN(m:jZ):Prop:= ∀(px:aB) (r:bM),m px=some r→cA Tryz.prog 264 [(aB.pv px)] ((bM.pv r):PV)
def acL(fu:Nat)(r_sl12Expr:iI)(r_sl12Exprs:gK)(r_sl12Arm:jZ)(pa0 y15 y18:aB)(x67:Int)(x70:List aH):Nat→((List bM))→Option (LR ((List bM)) aH):=
 fun i71 v73=>bd (r_sl12Arm (bB pa0.gList i71)) (fun x77=>
 gd ((v73).length+(([x77]:List bM)).length≤68719476736)
 (some (.next (v73++([x77]:List bM)))))
def acM(fu:Nat)(r_sl12Expr:iI)(r_sl12Exprs:gK)(r_sl12Arm:jZ)(pa0 y15 y18:aB)(x67:Int)(x70:List aH):Option (aH⊕((List bM))):=
 loopN (acL fu r_sl12Expr r_sl12Exprs r_sl12Arm pa0 y15 y18 x67 x70) (pa0.gList.length-2) 2 ([])
def J8(fu:Nat)(r_sl12Expr:iI)(r_sl12Exprs:gK)(r_sl12Arm:jZ)(pa0:aB):Option aH:=
 sw (!decide (pa0.gAtom=s_))
 (bd (zH fu pa0.gAtom) (fun(x3,x4)=>
 sw (x4)
 (bd (sV fu x3) (fun x7=>
 some x7))
 (sw (decide (pa0.gAtom=pC))
 (some (aH.mk 2 s_ s_ 1 (aA.mk 0 s_ []) [] []))
 (sw (decide (pa0.gAtom=lY))
 (some (aH.mk 2 s_ s_ 0 (aA.mk 0 s_ []) [] []))
 (bd (uO fu pa0.gAtom) (fun x11=>
 some x11))))))
 (gd (([]:List aB).length+(pa0.gList).length≤68719476736)
 (gd ((([])++pa0.gList).length+(([(aB.mk s_ []),(aB.mk s_ []),(aB.mk s_ [])]:List aB)).length≤68719476736)
 (gd (1<((([])++pa0.gList)++([(aB.mk s_ []),(aB.mk s_ []),(aB.mk s_ [])]:List aB)).length)
 (lt (bB ((([])++pa0.gList)++([(aB.mk s_ []),(aB.mk s_ []),(aB.mk s_ [])]:List aB)) 1) (fun y15=>
 gd (0<((([])++pa0.gList)++([(aB.mk s_ []),(aB.mk s_ []),(aB.mk s_ [])]:List aB)).length)
 (lt (bB ((([])++pa0.gList)++([(aB.mk s_ []),(aB.mk s_ []),(aB.mk s_ [])]:List aB)) 0) (fun y18=>
 sw (decide (y18.gAtom=N6))
 (bd (qD fu 2 (pa0.gList.length:Int)) (fun x22=>
 gd ((0:Int)≤x22∧(x22:Int)≤(pa0.gList.length:Int)∧(pa0.gList.length:Int)≤(pa0.gList.length:Int))
 (bd (r_sl12Exprs (List.drop (x22:Int).toNat (List.take (pa0.gList.length:Int).toNat pa0.gList))) (fun x25=>
 some (aH.mk 4 s_ y15.gAtom 0 (aA.mk 0 s_ []) x25 [])))))
 (sw (decide (y18.gAtom=oT))
 (gd (2<((([])++pa0.gList)++([(aB.mk s_ []),(aB.mk s_ []),(aB.mk s_ [])]:List aB)).length)
 (lt (bB ((([])++pa0.gList)++([(aB.mk s_ []),(aB.mk s_ []),(aB.mk s_ [])]:List aB)) 2) (fun y28=>
 bd (qD fu 3 (pa0.gList.length:Int)) (fun x31=>
 gd ((0:Int)≤x31∧(x31:Int)≤(pa0.gList.length:Int)∧(pa0.gList.length:Int)≤(pa0.gList.length:Int))
 (bd (r_sl12Exprs (List.drop (x31:Int).toNat (List.take (pa0.gList.length:Int).toNat pa0.gList))) (fun x34=>
 some (aH.mk 5 y15.gAtom y28.gAtom 0 (aA.mk 0 s_ []) x34 [])))))))
 (sw (decide (y18.gAtom=DF))
 (bd (qD fu 2 (pa0.gList.length:Int)) (fun x37=>
 gd ((0:Int)≤x37∧(x37:Int)≤(pa0.gList.length:Int)∧(pa0.gList.length:Int)≤(pa0.gList.length:Int))
 (bd (r_sl12Exprs (List.drop (x37:Int).toNat (List.take (pa0.gList.length:Int).toNat pa0.gList))) (fun x40=>
 some (aH.mk 6 s_ y15.gAtom 0 (aA.mk 0 s_ []) x40 [])))))
 (sw (decide (y18.gAtom=DE))
 (bd (qD fu 2 (pa0.gList.length:Int)) (fun x43=>
 gd ((0:Int)≤x43∧(x43:Int)≤(pa0.gList.length:Int)∧(pa0.gList.length:Int)≤(pa0.gList.length:Int))
 (bd (r_sl12Exprs (List.drop (x43:Int).toNat (List.take (pa0.gList.length:Int).toNat pa0.gList))) (fun x46=>
 some (aH.mk 8 s_ y15.gAtom 0 (aA.mk 0 s_ []) x46 [])))))
 (sw (decide (y18.gAtom=CS))
 (gd ((0:Int)≤1∧(1:Int)≤(pa0.gList.length:Int)∧(pa0.gList.length:Int)≤(pa0.gList.length:Int))
 (bd (r_sl12Exprs (List.drop (1:Int).toNat (List.take (pa0.gList.length:Int).toNat pa0.gList))) (fun x50=>
 some (aH.mk 9 s_ s_ 0 (aA.mk 0 s_ []) x50 []))))
 (sw (decide (y18.gAtom=wI))
 (bd (qD fu 2 (pa0.gList.length:Int)) (fun x53=>
 gd ((0:Int)≤x53∧(x53:Int)≤(pa0.gList.length:Int)∧(pa0.gList.length:Int)≤(pa0.gList.length:Int))
 (bd (r_sl12Exprs (List.drop (x53:Int).toNat (List.take (pa0.gList.length:Int).toNat pa0.gList))) (fun x56=>
 some (aH.mk 11 y15.gAtom s_ 0 (aA.mk 0 s_ []) x56 [])))))
 (sw (decide (y18.gAtom=WP))
 (bd (mH fu y15) (fun x59=>
 bd (qD fu 2 (pa0.gList.length:Int)) (fun x61=>
 gd ((0:Int)≤x61∧(x61:Int)≤(pa0.gList.length:Int)∧(pa0.gList.length:Int)≤(pa0.gList.length:Int))
 (bd (r_sl12Exprs (List.drop (x61:Int).toNat (List.take (pa0.gList.length:Int).toNat pa0.gList))) (fun x64=>
 some (aH.mk 12 s_ s_ 0 x59 x64 []))))))
 (sw (decide (y18.gAtom=wH))
 (bd (qD fu 2 (pa0.gList.length:Int)) (fun x67=>
 gd ((0:Int)≤1∧(1:Int)≤x67∧(x67:Int)≤(pa0.gList.length:Int))
 (bd (r_sl12Exprs (List.drop (1:Int).toNat (List.take (x67:Int).toNat pa0.gList))) (fun x70=>
 so (acM fu r_sl12Expr r_sl12Exprs r_sl12Arm pa0 y15 y18 x67 x70) (fun v73=>
 some (aH.mk 7 s_ s_ 0 (aA.mk 0 s_ []) x70 v73))))))
 (bd (qD fu 1 (pa0.gList.length:Int)) (fun x80=>
 gd ((0:Int)≤x80∧(x80:Int)≤(pa0.gList.length:Int)∧(pa0.gList.length:Int)≤(pa0.gList.length:Int))
 (bd (r_sl12Exprs (List.drop (x80:Int).toNat (List.take (pa0.gList.length:Int).toNat pa0.gList))) (fun x83=>
 some (aH.mk 10 s_ y18.gAtom 0 (aA.mk 0 s_ []) x83 [])))))))))))))))))))
theorem VZ(fu:Nat)(r_sl12Expr:iI)(r_sl12Exprs:gK)(r_sl12Arm:jZ)(h_sl12Expr:uP r_sl12Expr)(h_sl12Exprs:vN r_sl12Exprs)(h_sl12Arm:BN r_sl12Arm):uP (J8 fu r_sl12Expr r_sl12Exprs r_sl12Arm):=by
 intro pa0 r H
 have H:=fF H
 refine qI Tryz.func247 (fun C hC=>?_)
 refine qS (qR (q1 (kQ ([pS pa0.gAtom,bJ pa0.gList])) (q1 (iG lN) (qN ?_))))
 iterate 2 refine qS ?_
 refine qR (q1 (bC fR) (q1 (bL fO) (q1 SP (qN ?_))))
 refine bH H (fun h1 H=>?_) (fun h1 H=>?_)
 ·refine qS (qR (q1 (bC fR) (q1 (bL fO) (fQ H fun x3 x4 z2 H=>(q1 (bQ Tryz.func262 (YI fu pa0.gAtom _ z2)) (q1 aF ?_))))))
  iterate 2 refine q1 BH ?_
  iterate 2 refine q1 aF ?_
  refine qN (qS (aO.block (qS (qR ?_))))
  iterate 2 refine q1 aF ?_
  refine qN ?_;refine bH H (fun h5 H=>?_) (fun h5 H=>?_)
  ·refine qS (qR (q1 aF (bU H fun x7 z6 H=>(q1 (bQ Tryz.func159 (uM fu x3 _ z6)) (q1 (b3 pL) (qN (aO.ret ?_)))))))
   cases aZ H
   exact bR (hr:=⟨⟨_,_,_,rfl,rfl,iH,rfl,rfl⟩,trivial⟩)
  refine qS (qR (q1 (bC fR) (q1 (bL fO) (q1 JL (q1 aF (qN ?_))))))
  refine bH H (fun h8 H=>?_) (fun h8 H=>?_)
  ·refine qS (qR (q1 (gD lN yH) (q1 (b3 pL) (qN (aO.ret ?_)))))
   cases aZ H
   exact bR (hr:=⟨⟨_,_,_,rfl,rfl,iH,rfl,rfl⟩,trivial⟩)
  refine qS (qR (q1 (bC fR) (q1 (bL fO) (q1 JL (q1 aF (qN ?_))))))
  refine bH H (fun h9 H=>?_) (fun h9 H=>?_)
  ·refine qS (qR (q1 (gD lN yH) (q1 (b3 pL) (qN (aO.ret ?_)))))
   cases aZ H
   exact bR (hr:=⟨⟨_,_,_,rfl,rfl,iH,rfl,rfl⟩,trivial⟩)
  refine aO.skip (qS (qR (q1 (bC fR) (q1 (bL fO) (bU H fun x11 z10 H=>(q1 (bQ Tryz.func157 (yR fu pa0.gAtom _ z10)) (q1 (b3 pL) (qN (aO.ret ?_)))))))))
  cases aZ H
  exact bR (hr:=⟨⟨_,_,_,rfl,rfl,iH,rfl,rfl⟩,trivial⟩)
 refine aO.skip (qS (qR (q1 (wA ([]:List aB) bO cF) (q1 (bC bN) (q1 (bL c6) (c9 H fun z12 H=>(q1 (oE z12 bO q8) ?_)))))))
 iterate 3 refine q1 (gD cF nF) ?_
 refine q1 (iW ([(aB.mk s_ []),(aB.mk s_ []),(aB.mk s_ [])]:List aB) bO cF) (c9 H fun z13 H=>(q1 (oE z13 bO q8) (q1 aF (qN (qS (qR (q1 (bC bN) (q1 (bL c6) (q1 (eR bO (aB.trs_len _)) (q1 aF (qN (qS (qR ?_)))))))))))))
 refine q1 aF (c9 H fun z14 H=>(gU H fun y15 h16 H=>(q1 (yI h16 z14 bO) (q1 (rC fR) (q1 (p9 fO) (q1 aF (qN ?_)))))))
 iterate 2 refine qS ?_
 refine qR (q1 aF (c9 H fun z17 H=>(gU H fun y18 h19 H=>(q1 (yI h19 z17 bO) (q1 (rC fR) (q1 (p9 fO) (qN (aO.block (qS (qR (q1 JL (q1 aF (qN ?_)))))))))))))
 refine bH H (fun h20 H=>?_) (fun h20 H=>?_)
 ·refine qS (bU H fun x22 z21 H=>(c9 H fun z23 H=>(bU H fun x25 z24 H=>(dW (dI [7] aF (dI [1] (bC bN) (dD [59] (bL c6) (dI [6] aF (dI [61] (bQ Tryz.func261 (qU fu 2 (pa0.gList.length:Int) _ z21)) ?_)))))))))
  refine dI [60,62] (aV.congrP (aV.sliceR (es:=aB.trs (pa0.gList)) (l:=x22) (k:=(pa0.gList.length:Int)) rfl rfl rfl rfl rfl (by rw [aB.trs_len];exact rfl) (by rw [aB.trs_len];exact z23) bO) (aB.trs_part _ _ _)) ?_;refine dI [63] (bQ Tryz.func263 (h_sl12Exprs (List.drop (x22:Int).toNat (List.take (pa0.gList.length:Int).toNat pa0.gList)) _ z24)) (dI [58,64] (gD lN yH) (m4 [2,65] (b3 pL) (dN (aO.ret ?_))))
  cases aZ H
  exact bR (hr:=⟨⟨_,_,_,rfl,rfl,iH,rfl,rfl⟩,trivial⟩)
 refine qS (qR (q1 JL (q1 aF (qN ?_))))
 refine bH H (fun h26 H=>?_) (fun h26 H=>?_)
 ·refine qS (c9 H fun z27 H=>(gU H fun y28 h29 H=>(bU H fun x31 z30 H=>(c9 H fun z32 H=>(bU H fun x34 z33 H=>(dW (dI [7] aF (dI [5] aF (dI [69] (yI h29 z27 bO) (dI [70] (rC fR) (dI [71] (p9 fO) (dI [1] (bC bN) (dD [73] (bL c6) ?_)))))))))))))
  refine dI [6] aF (dI [75] (bQ Tryz.func261 (qU fu 3 (pa0.gList.length:Int) _ z30)) ?_)
  refine dI [74,76] (aV.congrP (aV.sliceR (es:=aB.trs (pa0.gList)) (l:=x31) (k:=(pa0.gList.length:Int)) rfl rfl rfl rfl rfl (by rw [aB.trs_len];exact rfl) (by rw [aB.trs_len];exact z32) bO) (aB.trs_part _ _ _)) ?_;refine dI [77] (bQ Tryz.func263 (h_sl12Exprs (List.drop (x31:Int).toNat (List.take (pa0.gList.length:Int).toNat pa0.gList)) _ z33)) (dI [68,72,78] (gD lN yH) (m4 [2,79] (b3 pL) (dN (aO.ret ?_))))
  cases aZ H
  exact bR (hr:=⟨⟨_,_,_,rfl,rfl,iH,rfl,rfl⟩,trivial⟩)
 refine qS (qR (q1 JL (q1 aF (qN ?_))))
 refine bH H (fun h35 H=>?_) (fun h35 H=>?_)
 ·refine qS (bU H fun x37 z36 H=>(c9 H fun z38 H=>(bU H fun x40 z39 H=>(dW (dI [7] aF (dI [1] (bC bN) (dD [83] (bL c6) (dI [6] aF (dI [85] (bQ Tryz.func261 (qU fu 2 (pa0.gList.length:Int) _ z36)) ?_)))))))))
  refine dI [84,86] (aV.congrP (aV.sliceR (es:=aB.trs (pa0.gList)) (l:=x37) (k:=(pa0.gList.length:Int)) rfl rfl rfl rfl rfl (by rw [aB.trs_len];exact rfl) (by rw [aB.trs_len];exact z38) bO) (aB.trs_part _ _ _)) ?_;refine dI [87] (bQ Tryz.func263 (h_sl12Exprs (List.drop (x37:Int).toNat (List.take (pa0.gList.length:Int).toNat pa0.gList)) _ z39)) (dI [82,88] (gD lN yH) (m4 [2,89] (b3 pL) (dN (aO.ret ?_))))
  cases aZ H
  exact bR (hr:=⟨⟨_,_,_,rfl,rfl,iH,rfl,rfl⟩,trivial⟩)
 refine qS (qR (q1 JL (q1 aF (qN ?_))))
 refine bH H (fun h41 H=>?_) (fun h41 H=>?_)
 ·refine qS (bU H fun x43 z42 H=>(c9 H fun z44 H=>(bU H fun x46 z45 H=>(dW (dI [7] aF (dI [1] (bC bN) (dD [93] (bL c6) (dI [6] aF (dI [95] (bQ Tryz.func261 (qU fu 2 (pa0.gList.length:Int) _ z42)) ?_)))))))))
  refine dI [94,96] (aV.congrP (aV.sliceR (es:=aB.trs (pa0.gList)) (l:=x43) (k:=(pa0.gList.length:Int)) rfl rfl rfl rfl rfl (by rw [aB.trs_len];exact rfl) (by rw [aB.trs_len];exact z44) bO) (aB.trs_part _ _ _)) ?_;refine dI [97] (bQ Tryz.func263 (h_sl12Exprs (List.drop (x43:Int).toNat (List.take (pa0.gList.length:Int).toNat pa0.gList)) _ z45)) (dI [92,98] (gD lN yH) (m4 [2,99] (b3 pL) (dN (aO.ret ?_))))
  cases aZ H
  exact bR (hr:=⟨⟨_,_,_,rfl,rfl,iH,rfl,rfl⟩,trivial⟩)
 refine qS (qR (q1 JL (q1 aF (qN ?_))))
 refine bH H (fun h47 H=>?_) (fun h47 H=>?_)
 ·refine qS (qR (q1 (bC bN) (q1 (bL c6) (c9 H fun z48 H=>?_))))
  refine q1 (aV.congrP (aV.sliceR (es:=aB.trs (pa0.gList)) (l:=1) (k:=(pa0.gList.length:Int)) rfl rfl rfl rfl rfl (by rw [aB.trs_len];exact rfl) (by rw [aB.trs_len];exact z48) bO) (aB.trs_part _ _ _)) ?_;refine bU H fun x50 z49 H=>(q1 (bQ Tryz.func263 (h_sl12Exprs (List.drop (1:Int).toNat (List.take (pa0.gList.length:Int).toNat pa0.gList)) _ z49)) (q1 (gD lN yH) (q1 (b3 pL) (qN (aO.ret ?_)))))
  cases aZ H
  exact bR (hr:=⟨⟨_,_,_,rfl,rfl,iH,rfl,rfl⟩,trivial⟩)
 refine qS (qR (q1 JL (q1 aF (qN ?_))))
 refine bH H (fun h51 H=>?_) (fun h51 H=>?_)
 ·refine qS (bU H fun x53 z52 H=>(c9 H fun z54 H=>(bU H fun x56 z55 H=>(dW (dI [7] aF (dI [1] (bC bN) (dD [110] (bL c6) (dI [6] aF (dI [112] (bQ Tryz.func261 (qU fu 2 (pa0.gList.length:Int) _ z52)) ?_)))))))))
  refine dI [111,113] (aV.congrP (aV.sliceR (es:=aB.trs (pa0.gList)) (l:=x53) (k:=(pa0.gList.length:Int)) rfl rfl rfl rfl rfl (by rw [aB.trs_len];exact rfl) (by rw [aB.trs_len];exact z54) bO) (aB.trs_part _ _ _)) ?_;refine dI [114] (bQ Tryz.func263 (h_sl12Exprs (List.drop (x53:Int).toNat (List.take (pa0.gList.length:Int).toNat pa0.gList)) _ z55)) (dI [109,115] (gD lN yH) (m4 [2,116] (b3 pL) (dN (aO.ret ?_))))
  cases aZ H
  exact bR (hr:=⟨⟨_,_,_,rfl,rfl,iH,rfl,rfl⟩,trivial⟩)
 refine qS (qR (q1 JL (q1 aF (qN ?_))))
 refine bH H (fun h57 H=>?_) (fun h57 H=>?_)
 ·refine qS (bU H fun x59 z58 H=>(bU H fun x61 z60 H=>(c9 H fun z62 H=>(bU H fun x64 z63 H=>(dW (dI [5] aF (dI [119] (yI h16 z14 bO) (dI [120] (lB (aB.cs y15) bY) (dI [121] (bQ Tryz.func246 (vP fu y15 _ z58)) (dI [1] (bC bN) (dD [123] (bL c6) (dI [6] aF (dI [125] (bQ Tryz.func261 (qU fu 2 (pa0.gList.length:Int) _ z60)) ?_)))))))))))))
  refine dI [124,126] (aV.congrP (aV.sliceR (es:=aB.trs (pa0.gList)) (l:=x61) (k:=(pa0.gList.length:Int)) rfl rfl rfl rfl rfl (by rw [aB.trs_len];exact rfl) (by rw [aB.trs_len];exact z62) bO) (aB.trs_part _ _ _)) ?_;refine dI [127] (bQ Tryz.func263 (h_sl12Exprs (List.drop (x61:Int).toNat (List.take (pa0.gList.length:Int).toNat pa0.gList)) _ z63)) (dI [122,128] (gD lN yH) (m4 [2,129] (b3 pL) (dN (aO.ret ?_))))
  cases aZ H
  exact bR (hr:=⟨⟨_,_,_,rfl,rfl,iH,rfl,rfl⟩,trivial⟩)
 refine qS (qR (q1 JL (q1 aF (qN ?_))))
 refine bH H (fun h65 H=>?_) (fun h65 H=>?_)
 ·refine qS (bU H fun x67 z66 H=>(c9 H fun z68 H=>(bU H fun x70 z69 H=>(dW (dI [1] (bC bN) (dB [132] 0 1 (vQ c6) (dI [6] aF (dI [134] (bQ Tryz.func261 (qU fu 2 (pa0.gList.length:Int) _ z66)) ?_))))))))
  refine dI [133,135] (aV.congrP (aV.sliceR (es:=aB.trs (pa0.gList)) (l:=1) (k:=x67) rfl rfl rfl rfl rfl (by rw [aB.trs_len];exact rfl) (by rw [aB.trs_len];exact z68) bO) (aB.trs_part _ _ _)) ?_;refine dI [136] (bQ Tryz.func263 (h_sl12Exprs (List.drop (1:Int).toNat (List.take (x67:Int).toNat pa0.gList)) _ z69)) (dI [137] (gD lN yH) (dE [] (iG lN) (m4 [8,138] (b3 pL) (dN ?_))))
  iterate 2 refine qS ?_
  refine qR (q1 aF (qN (aO.wk (Wk.regBox (k:=2) (j:=8) 92 11 (by decide) rfl rfl) ?_)))
  refine kV 38 (aB.trs_len _) (fun hl74=>?_)
  refine cM (σ:=(List bM)) (fun i71 v73=>⟨[(1,.ptr 0 0),(2,.ptr 1 0),(5,eL ((([])++pa0.gList)++([(aB.mk s_ []),(aB.mk s_ []),(aB.mk s_ [])]:List aB)) 0),(6,pN pa0.gList.length),(8,.ptr 2 0),(9,pN i71)],⟨[some ⟨237,[pS pa0.gAtom,bJ pa0.gList]⟩,some ⟨87,[pI 0,pS s_,pS s_,pI 0,pI 0,pS s_,.nil,.nil,.nil]⟩,some ⟨87,[pI 7,pS s_,pS s_,pI 0,pI 0,pS s_,.nil,fZ x70,anZ v73 1]⟩],[⟨237,2,aB.trs ((([])++pa0.gList)++([(aB.mk s_ []),(aB.mk s_ []),(aB.mk s_ [])]:List aB)),false⟩,⟨92,11,bM.trs (v73),false⟩]⟩⟩) (fun v73=>⟨[(1,.ptr 0 0),(2,.ptr 1 0),(5,eL ((([])++pa0.gList)++([(aB.mk s_ []),(aB.mk s_ []),(aB.mk s_ [])]:List aB)) 0),(6,pN pa0.gList.length),(8,.ptr 2 0)],⟨[some ⟨237,[pS pa0.gAtom,bJ pa0.gList]⟩,some ⟨87,[pI 0,pS s_,pS s_,pI 0,pI 0,pS s_,.nil,.nil,.nil]⟩,some ⟨87,[pI 7,pS s_,pS s_,pI 0,pI 0,pS s_,.nil,fZ x70,anZ v73 1]⟩],[⟨237,2,aB.trs ((([])++pa0.gList)++([(aB.mk s_ []),(aB.mk s_ []),(aB.mk s_ [])]:List aB)),false⟩,⟨92,11,bM.trs (v73),false⟩]⟩⟩) (gW H) ?_ ?_
  ·rintro i71 v73 H
   iterate 2 refine qS ?_
   refine qR ?_
   iterate 2 refine q1 aF ?_
   refine q1 iQ (qN ?_)
   refine eO H (fun h75 h75l H=>?_) (fun h75 H=>?_)
   ·have h75n:=bF h75
    refine aO.skip (qS (aO.block (bU H fun x77 z76 H=>(c9 H fun z78 H=>(dW (dI [8] (bC gY) (dD [144] (bL sI) (dI [1] (bC bN) (dD [146] (bL c6) (dI [9] aF (dI [147,148] (jH h75n bO) (dI [149] (lB (aB.cs (bB pa0.gList i71)) bY) (dI [150] (bQ Tryz.func264 (h_sl12Arm (bB pa0.gList i71) _ z76)) ?_)))))))))))))
    refine dI [151] (iW ([x77]:List bM) pJ UG) (dE [145,152] (oE z78 pJ apX) (dI [8] (bC gY) (m4 [154,153] (b3 apP) (dN (qR (q1 aF (q1 (aV.addI rfl rfl rfl rfl (c:=((i71+1:Nat):Int)) (by omega) (by omega)) (q1 aF (qN ?_)))))))))
    exact j8 h75l ⟨_,(aZ H:),b9⟩
   refine aO.exit ?_;exact lP ⟨_,H,b9⟩
  rintro v73 H
  refine qS (qR (q1 (cY [pI 7,pS s_,pS s_,pI 0,pI 0,pS s_,.nil,fZ x70,anZ v73 1] iH) (q1 (b3 pL) (qN (aO.ret ?_)))))
  cases aZ H
  exact bR (hr:=⟨⟨_,_,_,rfl,rfl,iH,rfl,rfl⟩,trivial⟩)
 refine aO.skip (qS (bU H fun x80 z79 H=>(c9 H fun z81 H=>(bU H fun x83 z82 H=>(dW (dI [5] aF (dI [156] (yI h19 z17 bO) (dI [157] (rC fR) (dI [158] (p9 fO) (dI [1] (bC bN) (dD [160] (bL c6) (dI [6] aF (dI [162] (bQ Tryz.func261 (qU fu 1 (pa0.gList.length:Int) _ z79)) ?_)))))))))))))
 refine dI [161,163] (aV.congrP (aV.sliceR (es:=aB.trs (pa0.gList)) (l:=x80) (k:=(pa0.gList.length:Int)) rfl rfl rfl rfl rfl (by rw [aB.trs_len];exact rfl) (by rw [aB.trs_len];exact z81) bO) (aB.trs_part _ _ _)) ?_;refine dI [164] (bQ Tryz.func263 (h_sl12Exprs (List.drop (x80:Int).toNat (List.take (pa0.gList.length:Int).toNat pa0.gList)) _ z82)) (dI [159,165] (gD lN yH) (m4 [2,166] (b3 pL) (dN (aO.ret ?_))))
 cases aZ H
 exact bR (hr:=⟨⟨_,_,_,rfl,rfl,iH,rfl,rfl⟩,trivial⟩)
def YU(fu:Nat)(r_sl12Expr:iI)(r_sl12Exprs:gK)(r_sl12Arm:jZ)(plist:List aB):Nat→((List aH))→Option (LR ((List aH)) ((List aH))):=
 fun i1 v3=>bd (r_sl12Expr (bB plist i1)) (fun x7=>
 gd ((v3).length+(([x7]:List aH)).length≤68719476736)
 (some (.next (v3++([x7]:List aH)))))
def YV(fu:Nat)(r_sl12Expr:iI)(r_sl12Exprs:gK)(r_sl12Arm:jZ)(plist:List aB):Option (((List aH))⊕((List aH))):=
 loopN (YU fu r_sl12Expr r_sl12Exprs r_sl12Arm plist) (plist.length-0) 0 ([])
def EY(fu:Nat)(r_sl12Expr:iI)(r_sl12Exprs:gK)(r_sl12Arm:jZ)(plist:List aB):Option ((List aH)):=
 so (YV fu r_sl12Expr r_sl12Exprs r_sl12Arm plist) (fun v3=>
 some v3)
theorem TI(fu:Nat)(r_sl12Expr:iI)(r_sl12Exprs:gK)(r_sl12Arm:jZ)(h_sl12Expr:uP r_sl12Expr)(h_sl12Exprs:vN r_sl12Exprs)(h_sl12Arm:BN r_sl12Arm):vN (EY fu r_sl12Expr r_sl12Exprs r_sl12Arm):=by
 intro plist r H
 have H:=fF H
 refine qI Tryz.func263 (fun C hC=>?_)
 refine qS (qR (q1 aF (qN (qS (qR (q1 (wA ([]:List aH) m3 lN) (q1 aF (qN ?_))))))))
 iterate 2 refine qS ?_
 refine qR (q1 aF (qN ?_))
 refine kV 0 (aB.trs_len _) (fun hl4=>?_)
 refine cM (σ:=(List aH)) (fun i1 v3=>⟨[(0,bJ plist),(2,.nil),(3,anD v3 0),(4,pN i1)],⟨[],[⟨87,9,aH.trs (v3),false⟩]⟩⟩) (fun v3=>⟨[(2,.nil),(3,anD v3 0)],⟨[],[⟨87,9,aH.trs (v3),false⟩]⟩⟩) (gW H) ?_ ?_
 ·rintro i1 v3 H
  iterate 2 refine qS ?_
  refine qR ?_
  iterate 2 refine q1 aF ?_
  refine q1 (eR bO (aB.trs_len _)) (q1 iQ (qN ?_))
  refine eO H (fun h5 h5l H=>?_) (fun h5 H=>?_)
  ·have h5n:=bF h5
   refine aO.skip (qS (aO.block (qR ?_)))
   iterate 3 refine q1 aF ?_
   refine q1 (jH h5n bO) (q1 (lB (aB.cs (bB plist i1)) bY) (bU H fun x7 z6 H=>(q1 (bQ Tryz.func247 (h_sl12Expr (bB plist i1) _ z6)) (q1 (iW ([x7]:List aH) m3 lN) (c9 H fun z8 H=>(q1 (oE z8 m3 aoR) (q1 aF (qN (qR (q1 aF (q1 (aV.addI rfl rfl rfl rfl (c:=((i1+1:Nat):Int)) (by omega) (by omega)) (q1 aF (qN ?_)))))))))))))
   exact j8 h5l ⟨_,(aZ H:),b9⟩
  refine aO.exit ?_;exact lP ⟨_,H,b9⟩
 rintro v3 H
 refine qS (qR ?_)
 iterate 2 refine q1 aF ?_
 refine qN (aO.ret ?_)
 cases aZ H
 exact bR
def OA(fu:Nat)(r_sl12Expr:iI)(r_sl12Exprs:gK)(r_sl12Arm:jZ)(px:aB):Option bM:=
 sw (decide ((px.gList.length:Int)<2))
 (some (bM.mk s_ [] (aH.mk 0 s_ s_ 0 (aA.mk 0 s_ []) [] [])))
 (gd ((0:Int)≤1∧(1:Int)≤aQ ((px.gList.length:Int)-1)∧(aQ ((px.gList.length:Int)-1):Int)≤(px.gList.length:Int))
 (bd (yU fu (List.drop (1:Int).toNat (List.take (aQ ((px.gList.length:Int)-1):Int).toNat px.gList))) (fun(x4,x5)=>
 gd (0<(px.gList).length)
 (gd (0≤aQ ((px.gList.length:Int)-1)∧(aQ ((px.gList.length:Int)-1)).toNat<(px.gList).length)
 (lt (bB px.gList ((aQ ((px.gList.length:Int)-1)).toNat)) (fun y8=>
 bd (r_sl12Expr y8) (fun x11=>
 some (bM.mk ((bB px.gList 0).gAtom) x4 x11))))))))
theorem YS(fu:Nat)(r_sl12Expr:iI)(r_sl12Exprs:gK)(r_sl12Arm:jZ)(h_sl12Expr:uP r_sl12Expr)(h_sl12Exprs:vN r_sl12Exprs)(h_sl12Arm:BN r_sl12Arm):BN (OA fu r_sl12Expr r_sl12Exprs r_sl12Arm):=by
 intro px r H
 have H:=fF H
 refine qI Tryz.func264 (fun C hC=>?_)
 refine qS (qR (q1 (kQ ([pS px.gAtom,bJ px.gList])) (q1 (iG UG) (qN (qS (qR (q1 (bC bN) (q1 (bL c6) (q1 (eR bO (aB.trs_len _)) (q1 aF (qN ?_)))))))))))
 iterate 2 refine qS ?_
 refine qR (q1 aF (q1 iQ (qN ?_)))
 refine bH H (fun h1 H=>?_) (fun h1 H=>?_)
 ·have h1n:px.gList.length<2:=by have:=of_decide_eq_true h1;omega
  refine qS (qR (q1 (gD UG alB) (q1 (b3 akC) (qN (aO.ret ?_)))))
  cases aZ H
  exact bR (hr:=⟨⟨_,_,_,rfl,rfl,alG,rfl,rfl⟩,trivial⟩)
 refine aO.skip (qS (qR (q1 (bC bN) (q1 (bL c6) (q1 aF (q1 GQ (c9 H fun z2 H=>?_)))))))
 refine q1 (aV.congrP (aV.sliceR (es:=aB.trs (px.gList)) (l:=1) (k:=aQ ((px.gList.length:Int)-1)) rfl rfl rfl rfl rfl (by rw [aB.trs_len];exact rfl) (by rw [aB.trs_len];exact z2) bO) (aB.trs_part _ _ _)) ?_;refine fQ H fun x4 x5 z3 H=>(q1 (bQ Tryz.func218 (FB fu (List.drop (1:Int).toNat (List.take (aQ ((px.gList.length:Int)-1):Int).toNat px.gList)) _ z3)) (q1 aF ?_))
 iterate 2 refine q1 BH ?_
 iterate 2 refine q1 aF ?_
 refine qN (qS (c9 H fun z6 H=>(c9 H fun z7 H=>(gU H fun y8 h9 H=>(bU H fun x11 z10 H=>(dW (dI [1] (bC bN) (dD [21] (bL c6) (dI [22] (jH z6 bO) (dI [23] (rC fR) (dI [24] (p9 fO) (dI [4] aF (dI [1] (bC bN) ?_)))))))))))))
 refine dD [27] (bL c6) (dI [3] aF (dI [29] GQ (dI [28,30] (rIm h9 z7 bO) (dI [31] (lB (aB.cs y8) bY) (dI [32] (bQ Tryz.func247 (h_sl12Expr y8 _ z10)) (dI [25,26,33] (gD UG alB) (m4 [2,34] (b3 akC) (dN (aO.ret ?_)))))))))
 cases aZ H
 exact bR (hr:=⟨⟨_,_,_,rfl,rfl,alG,rfl,rfl⟩,trivial⟩)
mutual
def g0:Nat→aB→Option aH
 |0,_=>none
 |fu+1,pa0=>J8 fu (g0 fu) (kM fu) (nJ fu) pa0
def kM:Nat→(List aB)→Option ((List aH))
 |0,_=>none
 |fu+1,plist=>EY fu (g0 fu) (kM fu) (nJ fu) plist
def nJ:Nat→aB→Option bM
 |0,_=>none
 |fu+1,px=>OA fu (g0 fu) (kM fu) (nJ fu) px
end
theorem YT(fu:Nat):uP (g0 fu)∧vN (kM fu)∧BN (nJ fu):=by
 induction fu with
 |zero=>exact⟨(fun pa0 r H=>by simp only [g0] at H;cases H),(fun plist r H=>by simp only [kM] at H;cases H),(fun px r H=>by simp only [nJ] at H;cases H)⟩
 |succ fu ih=>exact⟨(fun pa0 r H=>by simp only [g0] at H;exact VZ fu (g0 fu) (kM fu) (nJ fu) ih.1 ih.2.1 ih.2.2 pa0 r H),(fun plist r H=>by simp only [kM] at H;exact TI fu (g0 fu) (kM fu) (nJ fu) ih.1 ih.2.1 ih.2.2 plist r H),(fun px r H=>by simp only [nJ] at H;exact YS fu (g0 fu) (kM fu) (nJ fu) ih.1 ih.2.1 ih.2.2 px r H)⟩
theorem EX(fu:Nat):uP (g0 fu):=(YT fu).1
abbrev oU:=aH→Option aB
abbrev k7:=(List aB)→(List aH)→Option aB
def EZ(m:oU):Prop:= ∀(pa0:aH) (r:aB),m pa0=some r→cA Tryz.prog 270 [(aH.pv pa0)] ((aB.pv r):PV)
def CX(m:k7):Prop:= ∀(phead:List aB) (plist:List aH) (r:aB),m phead plist=some r→cP Tryz.prog 282 [eL phead 0,fZ plist] ⟨[],[⟨237,2,aB.trs (phead),false⟩]⟩ (fun q t=>q=(.agg [pS r.gAtom,eL r.gList 0]:PV)∧t=⟨[],[⟨237,2,aB.trs (r.gList),false⟩]⟩)
def ajK(fu:Nat)(r_sl12Sx:oU)(r_sl12Args:k7)(pa0:aH)(x68 x70:aB):Nat→((List aB))→Option (LR ((List aB)) aB):=
 fun i71 v73=>lt (bB pa0.gArms i71) (fun y76=>
 bd (cI fu y76.gConstructor) (fun x79=>
 bd (C0 fu y76.gVars) (fun x81=>
 gd ((([x79]:List aB)).length+(x81).length≤68719476736)
 (bd (r_sl12Sx y76.gBody) (fun x84=>
 gd ((([x79]:List aB)++x81).length+(([x84]:List aB)).length≤68719476736)
 (gd ((v73).length+(([(aB.mk s_ ((([x79]:List aB)++x81)++([x84]:List aB)))]:List aB)).length≤68719476736)
 (some (.next (v73++([(aB.mk s_ ((([x79]:List aB)++x81)++([x84]:List aB)))]:List aB))))))))))
def ajL(fu:Nat)(r_sl12Sx:oU)(r_sl12Args:k7)(pa0:aH)(x68 x70:aB):Option (aB⊕((List aB))):=
 loopN (ajK fu r_sl12Sx r_sl12Args pa0 x68 x70) (pa0.gArms.length-0) 0 x70.gList
def TJ(fu:Nat)(r_sl12Sx:oU)(r_sl12Args:k7)(pa0:aH):Option aB:=
 sw (decide (pa0.gKind=1))
 (bd (n0 fu pa0.gN) (fun x3=>
 bd (cI fu x3) (fun x5=>
 some x5)))
 (sw (decide (pa0.gKind=2))
 (gd (0≤pa0.gN∧(pa0.gN).toNat<(([lY,pC]:List ByteArray)).length)
 (bd (cI fu (bB ([lY,pC]:List ByteArray) ((pa0.gN).toNat))) (fun x9=>
 some x9)))
 (sw (decide (pa0.gKind=3))
 (bd (cI fu pa0.gName) (fun x12=>
 some x12))
 (sw (decide (pa0.gKind=4))
 (bd (cI fu N6) (fun x15=>
 bd (cI fu pa0.gName) (fun x17=>
 bd (r_sl12Args ([x15,x17]:List aB) pa0.gArgs) (fun x19=>
 some (aB.mk x19.gAtom x19.gList)))))
 (sw (decide (pa0.gKind=5))
 (bd (cI fu oT) (fun x22=>
 bd (cI fu pa0.gTrait) (fun x24=>
 bd (cI fu pa0.gName) (fun x26=>
 bd (r_sl12Args ([x22,x24,x26]:List aB) pa0.gArgs) (fun x28=>
 some (aB.mk x28.gAtom x28.gList))))))
 (sw (decide (pa0.gKind=6))
 (bd (cI fu DF) (fun x31=>
 bd (cI fu pa0.gName) (fun x33=>
 bd (r_sl12Args ([x31,x33]:List aB) pa0.gArgs) (fun x35=>
 some (aB.mk x35.gAtom x35.gList)))))
 (sw (decide (pa0.gKind=8))
 (bd (cI fu DE) (fun x38=>
 bd (cI fu pa0.gName) (fun x40=>
 bd (r_sl12Args ([x38,x40]:List aB) pa0.gArgs) (fun x42=>
 some (aB.mk x42.gAtom x42.gList)))))
 (sw (decide (pa0.gKind=9))
 (bd (cI fu CS) (fun x45=>
 bd (r_sl12Args ([x45]:List aB) pa0.gArgs) (fun x47=>
 some (aB.mk x47.gAtom x47.gList))))
 (sw (decide (pa0.gKind=10))
 (bd (cI fu pa0.gName) (fun x50=>
 bd (r_sl12Args ([x50]:List aB) pa0.gArgs) (fun x52=>
 some (aB.mk x52.gAtom x52.gList))))
 (sw (decide (pa0.gKind=11))
 (bd (cI fu wI) (fun x55=>
 bd (cI fu pa0.gTrait) (fun x57=>
 bd (r_sl12Args ([x55,x57]:List aB) pa0.gArgs) (fun x59=>
 some (aB.mk x59.gAtom x59.gList)))))
 (sw (decide (pa0.gKind=12))
 (bd (cI fu WP) (fun x62=>
 bd (mG fu pa0.gType) (fun x64=>
 bd (r_sl12Args ([x62,x64]:List aB) pa0.gArgs) (fun x66=>
 some (aB.mk x66.gAtom x66.gList)))))
 (bd (cI fu wH) (fun x68=>
 bd (r_sl12Args ([x68]:List aB) pa0.gArgs) (fun x70=>
 so (ajL fu r_sl12Sx r_sl12Args pa0 x68 x70) (fun v73=>
 some (aB.mk x70.gAtom v73)))))))))))))))
theorem acO(fu:Nat)(r_sl12Sx:oU)(r_sl12Args:k7)(h_sl12Sx:EZ r_sl12Sx)(h_sl12Args:CX r_sl12Args):EZ (TJ fu r_sl12Sx r_sl12Args):=by
 intro pa0 r H
 have H:=fF H
 refine qI Tryz.func270 (fun C hC=>?_)
 refine qS (qR (q1 (kQ (iR pa0)) (q1 (iG cF) (qN ?_))))
 iterate 2 refine qS ?_
 refine qR (q1 (bC rX) (q1 (bL kZ) (qN (aO.block (qS (qR (q1 eP (q1 aF (qN ?_)))))))))
 refine bH H (fun h1 H=>?_) (fun h1 H=>?_)
 ·refine qS (qR (q1 (bC EA) (q1 (bL kZ) (bU H fun x3 z2 H=>(q1 (bQ Tryz.func281 (AH fu pa0.gN _ z2)) (bU H fun x5 z4 H=>(q1 (bQ Tryz.func266 (cB fu x3 _ z4)) (q1 (b3 eQ) (qN (aO.ret ?_))))))))))
  cases aZ H
  exact bR (hr:=⟨⟨_,_,_,rfl,rfl,bY,rfl,rfl⟩,trivial⟩)
 refine qS (qR (q1 eP (q1 aF (qN ?_))))
 refine bH H (fun h6 H=>?_) (fun h6 H=>?_)
 ·refine qS (qR (q1 (iW ([lY,pC]:List ByteArray) b6 lO) (q1 (bC EA) (q1 (bL kZ) (c9 H fun z7 H=>(q1 (rIy z7 b6) (q1 (p9 fO) (bU H fun x9 z8 H=>(q1 (bQ Tryz.func266 (cB fu (bB ([lY,pC]:List ByteArray) ((pa0.gN).toNat)) _ z8)) (q1 (b3 eQ) (qN (aO.ret ?_))))))))))))
  cases aZ H
  exact bR (hr:=⟨⟨_,_,_,rfl,rfl,bY,rfl,rfl⟩,trivial⟩)
 refine qS (qR (q1 eP (q1 aF (qN ?_))))
 refine bH H (fun h10 H=>?_) (fun h10 H=>?_)
 ·refine qS (qR (q1 (bC pR) (q1 (bL fO) (bU H fun x12 z11 H=>(q1 (bQ Tryz.func266 (cB fu pa0.gName _ z11)) (q1 (b3 eQ) (qN (aO.ret ?_))))))))
  cases aZ H
  exact bR (hr:=⟨⟨_,_,_,rfl,rfl,bY,rfl,rfl⟩,trivial⟩)
 refine qS (qR (q1 eP (q1 aF (qN ?_))))
 refine bH H (fun h13 H=>?_) (fun h13 H=>?_)
 ·refine qS (bU H fun x15 z14 H=>(bU H fun x17 z16 H=>(bU H fun x19 z18 H=>(dW (dI [] (bQ Tryz.func266 (cB fu N6 _ z14)) (dI [1] (bC pR) (dD [31] (bL fO) (dI [32] (bQ Tryz.func266 (cB fu pa0.gName _ z16)) (dE [30,33] (wA ([x15,x17]:List aB) bO cF) (dI [1] (bC jP) (dB [35] 0 1 (vQ vL) (dE [34,36] (f6 [] [0] Tryz.func282 (h_sl12Args ([x15,x17]:List aB) pa0.gArgs _ z18)) (m4 [2,37] (b3 eQ) ?_)))))))))))))
  refine dN (aO.ret ?_)
  cases aZ H
  exact bR (hr:=⟨⟨_,_,_,rfl,rfl,bY,rfl,rfl⟩,trivial⟩)
 refine qS (qR (q1 eP (q1 aF (qN ?_))))
 refine bH H (fun h20 H=>?_) (fun h20 H=>?_)
 ·refine qS (bU H fun x22 z21 H=>(bU H fun x24 z23 H=>(bU H fun x26 z25 H=>(bU H fun x28 z27 H=>(dW (dI [] (bQ Tryz.func266 (cB fu oT _ z21)) (dI [1] (bC MZ) (dD [41] (bL fO) (dI [42] (bQ Tryz.func266 (cB fu pa0.gTrait _ z23)) (dI [1] (bC pR) (dD [44] (bL fO) (dI [45] (bQ Tryz.func266 (cB fu pa0.gName _ z25)) (dE [40,43,46] (wA ([x22,x24,x26]:List aB) bO cF) ?_)))))))))))))
  refine dI [1] (bC jP) (dB [48] 0 1 (vQ vL) (dE [47,49] (f6 [] [0] Tryz.func282 (h_sl12Args ([x22,x24,x26]:List aB) pa0.gArgs _ z27)) (m4 [2,50] (b3 eQ) (dN (aO.ret ?_)))))
  cases aZ H
  exact bR (hr:=⟨⟨_,_,_,rfl,rfl,bY,rfl,rfl⟩,trivial⟩)
 refine qS (qR (q1 eP (q1 aF (qN ?_))))
 refine bH H (fun h29 H=>?_) (fun h29 H=>?_)
 ·refine qS (bU H fun x31 z30 H=>(bU H fun x33 z32 H=>(bU H fun x35 z34 H=>(dW (dI [] (bQ Tryz.func266 (cB fu DF _ z30)) (dI [1] (bC pR) (dD [54] (bL fO) (dI [55] (bQ Tryz.func266 (cB fu pa0.gName _ z32)) (dE [53,56] (wA ([x31,x33]:List aB) bO cF) (dI [1] (bC jP) (dB [58] 0 1 (vQ vL) (dE [57,59] (f6 [] [0] Tryz.func282 (h_sl12Args ([x31,x33]:List aB) pa0.gArgs _ z34)) (m4 [2,60] (b3 eQ) ?_)))))))))))))
  refine dN (aO.ret ?_)
  cases aZ H
  exact bR (hr:=⟨⟨_,_,_,rfl,rfl,bY,rfl,rfl⟩,trivial⟩)
 refine qS (qR (q1 eP (q1 aF (qN ?_))))
 refine bH H (fun h36 H=>?_) (fun h36 H=>?_)
 ·refine qS (bU H fun x38 z37 H=>(bU H fun x40 z39 H=>(bU H fun x42 z41 H=>(dW (dI [] (bQ Tryz.func266 (cB fu DE _ z37)) (dI [1] (bC pR) (dD [64] (bL fO) (dI [65] (bQ Tryz.func266 (cB fu pa0.gName _ z39)) (dE [63,66] (wA ([x38,x40]:List aB) bO cF) (dI [1] (bC jP) (dB [68] 0 1 (vQ vL) (dE [67,69] (f6 [] [0] Tryz.func282 (h_sl12Args ([x38,x40]:List aB) pa0.gArgs _ z41)) (m4 [2,70] (b3 eQ) ?_)))))))))))))
  refine dN (aO.ret ?_)
  cases aZ H
  exact bR (hr:=⟨⟨_,_,_,rfl,rfl,bY,rfl,rfl⟩,trivial⟩)
 refine qS (qR (q1 eP (q1 aF (qN ?_))))
 refine bH H (fun h43 H=>?_) (fun h43 H=>?_)
 ·refine qS (bU H fun x45 z44 H=>(bU H fun x47 z46 H=>(dW (dI [] (bQ Tryz.func266 (cB fu CS _ z44)) (dE [73] (wA ([x45]:List aB) bO cF) (dI [1] (bC jP) (dB [75] 0 1 (vQ vL) (dE [74,76] (f6 [] [0] Tryz.func282 (h_sl12Args ([x45]:List aB) pa0.gArgs _ z46)) (m4 [2,77] (b3 eQ) (dN (aO.ret ?_)))))))))))
  cases aZ H
  exact bR (hr:=⟨⟨_,_,_,rfl,rfl,bY,rfl,rfl⟩,trivial⟩)
 refine qS (qR (q1 eP (q1 aF (qN ?_))))
 refine bH H (fun h48 H=>?_) (fun h48 H=>?_)
 ·refine qS (bU H fun x50 z49 H=>(bU H fun x52 z51 H=>(dW (dI [1] (bC pR) (dD [80] (bL fO) (dI [81] (bQ Tryz.func266 (cB fu pa0.gName _ z49)) (dE [82] (wA ([x50]:List aB) bO cF) (dI [1] (bC jP) (dB [84] 0 1 (vQ vL) (dE [83,85] (f6 [] [0] Tryz.func282 (h_sl12Args ([x50]:List aB) pa0.gArgs _ z51)) (m4 [2,86] (b3 eQ) (dN (aO.ret ?_)))))))))))))
  cases aZ H
  exact bR (hr:=⟨⟨_,_,_,rfl,rfl,bY,rfl,rfl⟩,trivial⟩)
 refine qS (qR (q1 eP (q1 aF (qN ?_))))
 refine bH H (fun h53 H=>?_) (fun h53 H=>?_)
 ·refine qS (bU H fun x55 z54 H=>(bU H fun x57 z56 H=>(bU H fun x59 z58 H=>(dW (dI [] (bQ Tryz.func266 (cB fu wI _ z54)) (dI [1] (bC MZ) (dD [90] (bL fO) (dI [91] (bQ Tryz.func266 (cB fu pa0.gTrait _ z56)) (dE [89,92] (wA ([x55,x57]:List aB) bO cF) (dI [1] (bC jP) (dB [94] 0 1 (vQ vL) (dE [93,95] (f6 [] [0] Tryz.func282 (h_sl12Args ([x55,x57]:List aB) pa0.gArgs _ z58)) (m4 [2,96] (b3 eQ) ?_)))))))))))))
  refine dN (aO.ret ?_)
  cases aZ H
  exact bR (hr:=⟨⟨_,_,_,rfl,rfl,bY,rfl,rfl⟩,trivial⟩)
 refine qS (qR (q1 eP (q1 aF (qN ?_))))
 refine bH H (fun h60 H=>?_) (fun h60 H=>?_)
 ·refine qS (bU H fun x62 z61 H=>(bU H fun x64 z63 H=>(bU H fun x66 z65 H=>(dW (dI [] (bQ Tryz.func266 (cB fu WP _ z61)) (dI [1] (bC t5) (dD [100] (cY [pI pa0.gType.gKind,pS pa0.gType.gName,aW pa0.gType.gArgs] b8) (dI [101] (bQ Tryz.func269 (vO fu pa0.gType _ z63)) (dE [99,102] (wA ([x62,x64]:List aB) bO cF) (dI [1] (bC jP) (dB [104] 0 1 (vQ vL) (dE [103,105] (f6 [] [0] Tryz.func282 (h_sl12Args ([x62,x64]:List aB) pa0.gArgs _ z65)) (m4 [2,106] (b3 eQ) ?_)))))))))))))
  refine dN (aO.ret ?_)
  cases aZ H
  exact bR (hr:=⟨⟨_,_,_,rfl,rfl,bY,rfl,rfl⟩,trivial⟩)
 refine aO.skip (qS (bU H fun x68 z67 H=>(bU H fun x70 z69 H=>(dWa (dI [] (bQ Tryz.func266 (cB fu wH _ z67)) ?_)))))
 refine dEz [107] (fun _ z=>by cases z<;>exact wA ([x68]:List aB) bO cF) ?_;refine dI [1] (bC jP) (dBz [109] 0 1 (vQ vL) ?_)
 refine dEz [108,110] (fun _ z=>by cases z<;>exact f6 [] [0] Tryz.func282 (h_sl12Args ([x68]:List aB) pa0.gArgs _ z69)) ?_;refine dA (fun _ st h=>vAl h cF) (dZ 3 [3,111] (b3 eQ) (dN ?_))
 iterate 2 refine qS ?_
 refine qR (q1 aF (qN ?_))
 refine aO.fact (c3 0 8 rfl rfl rfl (bM.trs_len _)) (fun hl74=>?_)
 refine cM (σ:=(List aB)) (fun i71 v73=>⟨[(1,.ptr 0 0),(2,.ptr 1 0),(3,.ptr 2 0),(4,pN i71)],⟨[some ⟨87,iR pa0⟩,some ⟨237,[pS s_,.nil]⟩,some ⟨237,[pS x70.gAtom,eL v73 0]⟩],[⟨237,2,aB.trs (v73),false⟩]⟩⟩) (fun v73=>⟨[(2,.ptr 1 0),(3,.ptr 2 0)],⟨[some ⟨87,iR pa0⟩,some ⟨237,[pS s_,.nil]⟩,some ⟨237,[pS x70.gAtom,eL v73 0]⟩],[⟨237,2,aB.trs (v73),false⟩]⟩⟩) (gW H) ?_ ?_
 ·rintro i71 v73 H
  iterate 2 refine qS ?_
  refine qR (q1 aF (q1 (bC gY) (q1 (bL sI) (q1 (eR pJ (bM.trs_len _)) (q1 iQ (qN ?_))))))
  refine eO H (fun h75 h75l H=>?_) (fun h75 H=>?_)
  ·have h75n:=bF h75
   refine aO.skip (qS (aO.block (qS (qR (q1 (bC gY) (q1 (bL sI) (q1 aF (gU H fun y76 h77 H=>(q1 (yI h77 h75n pJ) (q1 (lB (bM.cs y76) alG) (q1 (iG UG) (q1 (b3 akC) (qN ?_)))))))))))))
   refine qS (bU H fun x79 z78 H=>(bU H fun x81 z80 H=>(c9 H fun z82 H=>(dW (dI [5] (bC B9) (dD [124] (bL fO) (dI [125] (bQ Tryz.func266 (cB fu y76.gConstructor _ z78)) (dE [126] (wA ([x79]:List aB) bO cF) (dI [5] (bC CA) (dB [128] 0 1 (vQ lI) (dI [129] (bQ Tryz.func280 (O6 fu y76.gVars _ z80)) (dE [127,130] (oE z82 bO q8) (dI [131] aF ?_)))))))))))))
   refine dN (bU H fun x84 z83 H=>(c9 H fun z85 H=>(c9 H fun z86 H=>(dW (dI [3] (bC bN) (dB [132] 0 1 (vQ c6) (dI [6] aF (dI [5] (bC I6) (dD [135] (cY [pI y76.gBody.gKind,pS y76.gBody.gTrait,pS y76.gBody.gName,pI y76.gBody.gN,pI y76.gBody.gType.gKind,pS y76.gBody.gType.gName,aW y76.gBody.gType.gArgs,fZ y76.gBody.gArgs,nG y76.gBody.gArms] iH) (dI [136] (bQ Tryz.func270 (h_sl12Sx y76.gBody _ z83)) (dI [137] (iW ([x84]:List aB) bO cF) (dE [134,138] (oE z85 bO q8) (dI [139] (gD cF nF) ?_)))))))))))))
   refine dI [140] (iW ([(aB.mk s_ ((([x79]:List aB)++x81)++([x84]:List aB)))]:List aB) bO cF) (dE [133,141] (oE z86 bO q8) (dI [3] (bC bN) (m4 [143,142] (b3 zS) (dN (qR (q1 aF (q1 (aV.addI rfl rfl rfl rfl (c:=((i71+1:Nat):Int)) (by omega) (by omega)) (q1 aF (qN ?_)))))))))
   exact j8 h75l ⟨_,(aZ H:),b9⟩
  refine aO.exit ?_;exact lP ⟨_,H,b9⟩
 rintro v73 H
 refine qS (qR (q1 (cY [pS x70.gAtom,eL v73 0] bY) (q1 (b3 eQ) (qN (aO.ret ?_)))))
 cases aZ H
 exact bR (hr:=⟨⟨_,_,_,rfl,rfl,bY,rfl,rfl⟩,trivial⟩)
def acI(fu:Nat)(r_sl12Sx:oU)(r_sl12Args:k7)(phead:List aB)(plist:List aH):Nat→((List aB))→Option (LR ((List aB)) aB):=
 fun i1 v3=>lt (bB plist i1) (fun y6=>
 bd (r_sl12Sx y6) (fun x9=>
 gd ((v3).length+(([x9]:List aB)).length≤68719476736)
 (some (.next (v3++([x9]:List aB))))))
def acJ(fu:Nat)(r_sl12Sx:oU)(r_sl12Args:k7)(phead:List aB)(plist:List aH):Option (aB⊕((List aB))):=
 loopN (acI fu r_sl12Sx r_sl12Args phead plist) (plist.length-0) 0 phead
def J7(fu:Nat)(r_sl12Sx:oU)(r_sl12Args:k7)(phead:List aB)(plist:List aH):Option aB:=
 so (acJ fu r_sl12Sx r_sl12Args phead plist) (fun v3=>
 some (aB.mk s_ v3))
theorem VY(fu:Nat)(r_sl12Sx:oU)(r_sl12Args:k7)(h_sl12Sx:EZ r_sl12Sx)(h_sl12Args:CX r_sl12Args):CX (J7 fu r_sl12Sx r_sl12Args):=by
 intro phead plist r H
 have H:=fF H
 refine qI Tryz.func282 (fun C hC=>?_)
 refine qS (qR (q1 (iG cF) (qN (qS (qR (q1 aF (q1 (gD cF nF) (q1 (iG cF) (q1 (b3 eQ) (qN ?_))))))))))
 iterate 2 refine qS ?_
 refine qR (q1 aF (qN ?_))
 refine kV 1 (aH.trs_len _) (fun hl4=>?_)
 refine cM (σ:=(List aB)) (fun i1 v3=>⟨[(1,fZ plist),(4,.ptr 0 0),(5,.ptr 1 0),(6,pN i1)],⟨[some ⟨237,[pS s_,.nil]⟩,some ⟨237,[pS s_,eL v3 0]⟩],[⟨237,2,aB.trs (v3),false⟩]⟩⟩) (fun v3=>⟨[(4,.ptr 0 0),(5,.ptr 1 0)],⟨[some ⟨237,[pS s_,.nil]⟩,some ⟨237,[pS s_,eL v3 0]⟩],[⟨237,2,aB.trs (v3),false⟩]⟩⟩) (gW H) ?_ ?_
 ·rintro i1 v3 H
  iterate 2 refine qS ?_
  refine qR ?_
  iterate 2 refine q1 aF ?_
  refine q1 (eR m3 (aH.trs_len _)) (q1 iQ (qN ?_))
  refine eO H (fun h5 h5l H=>?_) (fun h5 H=>?_)
  ·have h5n:=bF h5
   refine aO.skip (qS (aO.block (gU H fun y6 h7 H=>(bU H fun x9 z8 H=>(c9 H fun z10 H=>(dW (dI [5] (bC bN) (dD [15] (bL c6) (dI [1] aF (dI [6] aF (dI [17,18] (yI h7 h5n m3) (dI [19] (lB (aH.cs y6) iH) (dI [20] (bQ Tryz.func270 (h_sl12Sx y6 _ z8)) ?_)))))))))))))
   refine dI [21] (iW ([x9]:List aB) bO cF) (dE [16,22] (oE z10 bO q8) (dI [5] (bC bN) (m4 [24,23] (b3 zS) (dN (qR (q1 aF (q1 (aV.addI rfl rfl rfl rfl (c:=((i1+1:Nat):Int)) (by omega) (by omega)) (q1 aF (qN ?_)))))))))
   exact j8 h5l ⟨_,(aZ H:),b9⟩
  refine aO.exit ?_;exact lP ⟨_,H,b9⟩
 rintro v3 H
 refine qS (qR (q1 (cY [pS s_,eL v3 0] bY) (q1 (b3 eQ) (qN (aO.ret ?_)))))
 cases aZ H
 exact bR (hr:=⟨⟨_,_,_,rfl,rfl,bY,rfl,rfl⟩,trivial⟩)
mutual
def mD:Nat→aH→Option aB
 |0,_=>none
 |fu+1,pa0=>TJ fu (mD fu) (n8 fu) pa0
def n8:Nat→(List aB)→(List aH)→Option aB
 |0,_,_=>none
 |fu+1,phead,plist=>J7 fu (mD fu) (n8 fu) phead plist
end
theorem afI(fu:Nat):EZ (mD fu)∧CX (n8 fu):=by
 induction fu with
 |zero=>exact⟨(fun pa0 r H=>by simp only [mD] at H;cases H),(fun phead plist r H=>by simp only [n8] at H;cases H)⟩
 |succ fu ih=>exact⟨(fun pa0 r H=>by simp only [mD] at H;exact acO fu (mD fu) (n8 fu) ih.1 ih.2 pa0 r H),(fun phead plist r H=>by simp only [n8] at H;exact VY fu (mD fu) (n8 fu) ih.1 ih.2 phead plist r H)⟩
theorem OC(fu:Nat):EZ (mD fu):=(afI fu).1
end
end Go.Proofs.YtpioomclpaiomaaGreat.W

namespace Go.Proofs.YtpioomclpaiomaaGreat.W
set_option maxRecDepth 100000
set_option maxHeartbeats 40000000
noncomputable section
open Go.RowKit Go.Proofs
set_option linter.unusedSimpArgs false
set_option linter.unusedVariables false
attribute [local irreducible] lt
abbrev n7:=aH→Int→Option Int
def CW(m:n7):Prop:= ∀(pe:aH) (pleft:Int) (r:Int),m pe pleft=some r→cA Tryz.prog 293 [(aH.pv pe),pI pleft] (pI r:PV)
def acA(fu:Nat)(r_sl11Left:n7)(pe:aH)(pleft:Int):Nat→Int→Option (LR Int Int):=
 fun i1 v2=>sw (decide (v2≥0))
 (lt (bB pe.gArgs i1) (fun y6=>
 bd (r_sl11Left y6 v2) (fun x9=>
 some (.next x9))))
 (some (.brk v2))
def acC(fu:Nat)(r_sl11Left:n7)(pe:aH)(pleft:Int):Option (Int⊕Int):=
 loopN (acA fu r_sl11Left pe pleft) (pe.gArgs.length-0) 0 (aQ (pleft-1))
def acB(fu:Nat)(r_sl11Left:n7)(pe:aH)(pleft v2:Int):Nat→Int→Option (LR Int Int):=
 fun i10 v11=>sw (decide (v11≥0))
 (lt (bB pe.gArms i10) (fun y15=>
 bd (r_sl11Left y15.gBody v11) (fun x18=>
 some (.next x18))))
 (some (.brk v11))
def acD(fu:Nat)(r_sl11Left:n7)(pe:aH)(pleft v2:Int):Option (Int⊕Int):=
 loopN (acB fu r_sl11Left pe pleft v2) (pe.gArms.length-0) 0 v2
def J5(fu:Nat)(r_sl11Left:n7)(pe:aH)(pleft:Int):Option Int:=
 so (acC fu r_sl11Left pe pleft) (fun v2=>
 so (acD fu r_sl11Left pe pleft v2) (fun v11=>
 some v11))
theorem VX(fu:Nat)(r_sl11Left:n7)(h_sl11Left:CW r_sl11Left):CW (J5 fu r_sl11Left):=by
 intro pe pleft r H
 have H:=fF H
 refine qI Tryz.func293 (fun C hC=>?_)
 refine qS (qR (q1 (kQ (iR pe)) (q1 aF (qN (qS (qR (q1 aF (q1 GQ (q1 aF (qN ?_))))))))))
 iterate 2 refine qS ?_
 refine qR (q1 aF (qN ?_))
 refine aO.fact (c3 0 7 rfl rfl rfl (aH.trs_len _)) (fun hl3=>?_)
 refine cM (σ:=Int) (fun i1 v2=>⟨[(1,pI v2),(2,.ptr 0 0),(4,pI 0),(5,pN i1)],⟨[some ⟨87,iR pe⟩],[]⟩⟩) (fun v2=>⟨[(1,pI v2),(2,.ptr 0 0),(4,pI 0)],⟨[some ⟨87,iR pe⟩],[]⟩⟩) (gW H) ?_ ?_
 ·rintro i1 v2 H
  iterate 2 refine qS ?_
  refine qR (q1 aF (q1 (bC jP) (q1 (bL vL) (q1 (eR m3 (aH.trs_len _)) (q1 iQ (q1 aF ?_))))))
  refine AL.splitB 14 rfl (fun g4=>?_) (fun g4=>?_)
  ·have g4l:=yF g4
   have H:=lnT g4l H
   have g4n:=bF g4
   refine qg g4 aF (qg g4 UH (q1 (b0 g4) (qN ?_)))
   refine bH H (fun h5 H=>?_) (fun h5 H=>?_)
   ·refine aO.skip (qS (aO.block (qR (q1 (bC jP) (q1 (bL vL) (q1 aF (gU H fun y6 h7 H=>(q1 (yI h7 g4n m3) (q1 (lB (aH.cs y6) iH) (q1 aF (bU H fun x9 z8 H=>(q1 (bQ Tryz.func293 (h_sl11Left y6 v2 _ z8)) (q1 aF ?_)))))))))))))
    refine qN (qR (q1 aF (q1 (aV.addI rfl rfl rfl rfl (c:=((i1+1:Nat):Int)) (by omega) (by omega)) (q1 aF (qN ?_)))))
    exact j8 g4l ⟨_,(aZ H:),b9⟩
   refine aO.exit ?_;exact lpB ⟨_,(aZ H:),b9⟩
  have H:=lnE (yE g4) H
  iterate 2 refine qk g4 ?_
  refine q1 (cC g4) (qN (kP rfl (aO.exit ?_)))
  exact lP ⟨_,H,b9⟩
 rintro v2 H
 iterate 2 refine qS ?_
 refine qR (q1 aF (qN ?_))
 refine aO.fact (c3 0 8 rfl rfl rfl (bM.trs_len _)) (fun hl12=>?_)
 refine cM (σ:=Int) (fun i10 v11=>⟨[(1,pI v11),(2,.ptr 0 0),(4,pI 0),(6,pN i10)],⟨[some ⟨87,iR pe⟩],[]⟩⟩) (fun v11=>⟨[(1,pI v11),(4,pI 0)],⟨[some ⟨87,iR pe⟩],[]⟩⟩) (gW H) ?_ ?_
 ·rintro i10 v11 H
  iterate 2 refine qS ?_
  refine qR (q1 aF (q1 (bC gY) (q1 (bL sI) (q1 (eR pJ (bM.trs_len _)) (q1 iQ (q1 aF ?_))))))
  refine AL.splitB 32 rfl (fun g13=>?_) (fun g13=>?_)
  ·have g13l:=yF g13
   have H:=lnT g13l H
   have g13n:=bF g13
   refine qg g13 aF (qg g13 UH (q1 (b0 g13) (qN ?_)))
   refine bH H (fun h14 H=>?_) (fun h14 H=>?_)
   ·refine aO.skip (qS (aO.block (qR (q1 (bC gY) (q1 (bL sI) (q1 aF (gU H fun y15 h16 H=>(q1 (yI h16 g13n pJ) (q1 (rC I6) (q1 (lB (aH.cs y15.gBody) iH) (q1 aF (bU H fun x18 z17 H=>(q1 (bQ Tryz.func293 (h_sl11Left y15.gBody v11 _ z17)) ?_)))))))))))))
    refine q1 aF (qN (qR (q1 aF (q1 (aV.addI rfl rfl rfl rfl (c:=((i10+1:Nat):Int)) (by omega) (by omega)) (q1 aF (qN ?_))))))
    exact j8 g13l ⟨_,(aZ H:),b9⟩
   refine aO.exit ?_;exact lpB ⟨_,(aZ H:),b9⟩
  have H:=lnE (yE g13) H
  iterate 2 refine qk g13 ?_
  refine q1 (cC g13) (qN (kP rfl (aO.exit ?_)))
  exact lP ⟨_,H,b9⟩
 rintro v11 H
 refine qS (qR ?_)
 iterate 2 refine q1 aF ?_
 refine qN (aO.ret ?_)
 cases aZ H
 exact bR
def mU:Nat→aH→Int→Option Int
 |0,_,_=>none
 |fu+1,pe,pleft=>J5 fu (mU fu) pe pleft
theorem YP(fu:Nat):CW (mU fu):=by
 induction fu with
 |zero=>exact(fun pe pleft r H=>by simp only [mU] at H;cases H)
 |succ fu ih=>exact(fun pe pleft r H=>by simp only [mU] at H;exact VX fu (mU fu) ih pe pleft r H)
theorem acF(fu:Nat):CW (mU fu):=(YP fu)
def ajH(m:Int→Option (Bool×Bool×Bool×Bool×Int×Bool)):Prop:= ∀(pk:Int) (r:Bool×Bool×Bool×Bool×Int×Bool),m pk=some r→cA Tryz.prog 296 [pI pk] (.tup [pB r.1,pB r.2.1,pB r.2.2.1,pB r.2.2.2.1,pI r.2.2.2.2.1,pB r.2.2.2.2.2]:PV)
def ae9(fu:Nat)(pk:Int):Option ((Bool×Bool×Bool×Bool×Int×Bool)⊕Bool):=
 sw (decide (pk=1))
 (some (.inr (decide (pk=1))))
 (some (.inr (decide (pk=2))))
def afA(fu:Nat)(pk:Int)(v1:Bool):Option ((Bool×Bool×Bool×Bool×Int×Bool)⊕Bool):=
 sw (decide (pk=4))
 (some (.inr (decide (pk=4))))
 (some (.inr (decide (pk=6))))
def afB(fu:Nat)(pk:Int)(v1 v5:Bool):Option ((Bool×Bool×Bool×Bool×Int×Bool)⊕Bool):=
 sw (decide (pk=8))
 (some (.inr (decide (pk=8))))
 (some (.inr (decide (pk=10))))
def N9(fu:Nat)(pk:Int):Option (Bool×Bool×Bool×Bool×Int×Bool):=
 so (ae9 fu pk) (fun v1=>
 sw (v1)
 (some (false,false,true,false,0,false))
 (sw (decide (pk=3))
 (some (false,true,false,false,0,false))
 (so (afA fu pk v1) (fun v5=>
 sw (v5)
 (some (false,true,false,false,(-1),false))
 (sw (decide (pk=5))
 (some (true,true,false,false,(-1),false))
 (sw (decide (pk=7))
 (some (false,false,false,false,1,true))
 (so (afB fu pk v1 v5) (fun v10=>
 sw (v10)
 (some (false,true,false,false,2,false))
 (sw (decide (pk=9))
 (some (false,false,false,false,3,false))
 (sw (decide (pk=11))
 (some (true,false,false,false,1,false))
 (some (false,false,false,true,1,false))))))))))))
theorem afC(fu:Nat):ajH (N9 fu):=by
 intro pk r H
 have H:=fF H
 refine qI Tryz.func296 (fun C hC=>?_)
 refine qS (qR ?_)
 iterate 6 refine q1 aF ?_
 refine qN ?_
 iterate 2 refine qS ?_
 refine qR (q1 aF (qN (aO.block (qS ?_))))
 refine qF (σ:=Bool) (fun v1=>⟨[(2,pB false),(3,pB false),(4,pB false),(5,pB false),(6,pI 0),(7,pB false),(8,pI pk),(9,pB v1)],⟨[],[]⟩⟩) (gW H) (fun H=>?_) ?_
 ·refine qS (qR (q1 eP (q1 aF (qN ?_))))
  refine bH H (fun h2 H=>?_) (fun h2 H=>?_)
  ·refine aO.skip ?_;exact eC ⟨_,(aZ H:),b9⟩
  refine qR (q1 eP (q1 aF (qN ?_)))
  exact eC ⟨_,(aZ H:),b9⟩
 rintro v1 H
 refine bH H (fun h3 H=>?_) (fun h3 H=>?_)
 ·refine qS (qR ?_)
  iterate 6 refine q1 aF ?_
  refine qN (aO.ret ?_)
  cases aZ H
  exact qe (ps:= [_,_,_,_,_,_]) ⟨rfl,rfl⟩ ⟨rfl,rfl,rfl,rfl,rfl,rfl,trivial⟩
 refine qS (qR (q1 eP (q1 aF (qN ?_))))
 refine bH H (fun h4 H=>?_) (fun h4 H=>?_)
 ·refine qS (qR ?_)
  iterate 6 refine q1 aF ?_
  refine qN (aO.ret ?_)
  cases aZ H
  exact qe (ps:= [_,_,_,_,_,_]) ⟨rfl,rfl⟩ ⟨rfl,rfl,rfl,rfl,rfl,rfl,trivial⟩
 refine qS ?_;refine qF (σ:=Bool) (fun v5=>⟨[(2,pB false),(3,pB false),(4,pB false),(5,pB false),(6,pI 0),(7,pB false),(8,pI pk),(14,pB v5)],⟨[],[]⟩⟩) (gW H) (fun H=>?_) ?_
 ·refine qS (qR (q1 eP (q1 aF (qN ?_))))
  refine bH H (fun h6 H=>?_) (fun h6 H=>?_)
  ·refine aO.skip ?_;exact eC ⟨_,(aZ H:),b9⟩
  refine qR (q1 eP (q1 aF (qN ?_)))
  exact eC ⟨_,(aZ H:),b9⟩
 rintro v5 H
 refine bH H (fun h7 H=>?_) (fun h7 H=>?_)
 ·refine qS (qR ?_)
  iterate 6 refine q1 aF ?_
  refine qN (aO.ret ?_)
  cases aZ H
  exact qe (ps:= [_,_,_,_,_,_]) ⟨rfl,rfl⟩ ⟨rfl,rfl,rfl,rfl,rfl,rfl,trivial⟩
 refine qS (qR (q1 eP (q1 aF (qN ?_))))
 refine bH H (fun h8 H=>?_) (fun h8 H=>?_)
 ·refine qS (qR ?_)
  iterate 6 refine q1 aF ?_
  refine qN (aO.ret ?_)
  cases aZ H
  exact qe (ps:= [_,_,_,_,_,_]) ⟨rfl,rfl⟩ ⟨rfl,rfl,rfl,rfl,rfl,rfl,trivial⟩
 refine qS (qR (q1 eP (q1 aF (qN ?_))))
 refine bH H (fun h9 H=>?_) (fun h9 H=>?_)
 ·refine qS (qR ?_)
  iterate 6 refine q1 aF ?_
  refine qN (aO.ret ?_)
  cases aZ H
  exact qe (ps:= [_,_,_,_,_,_]) ⟨rfl,rfl⟩ ⟨rfl,rfl,rfl,rfl,rfl,rfl,trivial⟩
 refine qS ?_;refine qF (σ:=Bool) (fun v10=>⟨[(2,pB false),(3,pB false),(4,pB false),(5,pB false),(6,pI 0),(7,pB false),(8,pI pk),(21,pB v10)],⟨[],[]⟩⟩) (gW H) (fun H=>?_) ?_
 ·refine qS (qR (q1 eP (q1 aF (qN ?_))))
  refine bH H (fun h11 H=>?_) (fun h11 H=>?_)
  ·refine aO.skip ?_;exact eC ⟨_,(aZ H:),b9⟩
  refine qR (q1 eP (q1 aF (qN ?_)))
  exact eC ⟨_,(aZ H:),b9⟩
 rintro v10 H
 refine bH H (fun h12 H=>?_) (fun h12 H=>?_)
 ·refine qS (qR ?_)
  iterate 6 refine q1 aF ?_
  refine qN (aO.ret ?_)
  cases aZ H
  exact qe (ps:= [_,_,_,_,_,_]) ⟨rfl,rfl⟩ ⟨rfl,rfl,rfl,rfl,rfl,rfl,trivial⟩
 refine qS (qR (q1 eP (q1 aF (qN ?_))))
 refine bH H (fun h13 H=>?_) (fun h13 H=>?_)
 ·refine qS (qR ?_)
  iterate 6 refine q1 aF ?_
  refine qN (aO.ret ?_)
  cases aZ H
  exact qe (ps:= [_,_,_,_,_,_]) ⟨rfl,rfl⟩ ⟨rfl,rfl,rfl,rfl,rfl,rfl,trivial⟩
 refine qS (qR (q1 eP (q1 aF (qN ?_))))
 refine bH H (fun h14 H=>?_) (fun h14 H=>?_)
 ·refine qS (qR ?_)
  iterate 6 refine q1 aF ?_
  refine qN (aO.ret ?_)
  cases aZ H
  exact qe (ps:= [_,_,_,_,_,_]) ⟨rfl,rfl⟩ ⟨rfl,rfl,rfl,rfl,rfl,rfl,trivial⟩
 refine aO.skip (qS (qR ?_))
 iterate 6 refine q1 aF ?_
 refine qN (aO.ret ?_)
 cases aZ H
 exact qe (ps:= [_,_,_,_,_,_]) ⟨rfl,rfl⟩ ⟨rfl,rfl,rfl,rfl,rfl,rfl,trivial⟩
def afE(m:ByteArray→Option Bool):Prop:= ∀(ps:ByteArray) (r:Bool),m ps=some r→cA Tryz.prog 297 [pS ps] (pB r:PV)
def J6(fu:Nat)(ps:ByteArray):Option Bool:=
 bd (lV fu ([yZ,DV,MF,MG,MH]:List ByteArray) ps) (fun x2=>
 some x2)
theorem acG(fu:Nat):afE (J6 fu):=by
 intro ps r H
 have H:=fF H
 refine qI Tryz.func297 (fun C hC=>?_)
 refine qS (qR (q1 aF (qN (qS (qR (q1 (iW ([yZ,DV,MF,MG,MH]:List ByteArray) b6 lO) (q1 aF (bU H fun x2 z1 H=>(q1 (bQ Tryz.func125 (nK fu ([yZ,DV,MF,MG,MH]:List ByteArray) ps _ z1)) (q1 aF (qN (aO.ret ?_))))))))))))
 cases aZ H
 exact bR
def afF(m:aA→Option Bool):Prop:= ∀(pt:aA) (r:Bool),m pt=some r→cA Tryz.prog 277 [(aA.pv pt)] (pB r:PV)
def sK(fu:Nat)(pt:aA):Option Bool:=
 sw (decide (pt.gKind=0))
 (sw (decide (pt.gName=s_))
 (some (decide ((pt.gArgs.length:Int)=0)))
 (some false))
 (some false)
theorem vM(fu:Nat):afF (sK fu):=by
 intro pt r H
 have H:=fF H
 refine qI Tryz.func277 (fun C hC=>?_)
 refine qS (qR (q1 (kQ (c5 pt)) (q1 aF (qN (qS (qR (q1 (bC lR) (q1 (bL kZ) (q1 eP (q1 aF ?_))))))))))
 refine eK 6 H (fun g1 H=>?_) fun g1 H=>?_
 ·refine qg g1 (bC kE) (qg g1 (bL fO) (qg g1 JL (q1 (b0 g1) (q1 aF ?_))))
  refine eK 11 H (fun g2 H=>?_) fun g2 H=>?_
  ·refine qg g2 (bC gC) (qg g2 (bL mQ) (qg g2 (eR dX (aA.trs_len _)) (qg g2 eP (q1 (b0 g2) (q1 aF (qN (aO.ret ?_)))))))
   cases aZ H
   exact bR
  iterate 4 refine qk g2 ?_
  refine q1 (cC g2) (q1 aF (qN (aO.ret ?_)))
  cases aZ H
  exact bR
 iterate 3 refine qk g1 ?_
 refine q1 (cC g1) (q1 aF ?_)
 iterate 4 refine qk rfl ?_
 refine q1 (cC rfl) (q1 aF (qN (aO.ret ?_)))
 cases aZ H
 exact bR
abbrev jY:=aH→Option Bool
def CU(m:jY):Prop:= ∀(pa0:aH) (r:Bool),m pa0=some r→cA Tryz.prog 294 [(aH.pv pa0)] (pB r:PV)
def abT(fu:Nat)(r_sl11Form:jY)(pa0:aH)(x2 x3 x4 x5:Bool)(x6:Int)(x7:Bool):Option (Bool⊕Unit):=
 bd (CY fu pa0.gKind 1 12) (fun x9=>
 sw (!(x9))
 (some (.inl false))
 (bd (eB fu pa0.gTrait) (fun x12=>
 sw (!decide (x12=x2))
 (some (.inl false))
 (sw (!(x2))
 (sw (!decide (pa0.gTrait=s_))
 (some (.inl false))
 (sw (!(x4))
 (sw (!decide (pa0.gN=0))
 (some (.inl false))
 (sw (!decide ((decide ((pa0.gArms.length:Int)>0):Bool)=x7))
 (some (.inl false))
 (some (.inr ()))))
 (sw (!decide ((decide ((pa0.gArms.length:Int)>0):Bool)=x7))
 (some (.inl false))
 (some (.inr ())))))
 (sw (!(x4))
 (sw (!decide (pa0.gN=0))
 (some (.inl false))
 (sw (!decide ((decide ((pa0.gArms.length:Int)>0):Bool)=x7))
 (some (.inl false))
 (some (.inr ()))))
 (sw (!decide ((decide ((pa0.gArms.length:Int)>0):Bool)=x7))
 (some (.inl false))
 (some (.inr ()))))))))
def abU(fu:Nat)(r_sl11Form:jY)(pa0:aH)(x2 x3 x4 x5:Bool)(x6:Int)(x7:Bool):Option (Bool⊕Unit):=
 sw (decide (pa0.gKind=10))
 (bd (J6 fu pa0.gName) (fun x26=>
 sw (!(x26))
 (some (.inl false))
 (sw (!decide (pa0.gKind=10))
 (bd (eB fu pa0.gName) (fun x30=>
 sw (!decide (x30=x3))
 (some (.inl false))
 (sw (!(x3))
 (sw (!decide (pa0.gName=s_))
 (some (.inl false))
 (some (.inr ())))
 (some (.inr ())))))
 (some (.inr ())))))
 (sw (!decide (pa0.gKind=10))
 (bd (eB fu pa0.gName) (fun x36=>
 sw (!decide (x36=x3))
 (some (.inl false))
 (sw (!(x3))
 (sw (!decide (pa0.gName=s_))
 (some (.inl false))
 (some (.inr ())))
 (some (.inr ())))))
 (some (.inr ())))
def abV(fu:Nat)(r_sl11Form:jY)(pa0:aH)(x2 x3 x4 x5:Bool)(x6:Int)(x7:Bool):Option (Bool⊕Unit):=
 sw (decide (x6≥0))
 (sw (!decide ((pa0.gArgs.length:Int)=x6))
 (some (.inl false))
 (sw (decide (pa0.gKind=5))
 (sw (decide ((pa0.gArgs.length:Int)=0))
 (some (.inl false))
 (sw (x5)
 (bd (kL fu pa0.gType) (fun x46=>
 sw (!(x46))
 (some (.inl false))
 (some (.inr ()))))
 (bd (sK fu pa0.gType) (fun x49=>
 sw (!(x49))
 (some (.inl false))
 (some (.inr ()))))))
 (sw (x5)
 (bd (kL fu pa0.gType) (fun x53=>
 sw (!(x53))
 (some (.inl false))
 (some (.inr ()))))
 (bd (sK fu pa0.gType) (fun x56=>
 sw (!(x56))
 (some (.inl false))
 (some (.inr ())))))))
 (sw (decide (pa0.gKind=5))
 (sw (decide ((pa0.gArgs.length:Int)=0))
 (some (.inl false))
 (sw (x5)
 (bd (kL fu pa0.gType) (fun x62=>
 sw (!(x62))
 (some (.inl false))
 (some (.inr ()))))
 (bd (sK fu pa0.gType) (fun x65=>
 sw (!(x65))
 (some (.inl false))
 (some (.inr ()))))))
 (sw (x5)
 (bd (kL fu pa0.gType) (fun x69=>
 sw (!(x69))
 (some (.inl false))
 (some (.inr ()))))
 (bd (sK fu pa0.gType) (fun x72=>
 sw (!(x72))
 (some (.inl false))
 (some (.inr ()))))))
def abW(fu:Nat)(r_sl11Form:jY)(pa0:aH)(x2 x3 x4 x5:Bool)(x6:Int)(x7:Bool):Option (Bool⊕Unit):=
 sw (decide (pa0.gKind=1))
 (bd (CY fu pa0.gN (-999999) 999999) (fun x76=>
 sw (!(x76))
 (some (.inl false))
 (some (.inr ()))))
 (sw (decide (pa0.gKind=2))
 (bd (CY fu pa0.gN 0 1) (fun x80=>
 sw (!(x80))
 (some (.inl false))
 (some (.inr ()))))
 (some (.inr ())))
def abX(fu:Nat)(r_sl11Form:jY)(pa0:aH)(x2 x3 x4 x5:Bool)(x6:Int)(x7:Bool):Nat→Unit→Option (LR Unit Bool):=
 fun i82 _=>lt (bB pa0.gArgs i82) (fun y85=>
 bd (r_sl11Form y85) (fun x88=>
 sw (!(x88))
 (some (.ret false))
 (some (.next ()))))
def abZ(fu:Nat)(r_sl11Form:jY)(pa0:aH)(x2 x3 x4 x5:Bool)(x6:Int)(x7:Bool):Option (Bool⊕Unit):=
 loopN (abX fu r_sl11Form pa0 x2 x3 x4 x5 x6 x7) (pa0.gArgs.length-0) 0 ()
def abY(fu:Nat)(r_sl11Form:jY)(pa0:aH)(x2 x3 x4 x5:Bool)(x6:Int)(x7:Bool):Nat→Unit→Option (LR Unit Bool):=
 fun i90 _=>lt (bB pa0.gArms i90) (fun y93=>
 bd (eB fu y93.gConstructor) (fun x96=>
 sw (!(x96))
 (some (.ret false))
 (bd (C1 fu y93.gVars) (fun x99=>
 sw (!(x99))
 (some (.ret false))
 (bd (kK fu y93.gVars) (fun x102=>
 sw (!(x102))
 (some (.ret false))
 (bd (r_sl11Form y93.gBody) (fun x105=>
 sw (!(x105))
 (some (.ret false))
 (some (.next ()))))))))))
def ab0(fu:Nat)(r_sl11Form:jY)(pa0:aH)(x2 x3 x4 x5:Bool)(x6:Int)(x7:Bool):Option (Bool⊕Unit):=
 loopN (abY fu r_sl11Form pa0 x2 x3 x4 x5 x6 x7) (pa0.gArms.length-0) 0 ()
def J3(fu:Nat)(r_sl11Form:jY)(pa0:aH):Option Bool:=
 bd (N9 fu pa0.gKind) (fun(x2,x3,x4,x5,x6,x7)=>
 so (abT fu r_sl11Form pa0 x2 x3 x4 x5 x6 x7) (fun _=>
 so (abU fu r_sl11Form pa0 x2 x3 x4 x5 x6 x7) (fun _=>
 so (abV fu r_sl11Form pa0 x2 x3 x4 x5 x6 x7) (fun _=>
 so (abW fu r_sl11Form pa0 x2 x3 x4 x5 x6 x7) (fun _=>
 so (abZ fu r_sl11Form pa0 x2 x3 x4 x5 x6 x7) (fun _=>
 so (ab0 fu r_sl11Form pa0 x2 x3 x4 x5 x6 x7) (fun _=>
 some true)))))))
theorem VV(fu:Nat)(r_sl11Form:jY)(h_sl11Form:CU r_sl11Form):CU (J3 fu r_sl11Form):=by
 intro pa0 r H
 have H:=fF H
 refine qI Tryz.func294 (fun C hC=>?_)
 refine qS (qR (q1 (kQ (iR pa0)) (q1 aF (qN (qS (qR (q1 (bC rX) (q1 (bL kZ) ?_))))))))
 obtain⟨⟨x2,x3,x4,x5,x6,x7⟩,z1,H⟩:=bdI H
 refine q1 (bQ Tryz.func296 (afC fu pa0.gKind _ z1)) (q1 aF ?_)
 iterate 6 refine q1 BH ?_
 iterate 6 refine q1 aF ?_
 refine qN (qS ?_)
 refine qF (σ:=Unit) (fun _=>⟨[(1,.ptr 0 0),(2,pB false),(4,pB x3),(6,pB x5),(7,pI x6)],⟨[some ⟨87,iR pa0⟩],[]⟩⟩) (gW H) (fun H=>?_) ?_
 ·refine qS (qR (q1 (bC rX) (q1 (bL kZ) (bU H fun x9 z8 H=>(q1 (bQ Tryz.func108 (FA fu pa0.gKind 1 12 _ z8)) (q1 iS (q1 aF ?_)))))))
  refine eK 26 H (fun g10 H=>?_) fun g10 H=>?_
  ·refine qk g10 ?_
   iterate 4 refine qk g10 ?_
   refine q1 (b0 g10) (q1 aF ?_)
   iterate 3 refine qk rfl ?_
   iterate 3 refine IF ?_
   refine qk rfl (q1 (b0 rfl) (q1 aF ?_))
   iterate 3 refine qk rfl ?_
   iterate 3 refine IF ?_
   refine qk rfl (q1 (b0 rfl) (q1 aF ?_))
   iterate 6 refine qk rfl ?_
   refine q1 (b0 rfl) (qN (eM rfl (qS (qR (q1 aF (qN (aO.ret ?_)))))))
   obtain rfl:_=r:=(F3 (aZ H):)
   exact bR
  refine qg g10 (bC MZ) (qg g10 (bL fO) (bU H fun x12 z11 H=>(qg g10 (bQ Tryz.func235 (eJ fu pa0.gTrait _ z11)) (qg g10 aF (qg g10 (aV.neqB rfl rfl rfl rfl Tryz.underlying4) (q1 (cC g10) (q1 aF ?_)))))))
  refine eK 33 H (fun g13 H=>?_) fun g13 H=>?_
  ·refine qk g13 ?_
   iterate 2 refine qk g13 ?_
   iterate 3 refine IF ?_
   refine qk g13 (q1 (b0 g13) (q1 aF ?_))
   iterate 3 refine qk rfl ?_
   iterate 3 refine IF ?_
   refine qk rfl (q1 (b0 rfl) (q1 aF ?_))
   iterate 6 refine qk rfl ?_
   refine q1 (b0 rfl) (qN (eM rfl (qS (qR (q1 aF (qN (aO.ret ?_)))))))
   obtain rfl:_=r:=(F3 (aZ H):)
   exact bR
  refine qg g13 aF (qg g13 iS (qg g13 aF ?_))
  refine eK 36 H (fun g14 H=>?_) fun g14 H=>?_
  ·refine qg g14 (bC MZ) (qg g14 (bL fO) (qg g14 SP (qg g13 (b0 g14) (q1 (cC g13) (q1 aF ?_)))))
   refine eK 42 H (fun g15 H=>?_) fun g15 H=>?_
   ·refine qk g15 ?_
    iterate 2 refine qk g15 ?_
    iterate 3 refine IF ?_
    refine qk g15 (q1 (b0 g15) (q1 aF ?_))
    iterate 6 refine qk rfl ?_
    refine q1 (b0 rfl) (qN (eM rfl (qS (qR (q1 aF (qN (aO.ret ?_)))))))
    obtain rfl:_=r:=(F3 (aZ H):)
    exact bR
   refine qg g15 aF (qg g15 iS (qg g15 aF ?_))
   refine eK 45 H (fun g16 H=>?_) fun g16 H=>?_
   ·refine qg g16 (bC EA) (qg g16 (bL kZ) (qg g16 MJ (qg g15 (b0 g16) (q1 (cC g15) (q1 aF ?_)))))
    refine eK 51 H (fun g17 H=>?_) fun g17 H=>?_
    ·refine qk g17 ?_
     iterate 5 refine qk g17 ?_
     refine q1 (b0 g17) (qN (eM rfl (qS (qR (q1 aF (qN (aO.ret ?_)))))))
     obtain rfl:_=r:=(F3 (aZ H):)
     exact bR
    refine qg g17 (bC gY) (qg g17 (bL sI) (qg g17 (eR pJ (bM.trs_len _)) (qg g17 MI (qg g17 aF (qg g17 (aV.neqB rfl rfl rfl rfl Tryz.underlying4) (q1 (cC g17) (qN ?_)))))))
    refine bH H (fun h18 H=>?_) (fun h18 H=>?_)
    ·refine qS (qR (q1 aF (qN (aO.ret ?_))))
     obtain rfl:_=r:=(F3 (aZ H):)
     exact bR
    refine aO.skip ?_;exact eC ⟨_,(aZ H:),b9⟩
   iterate 3 refine qk g16 ?_
   refine qg g15 (cC g16) (q1 (cC g15) (q1 aF (qg rfl (bC gY) (qg rfl (bL sI) (qg rfl (eR pJ (bM.trs_len _)) (qg rfl MI (qg rfl aF (qg rfl (aV.neqB rfl rfl rfl rfl Tryz.underlying4) (q1 (cC rfl) (qN ?_))))))))))
   refine bH H (fun h19 H=>?_) (fun h19 H=>?_)
   ·refine qS (qR (q1 aF (qN (aO.ret ?_))))
    obtain rfl:_=r:=(F3 (aZ H):)
    exact bR
   refine aO.skip ?_;exact eC ⟨_,(aZ H:),b9⟩
  iterate 3 refine qk g14 ?_
  refine qg g13 (cC g14) (q1 (cC g13) (q1 aF (qg rfl aF (qg rfl iS (qg rfl aF ?_)))))
  refine eK 45 H (fun g20 H=>?_) fun g20 H=>?_
  ·refine qg g20 (bC EA) (qg g20 (bL kZ) (qg g20 MJ (qg rfl (b0 g20) (q1 (cC rfl) (q1 aF ?_)))))
   refine eK 51 H (fun g21 H=>?_) fun g21 H=>?_
   ·refine qk g21 ?_
    iterate 5 refine qk g21 ?_
    refine q1 (b0 g21) (qN (eM rfl (qS (qR (q1 aF (qN (aO.ret ?_)))))))
    obtain rfl:_=r:=(F3 (aZ H):)
    exact bR
   refine qg g21 (bC gY) (qg g21 (bL sI) (qg g21 (eR pJ (bM.trs_len _)) (qg g21 MI (qg g21 aF (qg g21 (aV.neqB rfl rfl rfl rfl Tryz.underlying4) (q1 (cC g21) (qN ?_)))))))
   refine bH H (fun h22 H=>?_) (fun h22 H=>?_)
   ·refine qS (qR (q1 aF (qN (aO.ret ?_))))
    obtain rfl:_=r:=(F3 (aZ H):)
    exact bR
   refine aO.skip ?_;exact eC ⟨_,(aZ H:),b9⟩
  iterate 3 refine qk g20 ?_
  refine qg rfl (cC g20) (q1 (cC rfl) (q1 aF (qg rfl (bC gY) (qg rfl (bL sI) (qg rfl (eR pJ (bM.trs_len _)) (qg rfl MI (qg rfl aF (qg rfl (aV.neqB rfl rfl rfl rfl Tryz.underlying4) (q1 (cC rfl) (qN ?_))))))))))
  refine bH H (fun h23 H=>?_) (fun h23 H=>?_)
  ·refine qS (qR (q1 aF (qN (aO.ret ?_))))
   obtain rfl:_=r:=(F3 (aZ H):)
   exact bR
  refine aO.skip ?_;exact eC ⟨_,(aZ H:),b9⟩
 rintro⟨⟩ H
 refine qS ?_;refine qF (σ:=Unit) (fun _=>⟨[(1,.ptr 0 0),(2,pB false),(6,pB x5),(7,pI x6)],⟨[some ⟨87,iR pa0⟩],[]⟩⟩) (gW H) (fun H=>?_) ?_
 ·refine qS (qR (q1 (bC rX) (q1 (bL kZ) (q1 eP (q1 aF ?_)))))
  refine eK 62 H (fun g24 H=>?_) fun g24 H=>?_
  ·refine qg g24 (bC pR) (qg g24 (bL fO) (bU H fun x26 z25 H=>(qg g24 (bQ Tryz.func297 (acG fu pa0.gName _ z25)) (qg g24 iS (q1 (b0 g24) (q1 aF ?_))))))
   refine eK 68 H (fun g27 H=>?_) fun g27 H=>?_
   ·refine qk g27 ?_
    iterate 3 refine qk g27 ?_
    iterate 14 refine IF ?_
    refine qk g27 (q1 (b0 g27) (qN (eM rfl (qS (qR (q1 aF (qN (aO.ret ?_))))))))
    obtain rfl:_=r:=(F3 (aZ H):)
    exact bR
   refine qg g27 (bC rX) (qg g27 (bL kZ) (qg g27 MJ (qg g27 aF ?_)))
   refine eK 72 H (fun g28 H=>?_) fun g28 H=>?_
   ·refine qg g28 (bC pR) (qg g28 (bL fO) (bU H fun x30 z29 H=>(qg g28 (bQ Tryz.func235 (eJ fu pa0.gName _ z29)) (qg g28 aF (qg g28 (aV.neqB rfl rfl rfl rfl Tryz.underlying4) (qg g28 aF ?_))))))
    refine eK 78 H (fun g31 H=>?_) fun g31 H=>?_
    ·refine qk g31 ?_
     iterate 2 refine qk g31 ?_
     iterate 3 refine IF ?_
     refine qk g31 (qg g28 (b0 g31) (qg g27 (b0 g28) (q1 (cC g27) (qN (eM rfl (qS (qR (q1 aF (qN (aO.ret ?_))))))))))
     obtain rfl:_=r:=(F3 (aZ H):)
     exact bR
    refine qg g31 aF (qg g31 iS (qg g31 aF ?_))
    refine eK 81 H (fun g32 H=>?_) fun g32 H=>?_
    ·refine qg g32 (bC pR) (qg g32 (bL fO) (qg g32 SP (qg g31 (b0 g32) (qg g28 (cC g31) (qg g27 (b0 g28) (q1 (cC g27) (qN ?_)))))))
     refine bH H (fun h33 H=>?_) (fun h33 H=>?_)
     ·refine qS (qR (q1 aF (qN (aO.ret ?_))))
      obtain rfl:_=r:=(F3 (aZ H):)
      exact bR
     refine aO.skip ?_;exact eC ⟨_,(aZ H:),b9⟩
    iterate 3 refine qk g32 ?_
    refine qg g31 (cC g32) (qg g28 (cC g31) (qg g27 (b0 g28) (q1 (cC g27) (qN (kP rfl (aO.skip ?_))))))
    exact eC ⟨_,(aZ H:),b9⟩
   iterate 6 refine qk g28 ?_
   iterate 7 refine IF ?_
   refine qk g28 (qg g27 (cC g28) (q1 (cC g27) (qN (kP rfl (aO.skip ?_)))))
   exact eC ⟨_,(aZ H:),b9⟩
  iterate 4 refine qk g24 ?_
  refine q1 (cC g24) (q1 aF (qg rfl (bC rX) (qg rfl (bL kZ) (qg rfl MJ (qg rfl aF ?_)))))
  refine eK 72 H (fun g34 H=>?_) fun g34 H=>?_
  ·refine qg g34 (bC pR) (qg g34 (bL fO) (bU H fun x36 z35 H=>(qg g34 (bQ Tryz.func235 (eJ fu pa0.gName _ z35)) (qg g34 aF (qg g34 (aV.neqB rfl rfl rfl rfl Tryz.underlying4) (qg g34 aF ?_))))))
   refine eK 78 H (fun g37 H=>?_) fun g37 H=>?_
   ·refine qk g37 ?_
    iterate 2 refine qk g37 ?_
    iterate 3 refine IF ?_
    refine qk g37 (qg g34 (b0 g37) (qg rfl (b0 g34) (q1 (cC rfl) (qN (eM rfl (qS (qR (q1 aF (qN (aO.ret ?_))))))))))
    obtain rfl:_=r:=(F3 (aZ H):)
    exact bR
   refine qg g37 aF (qg g37 iS (qg g37 aF ?_))
   refine eK 81 H (fun g38 H=>?_) fun g38 H=>?_
   ·refine qg g38 (bC pR) (qg g38 (bL fO) (qg g38 SP (qg g37 (b0 g38) (qg g34 (cC g37) (qg rfl (b0 g34) (q1 (cC rfl) (qN ?_)))))))
    refine bH H (fun h39 H=>?_) (fun h39 H=>?_)
    ·refine qS (qR (q1 aF (qN (aO.ret ?_))))
     obtain rfl:_=r:=(F3 (aZ H):)
     exact bR
    refine aO.skip ?_;exact eC ⟨_,(aZ H:),b9⟩
   iterate 3 refine qk g38 ?_
   refine qg g37 (cC g38) (qg g34 (cC g37) (qg rfl (b0 g34) (q1 (cC rfl) (qN (kP rfl (aO.skip ?_))))))
   exact eC ⟨_,(aZ H:),b9⟩
  iterate 6 refine qk g34 ?_
  iterate 7 refine IF ?_
  refine qk g34 (qg rfl (cC g34) (q1 (cC rfl) (qN (kP rfl (aO.skip ?_)))))
  exact eC ⟨_,(aZ H:),b9⟩
 rintro⟨⟩ H
 refine qS ?_;refine qF (σ:=Unit) (fun _=>⟨[(1,.ptr 0 0),(2,pB false)],⟨[some ⟨87,iR pa0⟩],[]⟩⟩) (gW H) (fun H=>?_) ?_
 ·refine qS (qR (q1 aF (q1 UH (q1 aF ?_))))
  refine eK 91 H (fun g40 H=>?_) fun g40 H=>?_
  ·refine qg g40 (bC jP) (qg g40 (bL vL) (qg g40 (eR m3 (aH.trs_len _)) (qg g40 aF (qg g40 MJ (q1 (b0 g40) (q1 aF ?_))))))
   refine eK 98 H (fun g41 H=>?_) fun g41 H=>?_
   ·refine qk g41 ?_
    iterate 3 refine qk g41 ?_
    iterate 4 refine IF ?_
    refine qk g41 (q1 (b0 g41) (q1 aF ?_))
    iterate 2 refine qk rfl ?_
    iterate 4 refine IF ?_
    refine qk rfl (q1 (b0 rfl) (q1 aF ?_))
    iterate 3 refine qk rfl ?_
    iterate 4 refine IF ?_
    refine qk rfl (q1 (b0 rfl) (qN (eM rfl (qS (qR (q1 aF (qN (aO.ret ?_))))))))
    obtain rfl:_=r:=(F3 (aZ H):)
    exact bR
   refine qg g41 (bC rX) (qg g41 (bL kZ) (qg g41 eP (qg g41 aF ?_)))
   refine eK 102 H (fun g42 H=>?_) fun g42 H=>?_
   ·refine qg g42 (bC jP) (qg g42 (bL vL) (qg g42 (eR m3 (aH.trs_len _)) (qg g42 eP (qg g41 (b0 g42) (q1 (cC g41) (q1 aF ?_))))))
    refine eK 109 H (fun g43 H=>?_) fun g43 H=>?_
    ·refine qk g43 (qk g43 ?_)
     iterate 4 refine IF ?_
     refine qk g43 (q1 (b0 g43) (q1 aF ?_))
     iterate 3 refine qk rfl ?_
     iterate 4 refine IF ?_
     refine qk rfl (q1 (b0 rfl) (qN (eM rfl (qS (qR (q1 aF (qN (aO.ret ?_))))))))
     obtain rfl:_=r:=(F3 (aZ H):)
     exact bR
    iterate 2 refine qg g43 aF ?_
    refine eK 111 H (fun g44 H=>?_) fun g44 H=>?_
    ·refine qg g44 (bC t5) (qg g44 (cY [pI pa0.gType.gKind,pS pa0.gType.gName,aW pa0.gType.gArgs] b8) (bU H fun x46 z45 H=>(qg g44 (bQ Tryz.func284 (l4 fu pa0.gType _ z45)) (qg g44 iS (qg g43 (b0 g44) (q1 (cC g43) (q1 aF ?_)))))))
     refine eK 118 H (fun g47 H=>?_) fun g47 H=>?_
     ·refine qk g47 ?_
      iterate 2 refine qk g47 ?_
      iterate 4 refine IF ?_
      refine qk g47 (q1 (b0 g47) (qN (eM rfl (qS (qR (q1 aF (qN (aO.ret ?_))))))))
      obtain rfl:_=r:=(F3 (aZ H):)
      exact bR
     refine qg g47 aF (qg g47 iS (qg g47 aF ?_))
     iterate 4 refine qk (congrArg (fun b=> !b) g44) ?_
     refine qg g47 (cC (congrArg (fun b=> !b) g44)) (q1 (cC g47) (qN (kP rfl (aO.skip ?_))))
     exact eC ⟨_,(aZ H:),b9⟩
    iterate 4 refine qk g44 ?_
    refine qg g43 (cC g44) (q1 (cC g43) (q1 aF (qg rfl aF (qg rfl iS (qg rfl aF (qg (congrArg (fun b=> !b) g44) (bC t5) (qg (congrArg (fun b=> !b) g44) (cY [pI pa0.gType.gKind,pS pa0.gType.gName,aW pa0.gType.gArgs] b8) (bU H fun x49 z48 H=>(qg (congrArg (fun b=> !b) g44) (bQ Tryz.func277 (vM fu pa0.gType _ z48)) (qg (congrArg (fun b=> !b) g44) iS (qg rfl (b0 (congrArg (fun b=> !b) g44)) (q1 (cC rfl) (qN ?_)))))))))))))
    refine bH H (fun h50 H=>?_) (fun h50 H=>?_)
    ·refine qS (qR (q1 aF (qN (aO.ret ?_))))
     obtain rfl:_=r:=(F3 (aZ H):)
     exact bR
    refine aO.skip ?_;exact eC ⟨_,(aZ H:),b9⟩
   iterate 4 refine qk g42 ?_
   refine qg g41 (cC g42) (q1 (cC g41) (q1 aF ?_))
   iterate 2 refine qg rfl aF ?_
   refine eK 111 H (fun g51 H=>?_) fun g51 H=>?_
   ·refine qg g51 (bC t5) (qg g51 (cY [pI pa0.gType.gKind,pS pa0.gType.gName,aW pa0.gType.gArgs] b8) (bU H fun x53 z52 H=>(qg g51 (bQ Tryz.func284 (l4 fu pa0.gType _ z52)) (qg g51 iS (qg rfl (b0 g51) (q1 (cC rfl) (q1 aF ?_)))))))
    refine eK 118 H (fun g54 H=>?_) fun g54 H=>?_
    ·refine qk g54 ?_
     iterate 2 refine qk g54 ?_
     iterate 4 refine IF ?_
     refine qk g54 (q1 (b0 g54) (qN (eM rfl (qS (qR (q1 aF (qN (aO.ret ?_))))))))
     obtain rfl:_=r:=(F3 (aZ H):)
     exact bR
    refine qg g54 aF (qg g54 iS (qg g54 aF ?_))
    iterate 4 refine qk (congrArg (fun b=> !b) g51) ?_
    refine qg g54 (cC (congrArg (fun b=> !b) g51)) (q1 (cC g54) (qN (kP rfl (aO.skip ?_))))
    exact eC ⟨_,(aZ H:),b9⟩
   iterate 4 refine qk g51 ?_
   refine qg rfl (cC g51) (q1 (cC rfl) (q1 aF (qg rfl aF (qg rfl iS (qg rfl aF (qg (congrArg (fun b=> !b) g51) (bC t5) (qg (congrArg (fun b=> !b) g51) (cY [pI pa0.gType.gKind,pS pa0.gType.gName,aW pa0.gType.gArgs] b8) (bU H fun x56 z55 H=>(qg (congrArg (fun b=> !b) g51) (bQ Tryz.func277 (vM fu pa0.gType _ z55)) (qg (congrArg (fun b=> !b) g51) iS (qg rfl (b0 (congrArg (fun b=> !b) g51)) (q1 (cC rfl) (qN ?_)))))))))))))
   refine bH H (fun h57 H=>?_) (fun h57 H=>?_)
   ·refine qS (qR (q1 aF (qN (aO.ret ?_))))
    obtain rfl:_=r:=(F3 (aZ H):)
    exact bR
   refine aO.skip ?_;exact eC ⟨_,(aZ H:),b9⟩
  iterate 5 refine qk g40 ?_
  refine q1 (cC g40) (q1 aF (qg rfl (bC rX) (qg rfl (bL kZ) (qg rfl eP (qg rfl aF ?_)))))
  refine eK 102 H (fun g58 H=>?_) fun g58 H=>?_
  ·refine qg g58 (bC jP) (qg g58 (bL vL) (qg g58 (eR m3 (aH.trs_len _)) (qg g58 eP (qg rfl (b0 g58) (q1 (cC rfl) (q1 aF ?_))))))
   refine eK 109 H (fun g59 H=>?_) fun g59 H=>?_
   ·refine qk g59 (qk g59 ?_)
    iterate 4 refine IF ?_
    refine qk g59 (q1 (b0 g59) (q1 aF ?_))
    iterate 3 refine qk rfl ?_
    iterate 4 refine IF ?_
    refine qk rfl (q1 (b0 rfl) (qN (eM rfl (qS (qR (q1 aF (qN (aO.ret ?_))))))))
    obtain rfl:_=r:=(F3 (aZ H):)
    exact bR
   iterate 2 refine qg g59 aF ?_
   refine eK 111 H (fun g60 H=>?_) fun g60 H=>?_
   ·refine qg g60 (bC t5) (qg g60 (cY [pI pa0.gType.gKind,pS pa0.gType.gName,aW pa0.gType.gArgs] b8) (bU H fun x62 z61 H=>(qg g60 (bQ Tryz.func284 (l4 fu pa0.gType _ z61)) (qg g60 iS (qg g59 (b0 g60) (q1 (cC g59) (q1 aF ?_)))))))
    refine eK 118 H (fun g63 H=>?_) fun g63 H=>?_
    ·refine qk g63 ?_
     iterate 2 refine qk g63 ?_
     iterate 4 refine IF ?_
     refine qk g63 (q1 (b0 g63) (qN (eM rfl (qS (qR (q1 aF (qN (aO.ret ?_))))))))
     obtain rfl:_=r:=(F3 (aZ H):)
     exact bR
    refine qg g63 aF (qg g63 iS (qg g63 aF ?_))
    iterate 4 refine qk (congrArg (fun b=> !b) g60) ?_
    refine qg g63 (cC (congrArg (fun b=> !b) g60)) (q1 (cC g63) (qN (kP rfl (aO.skip ?_))))
    exact eC ⟨_,(aZ H:),b9⟩
   iterate 4 refine qk g60 ?_
   refine qg g59 (cC g60) (q1 (cC g59) (q1 aF (qg rfl aF (qg rfl iS (qg rfl aF (qg (congrArg (fun b=> !b) g60) (bC t5) (qg (congrArg (fun b=> !b) g60) (cY [pI pa0.gType.gKind,pS pa0.gType.gName,aW pa0.gType.gArgs] b8) (bU H fun x65 z64 H=>(qg (congrArg (fun b=> !b) g60) (bQ Tryz.func277 (vM fu pa0.gType _ z64)) (qg (congrArg (fun b=> !b) g60) iS (qg rfl (b0 (congrArg (fun b=> !b) g60)) (q1 (cC rfl) (qN ?_)))))))))))))
   refine bH H (fun h66 H=>?_) (fun h66 H=>?_)
   ·refine qS (qR (q1 aF (qN (aO.ret ?_))))
    obtain rfl:_=r:=(F3 (aZ H):)
    exact bR
   refine aO.skip ?_;exact eC ⟨_,(aZ H:),b9⟩
  iterate 4 refine qk g58 ?_
  refine qg rfl (cC g58) (q1 (cC rfl) (q1 aF ?_))
  iterate 2 refine qg rfl aF ?_
  refine eK 111 H (fun g67 H=>?_) fun g67 H=>?_
  ·refine qg g67 (bC t5) (qg g67 (cY [pI pa0.gType.gKind,pS pa0.gType.gName,aW pa0.gType.gArgs] b8) (bU H fun x69 z68 H=>(qg g67 (bQ Tryz.func284 (l4 fu pa0.gType _ z68)) (qg g67 iS (qg rfl (b0 g67) (q1 (cC rfl) (q1 aF ?_)))))))
   refine eK 118 H (fun g70 H=>?_) fun g70 H=>?_
   ·refine qk g70 ?_
    iterate 2 refine qk g70 ?_
    iterate 4 refine IF ?_
    refine qk g70 (q1 (b0 g70) (qN (eM rfl (qS (qR (q1 aF (qN (aO.ret ?_))))))))
    obtain rfl:_=r:=(F3 (aZ H):)
    exact bR
   refine qg g70 aF (qg g70 iS (qg g70 aF ?_))
   iterate 4 refine qk (congrArg (fun b=> !b) g67) ?_
   refine qg g70 (cC (congrArg (fun b=> !b) g67)) (q1 (cC g70) (qN (kP rfl (aO.skip ?_))))
   exact eC ⟨_,(aZ H:),b9⟩
  iterate 4 refine qk g67 ?_
  refine qg rfl (cC g67) (q1 (cC rfl) (q1 aF (qg rfl aF (qg rfl iS (qg rfl aF (qg (congrArg (fun b=> !b) g67) (bC t5) (qg (congrArg (fun b=> !b) g67) (cY [pI pa0.gType.gKind,pS pa0.gType.gName,aW pa0.gType.gArgs] b8) (bU H fun x72 z71 H=>(qg (congrArg (fun b=> !b) g67) (bQ Tryz.func277 (vM fu pa0.gType _ z71)) (qg (congrArg (fun b=> !b) g67) iS (qg rfl (b0 (congrArg (fun b=> !b) g67)) (q1 (cC rfl) (qN ?_)))))))))))))
  refine bH H (fun h73 H=>?_) (fun h73 H=>?_)
  ·refine qS (qR (q1 aF (qN (aO.ret ?_))))
   obtain rfl:_=r:=(F3 (aZ H):)
   exact bR
  refine aO.skip ?_;exact eC ⟨_,(aZ H:),b9⟩
 rintro⟨⟩ H
 refine qS ?_;refine qF (σ:=Unit) (fun _=>⟨[(1,.ptr 0 0),(2,pB false)],⟨[some ⟨87,iR pa0⟩],[]⟩⟩) (gW H) (fun H=>?_) ?_
 ·refine qS (qR (q1 (bC rX) (q1 (bL kZ) (q1 eP (q1 aF ?_)))))
  refine eK 131 H (fun g74 H=>?_) fun g74 H=>?_
  ·refine qg g74 (bC EA) (qg g74 (bL kZ) (bU H fun x76 z75 H=>(qg g74 (bQ Tryz.func108 (FA fu pa0.gN (-999999) 999999 _ z75)) (qg g74 iS (q1 (b0 g74) (q1 aF ?_))))))
   refine eK 137 H (fun g77 H=>?_) fun g77 H=>?_
   ·refine qk g77 ?_
    iterate 3 refine qk g77 ?_
    iterate 4 refine IF ?_
    refine qk g77 (q1 (b0 g77) (qN (eM rfl (qS (qR (q1 aF (qN (aO.ret ?_))))))))
    obtain rfl:_=r:=(F3 (aZ H):)
    exact bR
   refine qg g77 (bC rX) (qg g77 (bL kZ) (qg g77 eP (qg g77 aF ?_)))
   iterate 4 refine qk (dne (b:=2) g74 (by decide)) ?_
   refine qg g77 (cC (dne (b:=2) g74 (by decide))) (q1 (cC g77) (qN (kP rfl (aO.skip ?_))))
   exact eC ⟨_,(aZ H:),b9⟩
  iterate 4 refine qk g74 ?_
  refine q1 (cC g74) (q1 aF (qg rfl (bC rX) (qg rfl (bL kZ) (qg rfl eP (qg rfl aF ?_)))))
  refine eK 141 H (fun g78 H=>?_) fun g78 H=>?_
  ·refine qg g78 (bC EA) (qg g78 (bL kZ) (bU H fun x80 z79 H=>(qg g78 (bQ Tryz.func108 (FA fu pa0.gN 0 1 _ z79)) (qg g78 iS (qg rfl (b0 g78) (q1 (cC rfl) (qN ?_)))))))
   refine bH H (fun h81 H=>?_) (fun h81 H=>?_)
   ·refine qS (qR (q1 aF (qN (aO.ret ?_))))
    obtain rfl:_=r:=(F3 (aZ H):)
    exact bR
   refine aO.skip ?_;exact eC ⟨_,(aZ H:),b9⟩
  iterate 4 refine qk g78 ?_
  refine qg rfl (cC g78) (q1 (cC rfl) (qN (kP rfl (aO.skip ?_))))
  exact eC ⟨_,(aZ H:),b9⟩
 rintro⟨⟩ H
 iterate 2 refine qS ?_
 refine qR (q1 aF (qN ?_))
 refine aO.fact (c3 0 7 rfl rfl rfl (aH.trs_len _)) (fun hl83=>?_)
 refine cM (σ:=Unit) (fun i82 _=>⟨[(1,.ptr 0 0),(2,pB false),(9,pN i82)],⟨[some ⟨87,iR pa0⟩],[]⟩⟩) (fun _=>⟨[(1,.ptr 0 0),(2,pB false)],⟨[some ⟨87,iR pa0⟩],[]⟩⟩) (gW H) ?_ ?_
 ·rintro i82 ⟨⟩ H
  iterate 2 refine qS ?_
  refine qR (q1 aF (q1 (bC jP) (q1 (bL vL) (q1 (eR m3 (aH.trs_len _)) (q1 iQ (qN ?_))))))
  refine eO H (fun h84 h84l H=>?_) (fun h84 H=>?_)
  ·have h84n:=bF h84
   refine aO.skip (qS (aO.block (qS (qR (q1 (bC jP) (q1 (bL vL) (q1 aF (gU H fun y85 h86 H=>(q1 (yI h86 h84n m3) (q1 (lB (aH.cs y85) iH) (bU H fun x88 z87 H=>(q1 (bQ Tryz.func294 (h_sl11Form y85 _ z87)) (q1 iS ?_)))))))))))))
   refine qN ?_;refine bH H (fun h89 H=>?_) (fun h89 H=>?_)
   ·refine qS (qR (q1 aF (qN (aO.ret ?_))))
    obtain rfl:_=r:=(rK (aZ H):)
    exact bR
   refine aO.skip (qR (q1 aF (q1 (aV.addI rfl rfl rfl rfl (c:=((i82+1:Nat):Int)) (by omega) (by omega)) (q1 aF (qN ?_)))))
   exact j8 h84l ⟨_,(aZ H:),b9⟩
  refine aO.exit ?_;exact lP ⟨_,H,b9⟩
 rintro⟨⟩ H
 iterate 2 refine qS ?_
 refine qR (q1 aF (qN ?_))
 refine aO.fact (c3 0 8 rfl rfl rfl (bM.trs_len _)) (fun hl91=>?_)
 refine cM (σ:=Unit) (fun i90 _=>⟨[(1,.ptr 0 0),(2,pB false),(10,pN i90)],⟨[some ⟨87,iR pa0⟩],[]⟩⟩) (fun _=>⟨[(2,pB false)],⟨[some ⟨87,iR pa0⟩],[]⟩⟩) (gW H) ?_ ?_
 ·rintro i90 ⟨⟩ H
  iterate 2 refine qS ?_
  refine qR (q1 aF (q1 (bC gY) (q1 (bL sI) (q1 (eR pJ (bM.trs_len _)) (q1 iQ (qN ?_))))))
  refine eO H (fun h92 h92l H=>?_) (fun h92 H=>?_)
  ·have h92n:=bF h92
   refine aO.skip (qS (aO.block (qS (qR (q1 (bC gY) (q1 (bL sI) (q1 aF (gU H fun y93 h94 H=>(q1 (yI h94 h92n pJ) (q1 (lB (bM.cs y93) alG) (q1 (iG UG) (q1 (b3 akC) (qN ?_)))))))))))))
   refine qS (qR (q1 (bC B9) (q1 (bL fO) (bU H fun x96 z95 H=>(q1 (bQ Tryz.func235 (eJ fu y93.gConstructor _ z95)) (q1 iS (q1 aF ?_)))))))
   refine eK 178 H (fun g97 H=>?_) fun g97 H=>?_
   ·refine qk g97 ?_
    iterate 3 refine qk g97 ?_
    refine q1 (b0 g97) (q1 aF ?_)
    iterate 4 refine qk rfl ?_
    refine q1 (b0 rfl) (q1 aF ?_)
    iterate 4 refine qk rfl ?_
    refine q1 (b0 rfl) (qN (eM rfl (qS (qR (q1 aF (qN (aO.ret ?_)))))))
    obtain rfl:_=r:=(rK (aZ H):)
    exact bR
   refine qg g97 (bC CA) (qg g97 (bL lI) (bU H fun x99 z98 H=>(qg g97 (bQ Tryz.func255 (O7 fu y93.gVars _ z98)) (qg g97 iS (q1 (cC g97) (q1 aF ?_))))))
   refine eK 184 H (fun g100 H=>?_) fun g100 H=>?_
   ·refine qk g100 ?_
    iterate 3 refine qk g100 ?_
    refine q1 (b0 g100) (q1 aF ?_)
    iterate 4 refine qk rfl ?_
    refine q1 (b0 rfl) (qN (eM rfl (qS (qR (q1 aF (qN (aO.ret ?_)))))))
    obtain rfl:_=r:=(rK (aZ H):)
    exact bR
   refine qg g100 (bC CA) (qg g100 (bL lI) (bU H fun x102 z101 H=>(qg g100 (bQ Tryz.func237 (l3 fu y93.gVars _ z101)) (qg g100 iS (q1 (cC g100) (q1 aF ?_))))))
   refine eK 190 H (fun g103 H=>?_) fun g103 H=>?_
   ·refine qk g103 ?_
    iterate 3 refine qk g103 ?_
    refine q1 (b0 g103) (qN (eM rfl (qS (qR (q1 aF (qN (aO.ret ?_)))))))
    obtain rfl:_=r:=(rK (aZ H):)
    exact bR
   refine qg g103 (bC I6) (qg g103 (cY [pI y93.gBody.gKind,pS y93.gBody.gTrait,pS y93.gBody.gName,pI y93.gBody.gN,pI y93.gBody.gType.gKind,pS y93.gBody.gType.gName,aW y93.gBody.gType.gArgs,fZ y93.gBody.gArgs,nG y93.gBody.gArms] iH) (bU H fun x105 z104 H=>(qg g103 (bQ Tryz.func294 (h_sl11Form y93.gBody _ z104)) (qg g103 iS (q1 (cC g103) (qN ?_))))))
   refine bH H (fun h106 H=>?_) (fun h106 H=>?_)
   ·refine qS (qR (q1 aF (qN (aO.ret ?_))))
    obtain rfl:_=r:=(rK (aZ H):)
    exact bR
   refine aO.skip (qR (q1 aF (q1 (aV.addI rfl rfl rfl rfl (c:=((i90+1:Nat):Int)) (by omega) (by omega)) (q1 aF (qN ?_)))))
   exact j8 h92l ⟨_,(aZ H:),b9⟩
  refine aO.exit ?_;exact lP ⟨_,H,b9⟩
 rintro⟨⟩ H
 refine qS (qR (q1 aF (qN (aO.ret ?_))))
 cases aZ H
 exact bR
def mR:Nat→aH→Option Bool
 |0,_=>none
 |fu+1,pa0=>J3 fu (mR fu) pa0
theorem YN(fu:Nat):CU (mR fu):=by
 induction fu with
 |zero=>exact(fun pa0 r H=>by simp only [mR] at H;cases H)
 |succ fu ih=>exact(fun pa0 r H=>by simp only [mR] at H;exact VV fu (mR fu) ih pa0 r H)
theorem ab2(fu:Nat):CU (mR fu):=(YN fu)
def S1(m:aH→Option Bool):Prop:= ∀(pe:aH) (r:Bool),m pe=some r→cA Tryz.prog 287 [(aH.pv pe)] (pB r:PV)
def yL(fu:Nat)(pe:aH):Option Bool:=
 bd (mU fu pe 300) (fun x2=>
 sw (decide (x2≥0))
 (bd (mR fu pe) (fun x5=>
 some x5))
 (some false))
theorem P9(fu:Nat):S1 (yL fu):=by
 intro pe r H
 have H:=fF H
 refine qI Tryz.func287 (fun C hC=>?_)
 refine qS (qR (q1 (kQ (iR pe)) (q1 aF (qN (qS (qR (q1 (cY [pI pe.gKind,pS pe.gTrait,pS pe.gName,pI pe.gN,pI pe.gType.gKind,pS pe.gType.gName,aW pe.gType.gArgs,fZ pe.gArgs,nG pe.gArms] iH) (bU H fun x2 z1 H=>(q1 (bQ Tryz.func293 (acF fu pe 300 _ z1)) (q1 UH (q1 aF ?_)))))))))))
 refine eK 6 H (fun g3 H=>?_) fun g3 H=>?_
 ·refine qg g3 (cY [pI pe.gKind,pS pe.gTrait,pS pe.gName,pI pe.gN,pI pe.gType.gKind,pS pe.gType.gName,aW pe.gType.gArgs,fZ pe.gArgs,nG pe.gArms] iH) (bU H fun x5 z4 H=>(qg g3 (bQ Tryz.func294 (ab2 fu pe _ z4)) (q1 (b0 g3) (q1 aF (qN (aO.ret ?_))))))
  cases aZ H
  exact bR
 iterate 2 refine qk g3 ?_
 refine q1 (cC g3) (q1 aF (qN (aO.ret ?_)))
 cases aZ H
 exact bR
def acH(m:(List ByteArray)→(List ByteArray)→Option Bool):Prop:= ∀(pa:List ByteArray) (pb:List ByteArray) (r:Bool),m pa pb=some r→cA Tryz.prog 295 [rS pa,rS pb] (pB r:PV)
def YQ(fu:Nat)(pa pb:List ByteArray):Nat→Unit→Option (LR Unit Bool):=
 fun i2 _=>gd (i2<(pb).length)
 (sw (!decide (bB pa i2=bB pb i2))
 (some (.ret false))
 (some (.next ())))
def YR(fu:Nat)(pa pb:List ByteArray):Option (Bool⊕Unit):=
 loopN (YQ fu pa pb) (pa.length-0) 0 ()
def EW(fu:Nat)(pa pb:List ByteArray):Option Bool:=
 sw (!decide ((pa.length:Int)=(pb.length:Int)))
 (some false)
 (so (YR fu pa pb) (fun _=>
 some true))
theorem L6(fu:Nat):acH (EW fu):=by
 intro pa pb r H
 have H:=fF H
 refine qI Tryz.func295 (fun C hC=>?_)
 refine qS (qR (q1 aF (qN ?_)))
 iterate 2 refine qS ?_
 refine qR (q1 aF (q1 (eR b6 (bI _)) (q1 aF (q1 (eR b6 (bI _)) (q1 MJ (qN ?_))))))
 refine bH H (fun h1 H=>?_) (fun h1 H=>?_)
 ·refine qS (qR (q1 aF (qN (aO.ret ?_))))
  cases aZ H
  exact bR
 refine aO.skip ?_
 iterate 2 refine qS ?_
 refine qR (q1 aF (qN ?_))
 refine kV 0 (bI _) (fun hl3=>?_)
 refine cM (σ:=Unit) (fun i2 _=>⟨[(0,rS pa),(1,rS pb),(4,pB false),(5,pN i2)],⟨[],[]⟩⟩) (fun _=>⟨[(4,pB false)],⟨[],[]⟩⟩) (gW H) ?_ ?_
 ·rintro i2 ⟨⟩ H
  iterate 2 refine qS ?_
  refine qR ?_
  iterate 2 refine q1 aF ?_
  refine q1 (eR b6 (bI _)) (q1 iQ (qN ?_))
  refine eO H (fun h4 h4l H=>?_) (fun h4 H=>?_)
  ·have h4n:=bF h4
   refine aO.skip (qS (aO.block (qS (c9 H fun z5 H=>(dW (dI [0] aF (dI [5] aF (dI [17,18] (jH h4n b6) (dI [19] (p9 fO) (dI [1] aF (dI [5] aF (dI [21,22] (jH z5 b6) (dI [23] (p9 fO) ?_)))))))))))))
   refine dI [20,24] SP (dN ?_)
   refine bH H (fun h6 H=>?_) (fun h6 H=>?_)
   ·refine qS (qR (q1 aF (qN (aO.ret ?_))))
    obtain rfl:_=r:=(rK (aZ H):)
    exact bR
   refine aO.skip (qR (q1 aF (q1 (aV.addI rfl rfl rfl rfl (c:=((i2+1:Nat):Int)) (by omega) (by omega)) (q1 aF (qN ?_)))))
   exact j8 h4l ⟨_,(aZ H:),b9⟩
  refine aO.exit ?_;exact lP ⟨_,H,b9⟩
 rintro⟨⟩ H
 refine qS (qR (q1 aF (qN (aO.ret ?_))))
 cases aZ H
 exact bR
abbrev lH:=aH→aH→Option Bool
def w9(m:lH):Prop:= ∀(pa0:aH) (pa1:aH) (r:Bool),m pa0 pa1=some r→cA Tryz.prog 288 [(aH.pv pa0),(aH.pv pa1)] (pB r:PV)
def VA(fu:Nat)(r_sEqualExpr:lH)(pa0 pa1:aH)(x6:Bool):Nat→Unit→Option (LR Unit Bool):=
 fun i10 _=>lt (bB pa0.gArgs i10) (fun y13=>
 gd (i10<(pa1.gArgs).length)
 (lt (bB pa1.gArgs i10) (fun y16=>
 bd (r_sEqualExpr y13 y16) (fun x19=>
 sw (!(x19))
 (some (.ret false))
 (some (.next ()))))))
def VC(fu:Nat)(r_sEqualExpr:lH)(pa0 pa1:aH)(x6:Bool):Option (Bool⊕Unit):=
 loopN (VA fu r_sEqualExpr pa0 pa1 x6) (pa0.gArgs.length-0) 0 ()
def VB(fu:Nat)(r_sEqualExpr:lH)(pa0 pa1:aH)(x6:Bool):Nat→Unit→Option (LR Unit Bool):=
 fun i21 _=>lt (bB pa0.gArms i21) (fun y24=>
 gd (i21<(pa1.gArms).length)
 (lt (bB pa1.gArms i21) (fun y27=>
 sw (!decide (y24.gConstructor=y27.gConstructor))
 (some (.ret false))
 (bd (EW fu y24.gVars y27.gVars) (fun x31=>
 sw (!(x31))
 (some (.ret false))
 (bd (r_sEqualExpr y24.gBody y27.gBody) (fun x34=>
 sw (!(x34))
 (some (.ret false))
 (some (.next ())))))))))
def VD(fu:Nat)(r_sEqualExpr:lH)(pa0 pa1:aH)(x6:Bool):Option (Bool⊕Unit):=
 loopN (VB fu r_sEqualExpr pa0 pa1 x6) (pa0.gArms.length-0) 0 ()
def CP(fu:Nat)(r_sEqualExpr:lH)(pa0 pa1:aH):Option Bool:=
 sw (!decide (pa0.gKind=pa1.gKind))
 (some false)
 (sw (!decide (pa0.gTrait=pa1.gTrait))
 (some false)
 (sw (!decide (pa0.gName=pa1.gName))
 (some false)
 (sw (!decide (pa0.gN=pa1.gN))
 (some false)
 (bd (fN fu pa0.gType pa1.gType) (fun x6=>
 sw (!(x6))
 (some false)
 (sw (!decide ((pa0.gArgs.length:Int)=(pa1.gArgs.length:Int)))
 (some false)
 (sw (!decide ((pa0.gArms.length:Int)=(pa1.gArms.length:Int)))
 (some false)
 (so (VC fu r_sEqualExpr pa0 pa1 x6) (fun _=>
 so (VD fu r_sEqualExpr pa0 pa1 x6) (fun _=>
 some true))))))))))
theorem P0(fu:Nat)(r_sEqualExpr:lH)(h_sEqualExpr:w9 r_sEqualExpr):w9 (CP fu r_sEqualExpr):=by
 intro pa0 pa1 r H
 have H:=fF H
 refine qI Tryz.func288 (fun C hC=>?_)
 refine qS (qR (q1 (kQ (iR pa0)) (q1 (kQ (iR pa1)) (q1 aF (qN ?_)))))
 iterate 2 refine qS ?_
 refine qR (q1 (bC rX) (q1 (bL kZ) (q1 (bC rX) (q1 (bL kZ) (q1 MJ (q1 aF ?_))))))
 refine eK 12 H (fun g1 H=>?_) fun g1 H=>?_
 ·refine qk g1 ?_
  iterate 4 refine qk g1 ?_
  refine q1 (b0 g1) (q1 aF ?_)
  iterate 5 refine qk rfl ?_
  refine q1 (b0 rfl) (q1 aF ?_)
  iterate 5 refine qk rfl ?_
  refine q1 (b0 rfl) (q1 aF ?_)
  iterate 6 refine qk rfl ?_
  refine q1 (b0 rfl) (q1 aF ?_)
  iterate 7 refine qk rfl ?_
  refine q1 (b0 rfl) (q1 aF ?_)
  iterate 7 refine qk rfl ?_
  refine q1 (b0 rfl) (qN (eM rfl (qS (qR (q1 aF (qN (aO.ret ?_)))))))
  cases aZ H
  exact bR
 refine qg g1 (bC MZ) (qg g1 (bL fO) (qg g1 (bC MZ) (qg g1 (bL fO) (qg g1 SP (q1 (cC g1) (q1 aF ?_))))))
 refine eK 19 H (fun g2 H=>?_) fun g2 H=>?_
 ·refine qk g2 ?_
  iterate 4 refine qk g2 ?_
  refine q1 (b0 g2) (q1 aF ?_)
  iterate 5 refine qk rfl ?_
  refine q1 (b0 rfl) (q1 aF ?_)
  iterate 6 refine qk rfl ?_
  refine q1 (b0 rfl) (q1 aF ?_)
  iterate 7 refine qk rfl ?_
  refine q1 (b0 rfl) (q1 aF ?_)
  iterate 7 refine qk rfl ?_
  refine q1 (b0 rfl) (qN (eM rfl (qS (qR (q1 aF (qN (aO.ret ?_)))))))
  cases aZ H
  exact bR
 refine qg g2 (bC pR) (qg g2 (bL fO) (qg g2 (bC pR) (qg g2 (bL fO) (qg g2 SP (q1 (cC g2) (q1 aF ?_))))))
 refine eK 26 H (fun g3 H=>?_) fun g3 H=>?_
 ·refine qk g3 ?_
  iterate 4 refine qk g3 ?_
  refine q1 (b0 g3) (q1 aF ?_)
  iterate 6 refine qk rfl ?_
  refine q1 (b0 rfl) (q1 aF ?_)
  iterate 7 refine qk rfl ?_
  refine q1 (b0 rfl) (q1 aF ?_)
  iterate 7 refine qk rfl ?_
  refine q1 (b0 rfl) (qN (eM rfl (qS (qR (q1 aF (qN (aO.ret ?_)))))))
  cases aZ H
  exact bR
 refine qg g3 (bC EA) (qg g3 (bL kZ) (qg g3 (bC EA) (qg g3 (bL kZ) (qg g3 MJ (q1 (cC g3) (q1 aF ?_))))))
 refine eK 33 H (fun g4 H=>?_) fun g4 H=>?_
 ·refine qk g4 ?_
  iterate 5 refine qk g4 ?_
  refine q1 (b0 g4) (q1 aF ?_)
  iterate 7 refine qk rfl ?_
  refine q1 (b0 rfl) (q1 aF ?_)
  iterate 7 refine qk rfl ?_
  refine q1 (b0 rfl) (qN (eM rfl (qS (qR (q1 aF (qN (aO.ret ?_)))))))
  cases aZ H
  exact bR
 refine qg g4 (bC t5) (qg g4 (cY [pI pa0.gType.gKind,pS pa0.gType.gName,aW pa0.gType.gArgs] b8) (qg g4 (bC t5) (qg g4 (cY [pI pa1.gType.gKind,pS pa1.gType.gName,aW pa1.gType.gArgs] b8) (bU H fun x6 z5 H=>(qg g4 (bQ Tryz.func16 (IG fu pa0.gType pa1.gType _ z5)) (qg g4 iS (q1 (cC g4) (q1 aF ?_))))))))
 refine eK 41 H (fun g7 H=>?_) fun g7 H=>?_
 ·refine qk g7 ?_
  iterate 6 refine qk g7 ?_
  refine q1 (b0 g7) (q1 aF ?_)
  iterate 7 refine qk rfl ?_
  refine q1 (b0 rfl) (qN (eM rfl (qS (qR (q1 aF (qN (aO.ret ?_)))))))
  cases aZ H
  exact bR
 refine qg g7 (bC jP) (qg g7 (bL vL) (qg g7 (eR m3 (aH.trs_len _)) (qg g7 (bC jP) (qg g7 (bL vL) (qg g7 (eR m3 (aH.trs_len _)) (qg g7 MJ (q1 (cC g7) (q1 aF ?_))))))))
 refine eK 50 H (fun g8 H=>?_) fun g8 H=>?_
 ·refine qk g8 ?_
  iterate 6 refine qk g8 ?_
  refine q1 (b0 g8) (qN (eM rfl (qS (qR (q1 aF (qN (aO.ret ?_)))))))
  cases aZ H
  exact bR
 refine qg g8 (bC gY) (qg g8 (bL sI) (qg g8 (eR pJ (bM.trs_len _)) (qg g8 (bC gY) (qg g8 (bL sI) (qg g8 (eR pJ (bM.trs_len _)) (qg g8 MJ (q1 (cC g8) (qN ?_))))))))
 refine bH H (fun h9 H=>?_) (fun h9 H=>?_)
 ·refine qS (qR (q1 aF (qN (aO.ret ?_))))
  cases aZ H
  exact bR
 refine aO.skip ?_
 iterate 2 refine qS ?_
 refine qR (q1 aF (qN ?_))
 refine kV 43 (aH.trs_len _) (fun hl11=>?_)
 refine cM (σ:=Unit) (fun i10 _=>⟨[(2,.ptr 0 0),(3,.ptr 1 0),(4,pB false),(5,pN i10)],⟨[some ⟨87,iR pa0⟩,some ⟨87,iR pa1⟩],[]⟩⟩) (fun _=>⟨[(2,.ptr 0 0),(3,.ptr 1 0),(4,pB false)],⟨[some ⟨87,iR pa0⟩,some ⟨87,iR pa1⟩],[]⟩⟩) (gW H) ?_ ?_
 ·rintro i10 ⟨⟩ H
  iterate 2 refine qS ?_
  refine qR (q1 aF (q1 (bC jP) (q1 (bL vL) (q1 (eR m3 (aH.trs_len _)) (q1 iQ (qN ?_))))))
  refine eO H (fun h12 h12l H=>?_) (fun h12 H=>?_)
  ·have h12n:=bF h12
   refine aO.skip (qS (aO.block (qS (gU H fun y13 h14 H=>(c9 H fun z15 H=>(gU H fun y16 h17 H=>(bU H fun x19 z18 H=>(dW (dI [2] (bC jP) (dD [66] (bL vL) (dI [5] aF (dI [67,68] (yI h14 h12n m3) (dI [69] (lB (aH.cs y13) iH) ?_)))))))))))))
   refine dI [3] (bC jP) (dD [71] (bL vL) (dI [5] aF (dI [72,73] (yI h17 z15 m3) (dI [74] (lB (aH.cs y16) iH) (dI [70,75] (bQ Tryz.func288 (h_sEqualExpr y13 y16 _ z18)) (dI [76] iS (dN ?_)))))))
   refine bH H (fun h20 H=>?_) (fun h20 H=>?_)
   ·refine qS (qR (q1 aF (qN (aO.ret ?_))))
    obtain rfl:_=r:=(rK (aZ H):)
    exact bR
   refine aO.skip (qR (q1 aF (q1 (aV.addI rfl rfl rfl rfl (c:=((i10+1:Nat):Int)) (by omega) (by omega)) (q1 aF (qN ?_)))))
   exact j8 h12l ⟨_,(aZ H:),b9⟩
  refine aO.exit ?_;exact lP ⟨_,H,b9⟩
 rintro⟨⟩ H
 iterate 2 refine qS ?_
 refine qR (q1 aF (qN ?_))
 refine aO.fact (c3 0 8 rfl rfl rfl (bM.trs_len _)) (fun hl22=>?_)
 refine cM (σ:=Unit) (fun i21 _=>⟨[(2,.ptr 0 0),(3,.ptr 1 0),(4,pB false),(6,pN i21)],⟨[some ⟨87,iR pa0⟩,some ⟨87,iR pa1⟩],[]⟩⟩) (fun _=>⟨[(4,pB false)],⟨[some ⟨87,iR pa0⟩,some ⟨87,iR pa1⟩],[]⟩⟩) (gW H) ?_ ?_
 ·rintro i21 ⟨⟩ H
  iterate 2 refine qS ?_
  refine qR (q1 aF (q1 (bC gY) (q1 (bL sI) (q1 (eR pJ (bM.trs_len _)) (q1 iQ (qN ?_))))))
  refine eO H (fun h23 h23l H=>?_) (fun h23 H=>?_)
  ·have h23n:=bF h23
   refine aO.skip (qS (aO.block (qS (gU H fun y24 h25 H=>(c9 H fun z26 H=>(gU H fun y27 h28 H=>?_))))))
   rcases nN (!decide (y24.gConstructor=y27.gConstructor)) with g29|g29
   ·have H:=qZ H g29
    refine dW (dI [2] (bC gY) (dD [85] (bL sI) (dI [6] aF (dI [86,87] (yI h25 h23n pJ) (dI [88] (rC B9) (dI [89] (p9 fO) (dI [3] (bC gY) (dD [91] (bL sI) (dI [6] aF (dI [92,93] (yI h28 z26 pJ) (dI [94] (rC B9) (dI [95] (p9 fO) (dI [90,96] SP ?_)))))))))))))
    refine dI [97] aF ?_
    iterate 14 refine H8 g29 ?_
    refine dI [98] (b0 g29) (dI [113] aF ?_)
    iterate 14 refine H8 rfl ?_
    refine dI [114] (b0 rfl) (dN (eM rfl (qS (qR (q1 aF (qN (aO.ret ?_)))))))
    obtain rfl:_=r:=(rK (aZ H):)
    exact bR
   have H:=qY H g29
   refine bU H fun x31 z30 H=>?_
   rcases nN (!(x31)) with g32|g32
   ·have H:=qZ H g32
    refine dW (dI [2] (bC gY) (dD [85] (bL sI) (dI [6] aF (dI [86,87] (yI h25 h23n pJ) (dI [88] (rC B9) (dI [89] (p9 fO) (dI [3] (bC gY) (dD [91] (bL sI) (dI [6] aF (dI [92,93] (yI h28 z26 pJ) (dI [94] (rC B9) (dI [95] (p9 fO) (dI [90,96] SP ?_)))))))))))))
    refine dI [97] aF (dI (hg:=bE g29) [2] (bC gY) (dD (hg:=bE g29) [99] (bL sI) (dI (hg:=bE g29) [6] aF (dI (hg:=bE g29) [100,101] (yI h25 h23n pJ) (dI (hg:=bE g29) [102] (rC CA) (dI (hg:=bE g29) [103] (p9 lI) (dI (hg:=bE g29) [3] (bC gY) (dD (hg:=bE g29) [105] (bL sI) (dI (hg:=bE g29) [6] aF (dI (hg:=bE g29) [106,107] (yI h28 z26 pJ) (dI (hg:=bE g29) [108] (rC CA) (dI (hg:=bE g29) [109] (p9 lI) (dI (hg:=bE g29) [104,110] (bQ Tryz.func295 (L6 fu y24.gVars y27.gVars _ z30)) ?_)))))))))))))
    refine dI (hg:=bE g29) [111] iS (dI [98,112] (cC g29) (dI [113] aF ?_))
    iterate 14 refine H8 g32 ?_
    refine dI [114] (b0 g32) (dN (eM rfl (qS (qR (q1 aF (qN (aO.ret ?_)))))))
    obtain rfl:_=r:=(rK (aZ H):)
    exact bR
   have H:=qY H g32
   refine bU H fun x34 z33 H=>(dW (dI [2] (bC gY) (dD [85] (bL sI) (dI [6] aF (dI [86,87] (yI h25 h23n pJ) (dI [88] (rC B9) (dI [89] (p9 fO) (dI [3] (bC gY) (dD [91] (bL sI) (dI [6] aF (dI [92,93] (yI h28 z26 pJ) (dI [94] (rC B9) (dI [95] (p9 fO) ?_)))))))))))))
   refine dI [90,96] SP (dI [97] aF (dI (hg:=bE g29) [2] (bC gY) (dD (hg:=bE g29) [99] (bL sI) (dI (hg:=bE g29) [6] aF (dI (hg:=bE g29) [100,101] (yI h25 h23n pJ) (dI (hg:=bE g29) [102] (rC CA) (dI (hg:=bE g29) [103] (p9 lI) (dI (hg:=bE g29) [3] (bC gY) (dD (hg:=bE g29) [105] (bL sI) (dI (hg:=bE g29) [6] aF (dI (hg:=bE g29) [106,107] (yI h28 z26 pJ) (dI (hg:=bE g29) [108] (rC CA) (dI (hg:=bE g29) [109] (p9 lI) ?_)))))))))))))
   refine dI (hg:=bE g29) [104,110] (bQ Tryz.func295 (L6 fu y24.gVars y27.gVars _ z30)) (dI (hg:=bE g29) [111] iS (dI [98,112] (cC g29) (dI [113] aF (dI (hg:=bE g32) [2] (bC gY) (dD (hg:=bE g32) [115] (bL sI) (dI (hg:=bE g32) [6] aF (dI (hg:=bE g32) [116,117] (yI h25 h23n pJ) (dI (hg:=bE g32) [118] (rC I6) (dI (hg:=bE g32) [119] (lB (aH.cs y24.gBody) iH) (dI (hg:=bE g32) [3] (bC gY) (dD (hg:=bE g32) [121] (bL sI) (dI (hg:=bE g32) [6] aF (dI (hg:=bE g32) [122,123] (yI h28 z26 pJ) ?_)))))))))))))
   refine dI (hg:=bE g32) [124] (rC I6) (dI (hg:=bE g32) [125] (lB (aH.cs y27.gBody) iH) (dI (hg:=bE g32) [120,126] (bQ Tryz.func288 (h_sEqualExpr y24.gBody y27.gBody _ z33)) (dI (hg:=bE g32) [127] iS (dI [114,128] (cC g32) (dN ?_)))))
   refine bH H (fun h35 H=>?_) (fun h35 H=>?_)
   ·refine qS (qR (q1 aF (qN (aO.ret ?_))))
    obtain rfl:_=r:=(rK (aZ H):)
    exact bR
   refine aO.skip (qR (q1 aF (q1 (aV.addI rfl rfl rfl rfl (c:=((i21+1:Nat):Int)) (by omega) (by omega)) (q1 aF (qN ?_)))))
   exact j8 h23l ⟨_,(aZ H:),b9⟩
  refine aO.exit ?_;exact lP ⟨_,H,b9⟩
 rintro⟨⟩ H
 refine qS (qR (q1 aF (qN (aO.ret ?_))))
 cases aZ H
 exact bR
def j9:Nat→aH→aH→Option Bool
 |0,_,_=>none
 |fu+1,pa0,pa1=>CP fu (j9 fu) pa0 pa1
theorem SU(fu:Nat):w9 (j9 fu):=by
 induction fu with
 |zero=>exact(fun pa0 pa1 r H=>by simp only [j9] at H;cases H)
 |succ fu ih=>exact(fun pa0 pa1 r H=>by simp only [j9] at H;exact P0 fu (j9 fu) ih pa0 pa1 r H)
theorem VF(fu:Nat):w9 (j9 fu):=(SU fu)
abbrev mT:=aH→(List ByteArray)→(List ByteArray)→Option ((List ByteArray))
def CV(m:mT):Prop:= ∀(pa0:aH) (pa1:List ByteArray) (pa2:List ByteArray) (r:(List ByteArray)),m pa0 pa1 pa2=some r→cP Tryz.prog 292 [(aH.pv pa0),rS pa1,aS pa2 0] ⟨[],[⟨9,1,aX (pa2),false⟩]⟩ (fun q t=>q=(aS r 0:PV)∧t=⟨[],[⟨9,1,aX (r),false⟩]⟩)
def ab3(fu:Nat)(r_sl11Free:mT)(pa0:aH)(pa1 pa2:List ByteArray):Option (((List ByteArray))⊕((List ByteArray))):=
 sw (decide (pa0.gKind=3))
 (bd (lV fu pa1 pa0.gName) (fun x5=>
 sw (!(x5))
 (bd (lV fu pa2 pa0.gName) (fun x8=>
 sw (!(x8))
 (gd ((pa2).length+(([pa0.gName]:List ByteArray)).length≤68719476736)
 (some (.inr (pa2++([pa0.gName]:List ByteArray)))))
 (some (.inr pa2))))
 (some (.inr pa2))))
 (some (.inr pa2))
def ab4(fu:Nat)(r_sl11Free:mT)(pa0:aH)(pa1 pa2 v2:List ByteArray):Nat→((List ByteArray))→Option (LR ((List ByteArray)) ((List ByteArray))):=
 fun i11 v13=>sw (decide (pa0.gKind=8))
 (sw (decide ((i11:Int)=1))
 (gd (([]:List ByteArray).length+(pa1).length≤68719476736)
 (gd ((([])++pa1).length+(([pa0.gName]:List ByteArray)).length≤68719476736)
 (lt (bB pa0.gArgs i11) (fun y20=>
 bd (r_sl11Free y20 ((([])++pa1)++([pa0.gName]:List ByteArray)) v13) (fun x23=>
 some (.next x23))))))
 (lt (bB pa0.gArgs i11) (fun y24=>
 bd (r_sl11Free y24 pa1 v13) (fun x27=>
 some (.next x27)))))
 (lt (bB pa0.gArgs i11) (fun y28=>
 bd (r_sl11Free y28 pa1 v13) (fun x31=>
 some (.next x31))))
def ab6(fu:Nat)(r_sl11Free:mT)(pa0:aH)(pa1 pa2 v2:List ByteArray):Option (((List ByteArray))⊕((List ByteArray))):=
 loopN (ab4 fu r_sl11Free pa0 pa1 pa2 v2) (pa0.gArgs.length-0) 0 v2
def ab5(fu:Nat)(r_sl11Free:mT)(pa0:aH)(pa1 pa2 v2 v13:List ByteArray):Nat→((List ByteArray))→Option (LR ((List ByteArray)) ((List ByteArray))):=
 fun i32 v34=>lt (bB pa0.gArms i32) (fun y37=>
 gd (([]:List ByteArray).length+(pa1).length≤68719476736)
 (gd ((([])++pa1).length+(y37.gVars).length≤68719476736)
 (bd (r_sl11Free y37.gBody ((([])++pa1)++y37.gVars) v34) (fun x42=>
 some (.next x42)))))
def ab7(fu:Nat)(r_sl11Free:mT)(pa0:aH)(pa1 pa2 v2 v13:List ByteArray):Option (((List ByteArray))⊕((List ByteArray))):=
 loopN (ab5 fu r_sl11Free pa0 pa1 pa2 v2 v13) (pa0.gArms.length-0) 0 v13
def J4(fu:Nat)(r_sl11Free:mT)(pa0:aH)(pa1 pa2:List ByteArray):Option ((List ByteArray)):=
 so (ab3 fu r_sl11Free pa0 pa1 pa2) (fun v2=>
 so (ab6 fu r_sl11Free pa0 pa1 pa2 v2) (fun v13=>
 so (ab7 fu r_sl11Free pa0 pa1 pa2 v2 v13) (fun v34=>
 some v34)))
theorem VW(fu:Nat)(r_sl11Free:mT)(h_sl11Free:CV r_sl11Free):CV (J4 fu r_sl11Free):=by
 intro pa0 pa1 pa2 r H
 have H:=fF H
 refine qI Tryz.func292 (fun C hC=>?_)
 refine qS (qR (q1 (kQ (iR pa0)) (q1 aF (qN (qS ?_)))))
 refine qF (σ:=(List ByteArray)) (fun v2=>⟨[(1,rS pa1),(2,aS v2 0),(3,.ptr 0 0),(6,.nil)],⟨[some ⟨87,iR pa0⟩],[⟨9,1,aX (v2),false⟩]⟩⟩) (gW H) (fun H=>?_) ?_
 ·refine qS (qR (q1 (bC rX) (q1 (bL kZ) (q1 eP (q1 aF ?_)))))
  refine eK 13 H (fun g3 H=>?_) fun g3 H=>?_
  ·refine qg g3 aF (qg g3 (bC pR) (qg g3 (bL fO) (bU H fun x5 z4 H=>(qg g3 (bQ Tryz.func125 (nK fu pa1 pa0.gName _ z4)) (qg g3 iS (q1 (b0 g3) (q1 aF ?_)))))))
   refine eK 20 H (fun g6 H=>?_) fun g6 H=>?_
   ·refine qg g6 aF (qg g6 (bC pR) (qg g6 (bL fO) (bU H fun x8 z7 H=>(qg g6 (bQ Tryz.func125 (nK fu pa2 pa0.gName _ z7)) (qg g6 iS (q1 (b0 g6) (qN ?_)))))))
    refine bH H (fun h9 H=>?_) (fun h9 H=>?_)
    ·refine qR (q1 aF (q1 (bC pR) (q1 (bL fO) (q1 (iW ([pa0.gName]:List ByteArray) b6 lO) (c9 H fun z10 H=>(q1 (oE z10 b6 sM) (q1 aF (qN ?_))))))))
     exact eC ⟨_,(aZ H:),b9⟩
    refine aO.skip ?_;exact eC ⟨_,(aZ H:),b9⟩
   iterate 5 refine qk g6 ?_
   refine q1 (cC g6) (qN (kP rfl (aO.skip ?_)))
   exact eC ⟨_,(aZ H:),b9⟩
  iterate 5 refine qk g3 ?_
  refine q1 (cC g3) (q1 aF ?_)
  iterate 5 refine qk rfl ?_
  refine q1 (cC rfl) (qN (kP rfl (aO.skip ?_)))
  exact eC ⟨_,(aZ H:),b9⟩
 rintro v2 H
 iterate 2 refine qS ?_
 refine qR (q1 aF (qN ?_))
 refine aO.fact (c3 0 7 rfl rfl rfl (aH.trs_len _)) (fun hl14=>?_)
 refine cM (σ:=(List ByteArray)) (fun i11 v13=>⟨[(1,rS pa1),(2,aS v13 0),(3,.ptr 0 0),(6,.nil),(7,pN i11)],⟨[some ⟨87,iR pa0⟩],[⟨9,1,aX (v13),false⟩]⟩⟩) (fun v13=>⟨[(1,rS pa1),(2,aS v13 0),(3,.ptr 0 0),(6,.nil)],⟨[some ⟨87,iR pa0⟩],[⟨9,1,aX (v13),false⟩]⟩⟩) (gW H) ?_ ?_
 ·rintro i11 v13 H
  iterate 2 refine qS ?_
  refine qR (q1 aF (q1 (bC jP) (q1 (bL vL) (q1 (eR m3 (aH.trs_len _)) (q1 iQ (qN ?_))))))
  refine eO H (fun h15 h15l H=>?_) (fun h15 H=>?_)
  ·have h15n:=bF h15
   refine aO.skip (qS (aO.block (qS (qR ?_))))
   iterate 2 refine q1 aF ?_
   refine qN ?_
   iterate 2 refine qS ?_
   refine qR (q1 (bC rX) (q1 (bL kZ) (q1 eP (q1 aF ?_))))
   refine eK 43 H (fun g16 H=>?_) fun g16 H=>?_
   ·refine qg g16 aF (qg g16 eP (q1 (b0 g16) (qN ?_)))
    refine bH H (fun h17 H=>?_) (fun h17 H=>?_)
    ·refine c9 H fun z18 H=>(c9 H fun z19 H=>(dW (dE [] (wA ([]:List ByteArray) b6 lO) (dI [1] aF (dE [47,48] (oE z18 b6 sM) (dI [3] (bC pR) (dB [50] 0 2 (vQ fO) (dI [51] (iW ([pa0.gName]:List ByteArray) b6 lO) (dE [49,52] (oE z19 b6 sM) (dI [53] aF (dN (qR (q1 (bC jP) ?_)))))))))))))
     refine q1 (bL vL) (q1 aF (gU H fun y20 h21 H=>(q1 (yI h21 h15n m3) (q1 (lB (aH.cs y20) iH) ?_))))
     iterate 2 refine q1 aF ?_
     refine bU H fun x23 z22 H=>(q1 (f6 [] [0] Tryz.func292 (h_sl11Free y20 ((([])++pa1)++([pa0.gName]:List ByteArray)) v13 _ z22)) (q1 aF (qN (qR (q1 aF (q1 (aV.addI rfl rfl rfl rfl (c:=((i11+1:Nat):Int)) (by omega) (by omega)) (q1 aF (qN ?_))))))))
     exact j8 h15l ⟨_,(aZ H:),b9⟩
    refine aO.skip (qR (q1 (bC jP) (q1 (bL vL) (q1 aF (gU H fun y24 h25 H=>(q1 (yI h25 h15n m3) (q1 (lB (aH.cs y24) iH) ?_)))))))
    iterate 2 refine q1 aF ?_
    refine bU H fun x27 z26 H=>(q1 (f6 [] [0] Tryz.func292 (h_sl11Free y24 pa1 v13 _ z26)) (q1 aF (qN (qR (q1 aF (q1 (aV.addI rfl rfl rfl rfl (c:=((i11+1:Nat):Int)) (by omega) (by omega)) (q1 aF (qN ?_))))))))
    exact j8 h15l ⟨_,(aZ H:),b9⟩
   iterate 2 refine qk g16 ?_
   refine q1 (cC g16) (qN (kP rfl (aO.skip (qR (q1 (bC jP) (q1 (bL vL) (q1 aF (gU H fun y28 h29 H=>(q1 (yI h29 h15n m3) (q1 (lB (aH.cs y28) iH) ?_))))))))))
   iterate 2 refine q1 aF ?_
   refine bU H fun x31 z30 H=>(q1 (f6 [] [0] Tryz.func292 (h_sl11Free y28 pa1 v13 _ z30)) (q1 aF (qN (qR (q1 aF (q1 (aV.addI rfl rfl rfl rfl (c:=((i11+1:Nat):Int)) (by omega) (by omega)) (q1 aF (qN ?_))))))))
   exact j8 h15l ⟨_,(aZ H:),b9⟩
  refine aO.exit ?_;exact lP ⟨_,H,b9⟩
 rintro v13 H
 iterate 2 refine qS ?_
 refine qR (q1 aF (qN ?_))
 refine aO.fact (c3 0 8 rfl rfl rfl (bM.trs_len _)) (fun hl35=>?_)
 refine cM (σ:=(List ByteArray)) (fun i32 v34=>⟨[(1,rS pa1),(2,aS v34 0),(3,.ptr 0 0),(6,.nil),(9,pN i32)],⟨[some ⟨87,iR pa0⟩],[⟨9,1,aX (v34),false⟩]⟩⟩) (fun v34=>⟨[(2,aS v34 0),(6,.nil)],⟨[some ⟨87,iR pa0⟩],[⟨9,1,aX (v34),false⟩]⟩⟩) (gW H) ?_ ?_
 ·rintro i32 v34 H
  iterate 2 refine qS ?_
  refine qR (q1 aF (q1 (bC gY) (q1 (bL sI) (q1 (eR pJ (bM.trs_len _)) (q1 iQ (qN ?_))))))
  refine eO H (fun h36 h36l H=>?_) (fun h36 H=>?_)
  ·have h36n:=bF h36
   refine aO.skip (qS (aO.block (gU H fun y37 h38 H=>(c9 H fun z39 H=>(c9 H fun z40 H=>(bU H fun x42 z41 H=>(dW (dI [3] (bC gY) (dB [69] 0 3 (vQ sI) (dI [9] aF (dI [70,71] (yI h38 h36n pJ) (dI [72] (rC I6) (dI [73] (lB (aH.cs y37.gBody) iH) ?_)))))))))))))
   refine dE [] (wA ([]:List ByteArray) b6 lO) (dI [1] aF (dE [75,76] (oE z39 b6 sM) (dI [3] (bC gY) (dB [78] 0 2 (vQ sI) (dI [9] aF (dI [79,80] (yI h38 h36n pJ) (dI [81] (rC CA) (dI [82] (p9 lI) (dE [77,83] (oE z40 b6 sM) (dI [2] aF (dE [74,84,85] (f6 [] [0] Tryz.func292 (h_sl11Free y37.gBody ((([])++pa1)++y37.gVars) v34 _ z41)) (dI [86] aF (dN ?_)))))))))))))
   refine qR (q1 aF (q1 (aV.addI rfl rfl rfl rfl (c:=((i32+1:Nat):Int)) (by omega) (by omega)) (q1 aF (qN ?_))))
   exact j8 h36l ⟨_,(aZ H:),b9⟩
  refine aO.exit ?_;exact lP ⟨_,H,b9⟩
 rintro v34 H
 refine qS (qR ?_)
 iterate 2 refine q1 aF ?_
 refine qN (aO.ret ?_)
 cases aZ H
 exact bR
def mS:Nat→aH→(List ByteArray)→(List ByteArray)→Option ((List ByteArray))
 |0,_,_,_=>none
 |fu+1,pa0,pa1,pa2=>J4 fu (mS fu) pa0 pa1 pa2
theorem YO(fu:Nat):CV (mS fu):=by
 induction fu with
 |zero=>exact(fun pa0 pa1 pa2 r H=>by simp only [mS] at H;cases H)
 |succ fu ih=>exact(fun pa0 pa1 pa2 r H=>by simp only [mS] at H;exact VW fu (mS fu) ih pa0 pa1 pa2 r H)
theorem ab9(fu:Nat):CV (mS fu):=(YO fu)
def NL(m:aH→Option ((List ByteArray))):Prop:= ∀(pe:aH) (r:(List ByteArray)),m pe=some r→cA Tryz.prog 286 [(aH.pv pe)] (rS r:PV)
def uJ(fu:Nat)(pe:aH):Option ((List ByteArray)):=
 bd (mS fu pe ([]) ([])) (fun x2=>
 some x2)
theorem L0(fu:Nat):NL (uJ fu):=by
 intro pe r H
 have H:=fF H
 refine qI Tryz.func286 (fun C hC=>?_)
 refine qS (qR (q1 (kQ (iR pe)) (q1 aF (qN (qS (qR (q1 (cY [pI pe.gKind,pS pe.gTrait,pS pe.gName,pI pe.gN,pI pe.gType.gKind,pS pe.gType.gName,aW pe.gType.gArgs,fZ pe.gArgs,nG pe.gArms] iH) ?_)))))))
 iterate 2 refine q1 (wA ([]:List ByteArray) b6 lO) ?_
 refine bU H fun x2 z1 H=>(q1 (f6 [] [1] Tryz.func292 (ab9 fu pe ([]) ([]) _ z1)) (q1 aF (qN (aO.ret ?_))))
 cases aZ H
 exact bR
def afQ(m:aA→(List ByteArray)→Option Bool):Prop:= ∀(pt:aA) (pvars:List ByteArray) (r:Bool),m pt pvars=some r→cA Tryz.prog 275 [(aA.pv pt),rS pvars] (pB r:PV)
def acX(fu:Nat)(pt:aA)(pvars x2:List ByteArray):Nat→Unit→Option (LR Unit Bool):=
 fun i3 _=>bd (lV fu pvars (bB x2 i3)) (fun x7=>
 sw (!(x7))
 (some (.ret false))
 (some (.next ())))
def acY(fu:Nat)(pt:aA)(pvars x2:List ByteArray):Option (Bool⊕Unit):=
 loopN (acX fu pt pvars x2) (x2.length-0) 0 ()
def n9(fu:Nat)(pt:aA)(pvars:List ByteArray):Option Bool:=
 bd (nI fu pt) (fun x2=>
 so (acY fu pt pvars x2) (fun _=>
 bd (kL fu pt) (fun x10=>
 some x10)))
theorem qC(fu:Nat):afQ (n9 fu):=by
 intro pt pvars r H
 have H:=fF H
 refine qI Tryz.func275 (fun C hC=>?_)
 refine qS (qR (q1 (kQ (c5 pt)) (q1 aF (qN (qS (qR (q1 (cY [pI pt.gKind,pS pt.gName,aW pt.gArgs] b8) (bU H fun x2 z1 H=>(q1 (bQ Tryz.func138 (zI fu pt _ z1)) (q1 aF (qN ?_)))))))))))
 iterate 2 refine qS ?_
 refine qR (q1 aF (qN ?_))
 refine kV 5 (bI _) (fun hl4=>?_)
 refine cM (σ:=Unit) (fun i3 _=>⟨[(1,rS pvars),(2,.ptr 0 0),(4,pB false),(5,rS x2),(6,pN i3)],⟨[some ⟨35,c5 pt⟩],[]⟩⟩) (fun _=>⟨[(2,.ptr 0 0),(4,pB false)],⟨[some ⟨35,c5 pt⟩],[]⟩⟩) (gW H) ?_ ?_
 ·rintro i3 ⟨⟩ H
  iterate 2 refine qS ?_
  refine qR ?_
  iterate 2 refine q1 aF ?_
  refine q1 (eR b6 (bI _)) (q1 iQ (qN ?_))
  refine eO H (fun h5 h5l H=>?_) (fun h5 H=>?_)
  ·have h5n:=bF h5
   refine aO.skip (qS (aO.block (qS (qR ?_))))
   iterate 3 refine q1 aF ?_
   refine q1 (jH h5n b6) (q1 (p9 fO) (bU H fun x7 z6 H=>(q1 (bQ Tryz.func125 (nK fu pvars (bB x2 i3) _ z6)) (q1 iS (qN ?_)))))
   refine bH H (fun h8 H=>?_) (fun h8 H=>?_)
   ·refine qS (qR (q1 aF (qN (aO.ret ?_))))
    obtain rfl:_=r:=(rK (aZ H):)
    exact bR
   refine aO.skip (qR (q1 aF (q1 (aV.addI rfl rfl rfl rfl (c:=((i3+1:Nat):Int)) (by omega) (by omega)) (q1 aF (qN ?_)))))
   exact j8 h5l ⟨_,(aZ H:),b9⟩
  refine aO.exit ?_;exact lP ⟨_,H,b9⟩
 rintro⟨⟩ H
 refine qS (qR (q1 (cY [pI pt.gKind,pS pt.gName,aW pt.gArgs] b8) (bU H fun x10 z9 H=>(q1 (bQ Tryz.func284 (l4 fu pt _ z9)) (q1 aF (qN (aO.ret ?_)))))))
 cases aZ H
 exact bR
def ajN(m:(List aA)→(List ByteArray)→Option Bool):Prop:= ∀(plist:List aA) (pvars:List ByteArray) (r:Bool),m plist pvars=some r→cA Tryz.prog 274 [aW plist,rS pvars] (pB r:PV)
def afJ(fu:Nat)(plist:List aA)(pvars:List ByteArray):Nat→Unit→Option (LR Unit Bool):=
 fun i1 _=>bd (n9 fu (bB plist i1) pvars) (fun x5=>
 sw (!(x5))
 (some (.ret false))
 (some (.next ())))
def afK(fu:Nat)(plist:List aA)(pvars:List ByteArray):Option (Bool⊕Unit):=
 loopN (afJ fu plist pvars) (plist.length-0) 0 ()
def F4(fu:Nat)(plist:List aA)(pvars:List ByteArray):Option Bool:=
 so (afK fu plist pvars) (fun _=>
 some true)
theorem TK(fu:Nat):ajN (F4 fu):=by
 intro plist pvars r H
 have H:=fF H
 refine qI Tryz.func274 (fun C hC=>?_)
 refine qS (qR (q1 aF (qN ?_)))
 iterate 2 refine qS ?_
 refine qR (q1 aF (qN ?_))
 refine kV 0 (aA.trs_len _) (fun hl2=>?_)
 refine cM (σ:=Unit) (fun i1 _=>⟨[(0,aW plist),(1,rS pvars),(4,pB false),(5,pN i1)],⟨[],[]⟩⟩) (fun _=>⟨[(4,pB false)],⟨[],[]⟩⟩) (gW H) ?_ ?_
 ·rintro i1 ⟨⟩ H
  iterate 2 refine qS ?_
  refine qR ?_
  iterate 2 refine q1 aF ?_
  refine q1 (eR dX (aA.trs_len _)) (q1 iQ (qN ?_))
  refine eO H (fun h3 h3l H=>?_) (fun h3 H=>?_)
  ·have h3n:=bF h3
   refine aO.skip (qS (aO.block (qS (qR ?_))))
   iterate 2 refine q1 aF ?_
   refine q1 (jH h3n dX) (q1 (lB (aA.cs (bB plist i1)) b8) (q1 aF (bU H fun x5 z4 H=>(q1 (bQ Tryz.func275 (qC fu (bB plist i1) pvars _ z4)) (q1 iS (qN ?_))))))
   refine bH H (fun h6 H=>?_) (fun h6 H=>?_)
   ·refine qS (qR (q1 aF (qN (aO.ret ?_))))
    obtain rfl:_=r:=(rK (aZ H):)
    exact bR
   refine aO.skip (qR (q1 aF (q1 (aV.addI rfl rfl rfl rfl (c:=((i1+1:Nat):Int)) (by omega) (by omega)) (q1 aF (qN ?_)))))
   exact j8 h3l ⟨_,(aZ H:),b9⟩
  refine aO.exit ?_;exact lP ⟨_,H,b9⟩
 rintro⟨⟩ H
 refine qS (qR (q1 aF (qN (aO.ret ?_))))
 cases aZ H
 exact bR
def afO(m:aH→Option Bool):Prop:= ∀(pe:aH) (r:Bool),m pe=some r→cA Tryz.prog 283 [(aH.pv pe)] (pB r:PV)
def KB(fu:Nat)(pe:aH):Option Bool:=
 bd (j9 fu pe (aH.mk 0 s_ s_ 0 (aA.mk 0 s_ []) [] [])) (fun x2=>
 some x2)
theorem acV(fu:Nat):afO (KB fu):=by
 intro pe r H
 have H:=fF H
 refine qI Tryz.func283 (fun C hC=>?_)
 refine qS (qR (q1 (kQ (iR pe)) (q1 aF (qN (qS (qR (q1 (cY [pI pe.gKind,pS pe.gTrait,pS pe.gName,pI pe.gN,pI pe.gType.gKind,pS pe.gType.gName,aW pe.gType.gArgs,fZ pe.gArgs,nG pe.gArms] iH) (q1 (gD lN yH) (bU H fun x2 z1 H=>(q1 (bQ Tryz.func288 (VF fu pe (aH.mk 0 s_ s_ 0 (aA.mk 0 s_ []) [] []) _ z1)) (q1 aF (qN (aO.ret ?_)))))))))))))
 cases aZ H
 exact bR
def ac0(m:(List ByteArray)→Int→Option Bool):Prop:= ∀(plist:List ByteArray) (pmost:Int) (r:Bool),m plist pmost=some r→cA Tryz.prog 236 [rS plist,pI pmost] (pB r:PV)
def gL(fu:Nat)(plist:List ByteArray)(pmost:Int):Option Bool:=
 sw (decide ((plist.length:Int)≤pmost))
 (bd (C1 fu plist) (fun x3=>
 sw (x3)
 (bd (kK fu plist) (fun x6=>
 some x6))
 (some false)))
 (some false)
theorem gT(fu:Nat):ac0 (gL fu):=by
 intro plist pmost r H
 have H:=fF H
 refine qI Tryz.func236 (fun C hC=>?_)
 refine qS (qR (q1 aF (qN (qS (qR (q1 aF (q1 (eR b6 (bI _)) (q1 aF (q1 rLe (q1 aF ?_))))))))))
 refine eK 9 H (fun g1 H=>?_) fun g1 H=>?_
 ·refine qg g1 aF (bU H fun x3 z2 H=>(qg g1 (bQ Tryz.func255 (O7 fu plist _ z2)) (q1 (b0 g1) (q1 aF ?_))))
  refine eK 13 H (fun g4 H=>?_) fun g4 H=>?_
  ·refine qg g4 aF (bU H fun x6 z5 H=>(qg g4 (bQ Tryz.func237 (l3 fu plist _ z5)) (q1 (b0 g4) (q1 aF (qN (aO.ret ?_))))))
   cases aZ H
   exact bR
  iterate 2 refine qk g4 ?_
  refine q1 (cC g4) (q1 aF (qN (aO.ret ?_)))
  cases aZ H
  exact bR
 iterate 2 refine qk g1 ?_
 refine q1 (cC g1) (q1 aF ?_)
 iterate 2 refine qk rfl ?_
 refine q1 (cC rfl) (q1 aF (qN (aO.ret ?_)))
 cases aZ H
 exact bR
def afL(m:aH→(List ByteArray)→Option Bool):Prop:= ∀(pe:aH) (pvars:List ByteArray) (r:Bool),m pe pvars=some r→cA Tryz.prog 278 [(aH.pv pe),rS pvars] (pB r:PV)
def acP(fu:Nat)(pe:aH)(pvars x2:List ByteArray):Nat→Unit→Option (LR Unit Bool):=
 fun i3 _=>bd (lV fu pvars (bB x2 i3)) (fun x7=>
 sw (!(x7))
 (some (.ret false))
 (some (.next ())))
def acQ(fu:Nat)(pe:aH)(pvars x2:List ByteArray):Option (Bool⊕Unit):=
 loopN (acP fu pe pvars x2) (x2.length-0) 0 ()
def yS(fu:Nat)(pe:aH)(pvars:List ByteArray):Option Bool:=
 bd (uJ fu pe) (fun x2=>
 so (acQ fu pe pvars x2) (fun _=>
 bd (yL fu pe) (fun x10=>
 some x10)))
theorem E4(fu:Nat):afL (yS fu):=by
 intro pe pvars r H
 have H:=fF H
 refine qI Tryz.func278 (fun C hC=>?_)
 refine qS (qR (q1 (kQ (iR pe)) (q1 aF (qN (qS (qR (q1 (cY [pI pe.gKind,pS pe.gTrait,pS pe.gName,pI pe.gN,pI pe.gType.gKind,pS pe.gType.gName,aW pe.gType.gArgs,fZ pe.gArgs,nG pe.gArms] iH) (bU H fun x2 z1 H=>(q1 (bQ Tryz.func286 (L0 fu pe _ z1)) (q1 aF (qN ?_)))))))))))
 iterate 2 refine qS ?_
 refine qR (q1 aF (qN ?_))
 refine kV 5 (bI _) (fun hl4=>?_)
 refine cM (σ:=Unit) (fun i3 _=>⟨[(1,rS pvars),(2,.ptr 0 0),(4,pB false),(5,rS x2),(6,pN i3)],⟨[some ⟨87,iR pe⟩],[]⟩⟩) (fun _=>⟨[(2,.ptr 0 0),(4,pB false)],⟨[some ⟨87,iR pe⟩],[]⟩⟩) (gW H) ?_ ?_
 ·rintro i3 ⟨⟩ H
  iterate 2 refine qS ?_
  refine qR ?_
  iterate 2 refine q1 aF ?_
  refine q1 (eR b6 (bI _)) (q1 iQ (qN ?_))
  refine eO H (fun h5 h5l H=>?_) (fun h5 H=>?_)
  ·have h5n:=bF h5
   refine aO.skip (qS (aO.block (qS (qR ?_))))
   iterate 3 refine q1 aF ?_
   refine q1 (jH h5n b6) (q1 (p9 fO) (bU H fun x7 z6 H=>(q1 (bQ Tryz.func125 (nK fu pvars (bB x2 i3) _ z6)) (q1 iS (qN ?_)))))
   refine bH H (fun h8 H=>?_) (fun h8 H=>?_)
   ·refine qS (qR (q1 aF (qN (aO.ret ?_))))
    obtain rfl:_=r:=(rK (aZ H):)
    exact bR
   refine aO.skip (qR (q1 aF (q1 (aV.addI rfl rfl rfl rfl (c:=((i3+1:Nat):Int)) (by omega) (by omega)) (q1 aF (qN ?_)))))
   exact j8 h5l ⟨_,(aZ H:),b9⟩
  refine aO.exit ?_;exact lP ⟨_,H,b9⟩
 rintro⟨⟩ H
 refine qS (qR (q1 (cY [pI pe.gKind,pS pe.gTrait,pS pe.gName,pI pe.gN,pI pe.gType.gKind,pS pe.gType.gName,aW pe.gType.gArgs,fZ pe.gArgs,nG pe.gArms] iH) (bU H fun x10 z9 H=>(q1 (bQ Tryz.func287 (P9 fu pe _ z9)) (q1 aF (qN (aO.ret ?_)))))))
 cases aZ H
 exact bR
def ajP(m:aE→Option Bool):Prop:= ∀(ps:aE) (r:Bool),m ps=some r→cA Tryz.prog 273 [(aE.pv ps)] (pB r:PV)
def OD(fu:Nat)(ps:aE):Option Bool:=
 bd (eB fu ps.gName) (fun x2=>
 sw (!(x2))
 (some false)
 (sw (decide ((ps.gParams.length:Int)>4))
 (some false)
 (bd (F4 fu ps.gParams ([jX]:List ByteArray)) (fun x6=>
 sw (!(x6))
 (some false)
 (bd (n9 fu ps.gResult ([jX]:List ByteArray)) (fun x9=>
 sw (!(x9))
 (some false)
 (sw (!(ps.gHasDefault))
 (sw (decide ((ps.gVars.length:Int)=0))
 (bd (KB fu ps.gBody) (fun x14=>
 some x14))
 (some false))
 (bd (gL fu ps.gVars 5) (fun x16=>
 sw (x16)
 (sw (decide ((ps.gVars.length:Int)=aQ ((ps.gParams.length:Int)+1)))
 (bd (yS fu ps.gBody ps.gVars) (fun x20=>
 some x20))
 (some false))
 (some false))))))))))
theorem afP(fu:Nat):ajP (OD fu):=by
 intro ps r H
 have H:=fF H
 refine qI Tryz.func273 (fun C hC=>?_)
 refine qS (qR (q1 (kQ (aeI ps)) (q1 aF (qN ?_))))
 iterate 2 refine qS ?_
 refine qR (q1 (bC XP) (q1 (bL fO) (bU H fun x2 z1 H=>(q1 (bQ Tryz.func235 (eJ fu ps.gName _ z1)) (q1 iS (q1 aF ?_))))))
 refine eK 7 H (fun g3 H=>?_) fun g3 H=>?_
 ·refine qk g3 ?_
  iterate 3 refine qk g3 ?_
  refine q1 (b0 g3) (q1 aF ?_)
  iterate 5 refine qk rfl ?_
  refine q1 (b0 rfl) (q1 aF ?_)
  iterate 5 refine qk rfl ?_
  refine q1 (b0 rfl) (qN (eM rfl (qS (qR (q1 aF (qN (aO.ret ?_)))))))
  cases aZ H
  exact bR
 refine qg g3 (bC QW) (qg g3 (bL mQ) (qg g3 (eR dX (aA.trs_len _)) (qg g3 MI (q1 (cC g3) (q1 aF ?_)))))
 refine eK 13 H (fun g4 H=>?_) fun g4 H=>?_
 ·refine qk g4 ?_
  iterate 4 refine qk g4 ?_
  refine q1 (b0 g4) (q1 aF ?_)
  iterate 5 refine qk rfl ?_
  refine q1 (b0 rfl) (qN (eM rfl (qS (qR (q1 aF (qN (aO.ret ?_)))))))
  cases aZ H
  exact bR
 refine qg g4 (bC QW) (qg g4 (bL mQ) (qg g4 (iW ([jX]:List ByteArray) b6 lO) (bU H fun x6 z5 H=>(qg g4 (bQ Tryz.func274 (TK fu ps.gParams ([jX]:List ByteArray) _ z5)) (qg g4 iS (q1 (cC g4) (q1 aF ?_)))))))
 refine eK 20 H (fun g7 H=>?_) fun g7 H=>?_
 ·refine qk g7 ?_
  iterate 4 refine qk g7 ?_
  refine q1 (b0 g7) (qN (eM rfl (qS (qR (q1 aF (qN (aO.ret ?_)))))))
  cases aZ H
  exact bR
 refine qg g7 (bC QX) (qg g7 (cY [pI ps.gResult.gKind,pS ps.gResult.gName,aW ps.gResult.gArgs] b8) (qg g7 (iW ([jX]:List ByteArray) b6 lO) (bU H fun x9 z8 H=>(qg g7 (bQ Tryz.func275 (qC fu ps.gResult ([jX]:List ByteArray) _ z8)) (qg g7 iS (q1 (cC g7) (qN ?_)))))))
 refine bH H (fun h10 H=>?_) (fun h10 H=>?_)
 ·refine qS (qR (q1 aF (qN (aO.ret ?_))))
  cases aZ H
  exact bR
 refine aO.skip ?_
 iterate 2 refine qS ?_
 refine qR (q1 (bC K4) (q1 (bL sh4) (q1 iS (qN ?_))))
 refine bH H (fun h11 H=>?_) (fun h11 H=>?_)
 ·refine qS (qR (q1 (bC FP) (q1 (bL lI) (q1 (eR b6 (bI _)) (q1 eP (q1 aF ?_))))))
  refine eK 34 H (fun g12 H=>?_) fun g12 H=>?_
  ·refine qg g12 (bC QY) (qg g12 (cY [pI ps.gBody.gKind,pS ps.gBody.gTrait,pS ps.gBody.gName,pI ps.gBody.gN,pI ps.gBody.gType.gKind,pS ps.gBody.gType.gName,aW ps.gBody.gType.gArgs,fZ ps.gBody.gArgs,nG ps.gBody.gArms] iH) (bU H fun x14 z13 H=>(qg g12 (bQ Tryz.func283 (acV fu ps.gBody _ z13)) (q1 (b0 g12) (q1 aF (qN (aO.ret ?_)))))))
   cases aZ H
   exact bR
  iterate 3 refine qk g12 ?_
  refine q1 (cC g12) (q1 aF (qN (aO.ret ?_)))
  cases aZ H
  exact bR
 refine aO.skip (qS (qR (q1 (bC FP) (q1 (bL lI) (bU H fun x16 z15 H=>(q1 (bQ Tryz.func236 (gT fu ps.gVars 5 _ z15)) (q1 aF ?_)))))))
 refine eK 42 H (fun g17 H=>?_) fun g17 H=>?_
 ·refine qg g17 (bC FP) (qg g17 (bL lI) (qg g17 (eR b6 (bI _)) (qg g17 (bC QW) (qg g17 (bL mQ) (qg g17 (eR dX (aA.trs_len _)) (qg g17 Q6 (qg g17 eP (q1 (b0 g17) (q1 aF ?_)))))))))
  refine eK 52 H (fun g18 H=>?_) fun g18 H=>?_
  ·refine qg g18 (bC QY) (qg g18 (cY [pI ps.gBody.gKind,pS ps.gBody.gTrait,pS ps.gBody.gName,pI ps.gBody.gN,pI ps.gBody.gType.gKind,pS ps.gBody.gType.gName,aW ps.gBody.gType.gArgs,fZ ps.gBody.gArgs,nG ps.gBody.gArms] iH) (qg g18 (bC FP) (qg g18 (bL lI) (bU H fun x20 z19 H=>(qg g18 (bQ Tryz.func278 (E4 fu ps.gBody ps.gVars _ z19)) (q1 (b0 g18) (q1 aF (qN (aO.ret ?_)))))))))
   cases aZ H
   exact bR
  iterate 5 refine qk g18 ?_
  refine q1 (cC g18) (q1 aF (qN (aO.ret ?_)))
  cases aZ H
  exact bR
 iterate 8 refine qk g17 ?_
 refine q1 (cC g17) (q1 aF ?_)
 iterate 5 refine qk rfl ?_
 refine q1 (cC rfl) (q1 aF (qN (aO.ret ?_)))
 cases aZ H
 exact bR
def QE(m:aU→Option Bool):Prop:= ∀(pt:aU) (r:Bool),m pt=some r→cA Tryz.prog 256 [(aU.pv pt)] (pB r:PV)
def NO(fu:Nat)(pt:aU):Nat→((List ByteArray))→Option (LR ((List ByteArray)) Bool):=
 fun i1 v3=>lt (bB pt.gSignatures i1) (fun y6=>
 bd (OD fu y6) (fun x9=>
 sw (!(x9))
 (some (.ret false))
 (gd ((v3).length+(([y6.gName]:List ByteArray)).length≤68719476736)
 (some (.next (v3++([y6.gName]:List ByteArray)))))))
def NP(fu:Nat)(pt:aU):Option (Bool⊕((List ByteArray))):=
 loopN (NO fu pt) (pt.gSignatures.length-0) 0 ([])
def rR(fu:Nat)(pt:aU):Option Bool:=
 so (NP fu pt) (fun v3=>
 sw (pt.gAuto)
 (sw (pt.gAssoc)
 (some false)
 (sw (decide ((pt.gSignatures.length:Int)>0))
 (some false)
 (sw (decide ((pt.gSupertraits.length:Int)>0))
 (some false)
 (bd (eB fu pt.gName) (fun x17=>
 sw (x17)
 (bd (gL fu pt.gSupertraits 4) (fun x20=>
 sw (x20)
 (bd (gL fu v3 6) (fun x23=>
 some x23))
 (some false)))
 (some false))))))
 (bd (eB fu pt.gName) (fun x25=>
 sw (x25)
 (bd (gL fu pt.gSupertraits 4) (fun x28=>
 sw (x28)
 (bd (gL fu v3 6) (fun x31=>
 some x31))
 (some false)))
 (some false))))
theorem BL(fu:Nat):QE (rR fu):=by
 intro pt r H
 have H:=fF H
 refine qI Tryz.func256 (fun C hC=>?_)
 refine qS (qR (q1 (kQ (D5 pt)) (q1 aF (qN (qS (qR (q1 (wA ([]:List ByteArray) b6 lO) (q1 aF (qN ?_)))))))))
 iterate 2 refine qS ?_
 refine qR (q1 aF (qN ?_))
 refine aO.fact (c3 0 4 rfl rfl rfl (aE.trs_len _)) (fun hl4=>?_)
 refine cM (σ:=(List ByteArray)) (fun i1 v3=>⟨[(1,.ptr 0 0),(2,pB false),(3,aS v3 0),(4,pN i1)],⟨[some ⟨60,D5 pt⟩],[⟨9,1,aX (v3),false⟩]⟩⟩) (fun v3=>⟨[(1,.ptr 0 0),(2,pB false),(3,aS v3 0)],⟨[some ⟨60,D5 pt⟩],[⟨9,1,aX (v3),false⟩]⟩⟩) (gW H) ?_ ?_
 ·rintro i1 v3 H
  iterate 2 refine qS ?_
  refine qR (q1 aF (q1 (bC mJ) (q1 (bL H2) (q1 (eR wU (aE.trs_len _)) (q1 iQ (qN ?_))))))
  refine eO H (fun h5 h5l H=>?_) (fun h5 H=>?_)
  ·have h5n:=bF h5
   refine aO.skip (qS (aO.block ?_))
   iterate 2 refine qS ?_
   refine qR (q1 (bC mJ) (q1 (bL H2) (q1 aF (gU H fun y6 h7 H=>(q1 (yI h7 h5n wU) (q1 (lB (aE.cs y6) abP) (bU H fun x9 z8 H=>(q1 (bQ Tryz.func273 (afP fu y6 _ z8)) (q1 iS (qN ?_))))))))))
   refine bH H (fun h10 H=>?_) (fun h10 H=>?_)
   ·refine qS (qR (q1 aF (qN (aO.ret ?_))))
    obtain rfl:_=r:=(rK (aZ H):)
    exact bR
   refine aO.skip (qR (q1 aF (q1 (bC mJ) (q1 (bL H2) (q1 aF (q1 (yI h7 h5n wU) (q1 (rC XP) (q1 (p9 fO) (q1 (iW ([y6.gName]:List ByteArray) b6 lO) (c9 H fun z11 H=>(q1 (oE z11 b6 sM) (q1 aF (qN ?_)))))))))))))
   refine qR (q1 aF (q1 (aV.addI rfl rfl rfl rfl (c:=((i1+1:Nat):Int)) (by omega) (by omega)) (q1 aF (qN ?_))))
   exact j8 h5l ⟨_,(aZ H:),b9⟩
  refine aO.exit ?_;exact lP ⟨_,H,b9⟩
 rintro v3 H
 iterate 2 refine qS ?_
 refine qR (q1 (bC aeM) (q1 (bL sh4) (q1 aF ?_)))
 refine eK 31 H (fun g12 H=>?_) fun g12 H=>?_
 ·refine qg g12 (bC akZ) (qg g12 (bL sh4) (qg g12 aF ?_))
  refine eK 34 H (fun g13 H=>?_) fun g13 H=>?_
  ·refine qk g13 ?_
   iterate 3 refine qk g13 ?_
   refine qg g12 (b0 g13) (qg g12 aF ?_)
   iterate 4 refine qk rfl ?_
   refine qg g12 (b0 rfl) (q1 (b0 g12) (qN (eM rfl (qS (qR (q1 aF (qN (aO.ret ?_))))))))
   cases aZ H
   exact bR
  refine qg g13 (bC mJ) (qg g13 (bL H2) (qg g13 (eR wU (aE.trs_len _)) (qg g13 MI (qg g12 (cC g13) (qg g12 aF ?_)))))
  refine eK 40 H (fun g14 H=>?_) fun g14 H=>?_
  ·refine qk g14 ?_
   iterate 3 refine qk g14 ?_
   refine qg g12 (b0 g14) (q1 (b0 g12) (qN (eM rfl (qS (qR (q1 aF (qN (aO.ret ?_))))))))
   cases aZ H
   exact bR
  refine qg g14 (bC B8) (qg g14 (bL lI) (qg g14 (eR b6 (bI _)) (qg g14 MI (qg g12 (cC g14) (q1 (b0 g12) (qN ?_))))))
  refine bH H (fun h15 H=>?_) (fun h15 H=>?_)
  ·refine qS (qR (q1 aF (qN (aO.ret ?_))))
   cases aZ H
   exact bR
  refine aO.skip (qS (qR (q1 (bC I5) (q1 (bL fO) (bU H fun x17 z16 H=>(q1 (bQ Tryz.func235 (eJ fu pt.gName _ z16)) (q1 aF ?_)))))))
  refine eK 50 H (fun g18 H=>?_) fun g18 H=>?_
  ·refine qg g18 (bC B8) (qg g18 (bL lI) (bU H fun x20 z19 H=>(qg g18 (bQ Tryz.func236 (gT fu pt.gSupertraits 4 _ z19)) (q1 (b0 g18) (q1 aF ?_)))))
   refine eK 55 H (fun g21 H=>?_) fun g21 H=>?_
   ·refine qg g21 aF (bU H fun x23 z22 H=>(qg g21 (bQ Tryz.func236 (gT fu v3 6 _ z22)) (q1 (b0 g21) (q1 aF (qN (aO.ret ?_))))))
    cases aZ H
    exact bR
   iterate 2 refine qk g21 ?_
   refine q1 (cC g21) (q1 aF (qN (aO.ret ?_)))
   cases aZ H
   exact bR
  iterate 3 refine qk g18 ?_
  refine q1 (cC g18) (q1 aF ?_)
  iterate 2 refine qk rfl ?_
  refine q1 (cC rfl) (q1 aF (qN (aO.ret ?_)))
  cases aZ H
  exact bR
 iterate 3 refine qk g12 ?_
 iterate 4 refine IF ?_
 iterate 2 refine qk g12 ?_
 iterate 4 refine IF ?_
 refine qk g12 (q1 (cC g12) (qN (kP rfl (aO.skip (qS (qR (q1 (bC I5) (q1 (bL fO) (bU H fun x25 z24 H=>(q1 (bQ Tryz.func235 (eJ fu pt.gName _ z24)) (q1 aF ?_)))))))))))
 refine eK 50 H (fun g26 H=>?_) fun g26 H=>?_
 ·refine qg g26 (bC B8) (qg g26 (bL lI) (bU H fun x28 z27 H=>(qg g26 (bQ Tryz.func236 (gT fu pt.gSupertraits 4 _ z27)) (q1 (b0 g26) (q1 aF ?_)))))
  refine eK 55 H (fun g29 H=>?_) fun g29 H=>?_
  ·refine qg g29 aF (bU H fun x31 z30 H=>(qg g29 (bQ Tryz.func236 (gT fu v3 6 _ z30)) (q1 (b0 g29) (q1 aF (qN (aO.ret ?_))))))
   cases aZ H
   exact bR
  iterate 2 refine qk g29 ?_
  refine q1 (cC g29) (q1 aF (qN (aO.ret ?_)))
  cases aZ H
  exact bR
 iterate 3 refine qk g26 ?_
 refine q1 (cC g26) (q1 aF ?_)
 iterate 2 refine qk rfl ?_
 refine q1 (cC rfl) (q1 aF (qN (aO.ret ?_)))
 cases aZ H
 exact bR
def JR(m:aM→Option Bool):Prop:= ∀(pd:aM) (r:Bool),m pd=some r→cA Tryz.prog 257 [(aM.pv pd)] (pB r:PV)
def G3(fu:Nat)(pd:aM):Nat→((List ByteArray))→Option (LR ((List ByteArray)) Bool):=
 fun i1 v3=>sw (decide ((((((bB pd.gConstructors i1).gFields).length:Nat):Int):Int)>4))
 (some (.ret false))
 (bd (F4 fu ((bB pd.gConstructors i1).gFields) pd.gVars) (fun x8=>
 sw (!(x8))
 (some (.ret false))
 (gd ((v3).length+(([((bB pd.gConstructors i1).gName)]:List ByteArray)).length≤68719476736)
 (some (.next (v3++([((bB pd.gConstructors i1).gName)]:List ByteArray)))))))
def G4(fu:Nat)(pd:aM):Option (Bool⊕((List ByteArray))):=
 loopN (G3 fu pd) (pd.gConstructors.length-0) 0 ([])
def n3(fu:Nat)(pd:aM):Option Bool:=
 so (G4 fu pd) (fun v3=>
 bd (eB fu pd.gName) (fun x12=>
 sw (x12)
 (bd (gL fu pd.gVars 3) (fun x15=>
 sw (x15)
 (sw (decide ((v3.length:Int)>0))
 (bd (gL fu v3 5) (fun x19=>
 some x19))
 (some false))
 (some false)))
 (some false)))
theorem wN(fu:Nat):JR (n3 fu):=by
 intro pd r H
 have H:=fF H
 refine qI Tryz.func257 (fun C hC=>?_)
 refine qS (qR (q1 (kQ (xF pd)) (q1 aF (qN (qS (qR (q1 (wA ([]:List ByteArray) b6 lO) (q1 aF (qN ?_)))))))))
 iterate 2 refine qS ?_
 refine qR (q1 aF (qN ?_))
 refine aO.fact (c3 0 2 rfl rfl rfl (aD.trs_len _)) (fun hl4=>?_)
 refine cM (σ:=(List ByteArray)) (fun i1 v3=>⟨[(1,.ptr 0 0),(2,pB false),(3,aS v3 0),(4,pN i1)],⟨[some ⟨116,xF pd⟩],[⟨9,1,aX (v3),false⟩]⟩⟩) (fun v3=>⟨[(1,.ptr 0 0),(2,pB false),(3,aS v3 0)],⟨[some ⟨116,xF pd⟩],[⟨9,1,aX (v3),false⟩]⟩⟩) (gW H) ?_ ?_
 ·rintro i1 v3 H
  iterate 2 refine qS ?_
  refine qR (q1 aF (q1 (bC m5) (q1 (bL zK) (q1 (eR wM (aD.trs_len _)) (q1 iQ (qN ?_))))))
  refine eO H (fun h5 h5l H=>?_) (fun h5 H=>?_)
  ·have h5n:=bF h5
   refine aO.skip (qS (aO.block ?_))
   iterate 2 refine qS ?_
   rcases nN (decide ((((((bB pd.gConstructors i1).gFields).length:Nat):Int):Int)>4)) with g6|g6
   ·have H:=qZ H g6
    refine dW (dI [1] (bC m5) (dD [13] (bL zK) (dI [4] aF (dI [14,15] (jH h5n wM) (dI [16] (rC K5) (dI [17] (p9 mQ) (dI [18] (eR dX (aA.trs_len _)) (dI [19] MI (dI [20] aF ?_)))))))))
    iterate 10 refine H8 g6 ?_
    refine dI [21] (b0 g6) (dN (eM rfl (qS (qR (q1 aF (qN (aO.ret ?_)))))))
    obtain rfl:_=r:=(rK (aZ H):)
    exact bR
   have H:=qY H g6
   refine bU H fun x8 z7 H=>(dW (dI [1] (bC m5) (dD [13] (bL zK) (dI [4] aF (dI [14,15] (jH h5n wM) (dI [16] (rC K5) (dI [17] (p9 mQ) (dI [18] (eR dX (aA.trs_len _)) (dI [19] MI (dI [20] aF (dI (hg:=bE g6) [1] (bC m5) (dD (hg:=bE g6) [22] (bL zK) (dI (hg:=bE g6) [4] aF ?_)))))))))))))
   refine dI (hg:=bE g6) [23,24] (jH h5n wM) (dI (hg:=bE g6) [25] (rC K5) (dI (hg:=bE g6) [26] (p9 mQ) (dI (hg:=bE g6) [1] (bC K2) (dD (hg:=bE g6) [28] (bL lI) (dI (hg:=bE g6) [27,29] (bQ Tryz.func274 (TK fu ((bB pd.gConstructors i1).gFields) pd.gVars _ z7)) (dI (hg:=bE g6) [30] iS (dI [21,31] (cC g6) (dN ?_))))))))
   refine bH H (fun h9 H=>?_) (fun h9 H=>?_)
   ·refine qS (qR (q1 aF (qN (aO.ret ?_))))
    obtain rfl:_=r:=(rK (aZ H):)
    exact bR
   refine aO.skip (qR (q1 aF (q1 (bC m5) (q1 (bL zK) (q1 aF (q1 (jH h5n wM) (q1 (rC QZ) (q1 (p9 fO) (q1 (iW ([((bB pd.gConstructors i1).gName)]:List ByteArray) b6 lO) (c9 H fun z10 H=>(q1 (oE z10 b6 sM) (q1 aF (qN ?_)))))))))))))
   refine qR (q1 aF (q1 (aV.addI rfl rfl rfl rfl (c:=((i1+1:Nat):Int)) (by omega) (by omega)) (q1 aF (qN ?_))))
   exact j8 h5l ⟨_,(aZ H:),b9⟩
  refine aO.exit ?_;exact lP ⟨_,H,b9⟩
 rintro v3 H
 refine qS (qR (q1 (bC XJ) (q1 (bL fO) (bU H fun x12 z11 H=>(q1 (bQ Tryz.func235 (eJ fu pd.gName _ z11)) (q1 aF ?_))))))
 refine eK 45 H (fun g13 H=>?_) fun g13 H=>?_
 ·refine qg g13 (bC K2) (qg g13 (bL lI) (bU H fun x15 z14 H=>(qg g13 (bQ Tryz.func236 (gT fu pd.gVars 3 _ z14)) (q1 (b0 g13) (q1 aF ?_)))))
  refine eK 50 H (fun g16 H=>?_) fun g16 H=>?_
  ·refine qg g16 aF (qg g16 (eR b6 (bI _)) (qg g16 MI (q1 (b0 g16) (q1 aF ?_))))
   refine eK 55 H (fun g17 H=>?_) fun g17 H=>?_
   ·refine qg g17 aF (bU H fun x19 z18 H=>(qg g17 (bQ Tryz.func236 (gT fu v3 5 _ z18)) (q1 (b0 g17) (q1 aF (qN (aO.ret ?_))))))
    cases aZ H
    exact bR
   iterate 2 refine qk g17 ?_
   refine q1 (cC g17) (q1 aF (qN (aO.ret ?_)))
   cases aZ H
   exact bR
  iterate 3 refine qk g16 ?_
  refine q1 (cC g16) (q1 aF ?_)
  iterate 2 refine qk rfl ?_
  refine q1 (cC rfl) (q1 aF (qN (aO.ret ?_)))
  cases aZ H
  exact bR
 iterate 3 refine qk g13 ?_
 refine q1 (cC g13) (q1 aF ?_)
 iterate 3 refine qk rfl ?_
 refine q1 (cC rfl) (q1 aF ?_)
 iterate 2 refine qk rfl ?_
 refine q1 (cC rfl) (q1 aF (qN (aO.ret ?_)))
 cases aZ H
 exact bR
def P8(m:aI→Option Bool):Prop:= ∀(pb:aI) (r:Bool),m pb=some r→cA Tryz.prog 285 [(aI.pv pb)] (pB r:PV)
def wC(fu:Nat)(pb:aI):Option Bool:=
 bd (eB fu pb.gTrait) (fun x2=>
 sw (x2)
 (bd (kL fu pb.gType) (fun x5=>
 some x5))
 (some false))
theorem NN(fu:Nat):P8 (wC fu):=by
 intro pb r H
 have H:=fF H
 refine qI Tryz.func285 (fun C hC=>?_)
 refine qS (qR (q1 (kQ (rV pb)) (q1 aF (qN (qS (qR (q1 (bC RU) (q1 (bL fO) (bU H fun x2 z1 H=>(q1 (bQ Tryz.func235 (eJ fu pb.gTrait _ z1)) (q1 aF ?_)))))))))))
 refine eK 6 H (fun g3 H=>?_) fun g3 H=>?_
 ·refine qg g3 (bC xU) (qg g3 (cY [pI pb.gType.gKind,pS pb.gType.gName,aW pb.gType.gArgs] b8) (bU H fun x5 z4 H=>(qg g3 (bQ Tryz.func284 (l4 fu pb.gType _ z4)) (q1 (b0 g3) (q1 aF (qN (aO.ret ?_)))))))
  cases aZ H
  exact bR
 iterate 3 refine qk g3 ?_
 refine q1 (cC g3) (q1 aF (qN (aO.ret ?_)))
 cases aZ H
 exact bR
def acZ(m:(List aI)→(List ByteArray)→Option Bool):Prop:= ∀(plist:List aI) (pvars:List ByteArray) (r:Bool),m plist pvars=some r→cA Tryz.prog 276 [fD plist,rS pvars] (pB r:PV)
def Y2(fu:Nat)(plist:List aI)(pvars:List ByteArray):Nat→Unit→Option (LR Unit Bool):=
 fun i1 _=>bd (wC fu (bB plist i1)) (fun x5=>
 sw (!(x5))
 (some (.ret false))
 (bd (n9 fu ((bB plist i1).gType) pvars) (fun x8=>
 sw (!(x8))
 (some (.ret false))
 (bd (dU fu ((bB plist i1).gType)) (fun x11=>
 sw (x11)
 (some (.ret false))
 (some (.next ())))))))
def Y3(fu:Nat)(plist:List aI)(pvars:List ByteArray):Option (Bool⊕Unit):=
 loopN (Y2 fu plist pvars) (plist.length-0) 0 ()
def zL(fu:Nat)(plist:List aI)(pvars:List ByteArray):Option Bool:=
 so (Y3 fu plist pvars) (fun _=>
 some (decide ((plist.length:Int)≤4)))
theorem L7(fu:Nat):acZ (zL fu):=by
 intro plist pvars r H
 have H:=fF H
 refine qI Tryz.func276 (fun C hC=>?_)
 refine qS (qR (q1 aF (qN ?_)))
 iterate 2 refine qS ?_
 refine qR (q1 aF (qN ?_))
 refine kV 0 (aI.trs_len _) (fun hl2=>?_)
 refine cM (σ:=Unit) (fun i1 _=>⟨[(0,fD plist),(1,rS pvars),(4,pB false),(5,pN i1)],⟨[],[]⟩⟩) (fun _=>⟨[(0,fD plist),(4,pB false)],⟨[],[]⟩⟩) (gW H) ?_ ?_
 ·rintro i1 ⟨⟩ H
  iterate 2 refine qS ?_
  refine qR ?_
  iterate 2 refine q1 aF ?_
  refine q1 (eR yW (aI.trs_len _)) (q1 iQ (qN ?_))
  refine eO H (fun h3 h3l H=>?_) (fun h3 H=>?_)
  ·have h3n:=bF h3
   refine aO.skip (qS (aO.block (qS (qR ?_))))
   iterate 2 refine q1 aF ?_
   refine q1 (jH h3n yW) (q1 (lB (aI.cs (bB plist i1)) HZ) (bU H fun x5 z4 H=>(q1 (bQ Tryz.func285 (NN fu (bB plist i1) _ z4)) (q1 iS (q1 aF ?_)))))
   refine eK 18 H (fun g6 H=>?_) fun g6 H=>?_
   ·refine qk g6 ?_
    iterate 7 refine qk g6 ?_
    refine q1 (b0 g6) (q1 aF ?_)
    iterate 6 refine qk rfl ?_
    refine q1 (b0 rfl) (qN (eM rfl (qS (qR (q1 aF (qN (aO.ret ?_)))))))
    obtain rfl:_=r:=(rK (aZ H):)
    exact bR
   iterate 2 refine qg g6 aF ?_
   refine qg g6 (jH h3n yW) (qg g6 (rC xU) (qg g6 (lB (aA.cs ((bB plist i1).gType)) b8) (qg g6 aF (bU H fun x8 z7 H=>(qg g6 (bQ Tryz.func275 (qC fu ((bB plist i1).gType) pvars _ z7)) (qg g6 iS (q1 (cC g6) (q1 aF ?_))))))))
   refine eK 28 H (fun g9 H=>?_) fun g9 H=>?_
   ·refine qk g9 ?_
    iterate 5 refine qk g9 ?_
    refine q1 (b0 g9) (qN (eM rfl (qS (qR (q1 aF (qN (aO.ret ?_)))))))
    obtain rfl:_=r:=(rK (aZ H):)
    exact bR
   iterate 2 refine qg g9 aF ?_
   refine qg g9 (jH h3n yW) (qg g9 (rC xU) (qg g9 (lB (aA.cs ((bB plist i1).gType)) b8) (bU H fun x11 z10 H=>(qg g9 (bQ Tryz.func139 (tO fu ((bB plist i1).gType) _ z10)) (q1 (cC g9) (qN ?_))))))
   refine bH H (fun h12 H=>?_) (fun h12 H=>?_)
   ·refine qS (qR (q1 aF (qN (aO.ret ?_))))
    obtain rfl:_=r:=(rK (aZ H):)
    exact bR
   refine aO.skip (qR (q1 aF (q1 (aV.addI rfl rfl rfl rfl (c:=((i1+1:Nat):Int)) (by omega) (by omega)) (q1 aF (qN ?_)))))
   exact j8 h3l ⟨_,(aZ H:),b9⟩
  refine aO.exit ?_;exact lP ⟨_,H,b9⟩
 rintro⟨⟩ H
 refine qS (qR (q1 aF (q1 (eR yW (aI.trs_len _)) (q1 rLe (q1 aF (qN (aO.ret ?_)))))))
 cases aZ H
 exact bR
def JT(m:aG→Option Bool):Prop:= ∀(pa0:aG) (r:Bool),m pa0=some r→cA Tryz.prog 258 [(aG.pv pa0)] (pB r:PV)
def G8(fu:Nat)(pa0:aG)(x2 x5 x8 x11 x15:Bool):Nat→Unit→Option (LR Unit Bool):=
 fun i17 _=>bd (ET fu (bB pa0.gVars i17) pa0.gHead) (fun x21=>
 sw (!(x21))
 (some (.ret false))
 (some (.next ())))
def HB(fu:Nat)(pa0:aG)(x2 x5 x8 x11 x15:Bool):Option (Bool⊕Unit):=
 loopN (G8 fu pa0 x2 x5 x8 x11 x15) (pa0.gVars.length-0) 0 ()
def G7(fu:Nat)(pa0:aG)(x2 x5 x8 x11 x15:Bool):Option (Bool⊕Unit):=
 sw (pa0.gHasAssoc)
 (bd (n9 fu pa0.gAssoc pa0.gVars) (fun x25=>
 sw (!(x25))
 (some (.inl false))
 (some (.inr ()))))
 (bd (sK fu pa0.gAssoc) (fun x28=>
 sw (!(x28))
 (some (.inl false))
 (some (.inr ()))))
def G9(fu:Nat)(pa0:aG)(x2 x5 x8 x11 x15:Bool):Nat→((List ByteArray))→Option (LR ((List ByteArray)) Bool):=
 fun i30 v32=>lt (bB pa0.gMethods i30) (fun y35=>
 sw (decide ((y35.gVars.length:Int)=0))
 (some (.ret false))
 (bd (gL fu y35.gVars 5) (fun x39=>
 sw (!(x39))
 (some (.ret false))
 (bd (yS fu y35.gBody y35.gVars) (fun x42=>
 sw (!(x42))
 (some (.ret false))
 (gd ((v32).length+(([y35.gName]:List ByteArray)).length≤68719476736)
 (some (.next (v32++([y35.gName]:List ByteArray))))))))))
def HF(fu:Nat)(pa0:aG)(x2 x5 x8 x11 x15:Bool):Option (Bool⊕((List ByteArray))):=
 loopN (G9 fu pa0 x2 x5 x8 x11 x15) (pa0.gMethods.length-0) 0 ([])
def n5(fu:Nat)(pa0:aG):Option Bool:=
 bd (eB fu pa0.gTrait) (fun x2=>
 sw (!(x2))
 (some false)
 (bd (gL fu pa0.gVars 3) (fun x5=>
 sw (!(x5))
 (some false)
 (bd (n9 fu pa0.gHead pa0.gVars) (fun x8=>
 sw (!(x8))
 (some false)
 (bd (dU fu pa0.gHead) (fun x11=>
 sw (x11)
 (some false)
 (sw (decide (pa0.gHead.gKind=4))
 (some false)
 (bd (zL fu pa0.gWhere pa0.gVars) (fun x15=>
 sw (!(x15))
 (some false)
 (so (HB fu pa0 x2 x5 x8 x11 x15) (fun _=>
 so (G7 fu pa0 x2 x5 x8 x11 x15) (fun _=>
 so (HF fu pa0 x2 x5 x8 x11 x15) (fun v32=>
 bd (gL fu v32 6) (fun x46=>
 some x46)))))))))))))))
theorem wP(fu:Nat):JT (n5 fu):=by
 intro pa0 r H
 have H:=fF H
 refine qI Tryz.func258 (fun C hC=>?_)
 refine qS (qR (q1 (kQ (eH pa0)) (q1 aF (qN ?_))))
 iterate 2 refine qS ?_
 refine qR (q1 (bC RW) (q1 (bL fO) (bU H fun x2 z1 H=>(q1 (bQ Tryz.func235 (eJ fu pa0.gTrait _ z1)) (q1 iS (q1 aF ?_))))))
 refine eK 11 H (fun g3 H=>?_) fun g3 H=>?_
 ·refine qk g3 ?_
  iterate 3 refine qk g3 ?_
  refine q1 (b0 g3) (q1 aF ?_)
  iterate 6 refine qk rfl ?_
  refine q1 (b0 rfl) (q1 aF ?_)
  iterate 3 refine qk rfl ?_
  refine q1 (b0 rfl) (q1 aF ?_)
  iterate 4 refine qk rfl ?_
  refine q1 (b0 rfl) (q1 aF ?_)
  iterate 6 refine qk rfl ?_
  refine q1 (b0 rfl) (qN (eM rfl (qS (qR (q1 aF (qN (aO.ret ?_)))))))
  cases aZ H
  exact bR
 refine qg g3 (bC rW) (qg g3 (bL lI) (bU H fun x5 z4 H=>(qg g3 (bQ Tryz.func236 (gT fu pa0.gVars 3 _ z4)) (qg g3 iS (q1 (cC g3) (q1 aF ?_))))))
 refine eK 17 H (fun g6 H=>?_) fun g6 H=>?_
 ·refine qk g6 ?_
  iterate 5 refine qk g6 ?_
  refine q1 (b0 g6) (q1 aF ?_)
  iterate 3 refine qk rfl ?_
  refine q1 (b0 rfl) (q1 aF ?_)
  iterate 4 refine qk rfl ?_
  refine q1 (b0 rfl) (q1 aF ?_)
  iterate 6 refine qk rfl ?_
  refine q1 (b0 rfl) (qN (eM rfl (qS (qR (q1 aF (qN (aO.ret ?_)))))))
  cases aZ H
  exact bR
 refine qg g6 (bC m9) (qg g6 (cY [pI pa0.gHead.gKind,pS pa0.gHead.gName,aW pa0.gHead.gArgs] b8) (qg g6 (bC rW) (qg g6 (bL lI) (bU H fun x8 z7 H=>(qg g6 (bQ Tryz.func275 (qC fu pa0.gHead pa0.gVars _ z7)) (qg g6 iS (q1 (cC g6) (q1 aF ?_))))))))
 refine eK 25 H (fun g9 H=>?_) fun g9 H=>?_
 ·refine qk g9 ?_
  iterate 2 refine qk g9 ?_
  refine q1 (b0 g9) (q1 aF ?_)
  iterate 4 refine qk rfl ?_
  refine q1 (b0 rfl) (q1 aF ?_)
  iterate 6 refine qk rfl ?_
  refine q1 (b0 rfl) (qN (eM rfl (qS (qR (q1 aF (qN (aO.ret ?_)))))))
  cases aZ H
  exact bR
 refine qg g9 (bC m9) (qg g9 (cY [pI pa0.gHead.gKind,pS pa0.gHead.gName,aW pa0.gHead.gArgs] b8) (bU H fun x11 z10 H=>(qg g9 (bQ Tryz.func139 (tO fu pa0.gHead _ z10)) (q1 (cC g9) (q1 aF ?_)))))
 refine eK 30 H (fun g12 H=>?_) fun g12 H=>?_
 ·refine qk g12 ?_
  iterate 3 refine qk g12 ?_
  refine q1 (b0 g12) (q1 aF ?_)
  iterate 6 refine qk rfl ?_
  refine q1 (b0 rfl) (qN (eM rfl (qS (qR (q1 aF (qN (aO.ret ?_)))))))
  cases aZ H
  exact bR
 refine qg g12 (bC m9) (qg g12 (bC lR) (qg g12 (bL kZ) (qg g12 eP (q1 (cC g12) (q1 aF ?_)))))
 refine eK 36 H (fun g13 H=>?_) fun g13 H=>?_
 ·refine qk g13 ?_
  iterate 5 refine qk g13 ?_
  refine q1 (b0 g13) (qN (eM rfl (qS (qR (q1 aF (qN (aO.ret ?_)))))))
  cases aZ H
  exact bR
 refine qg g13 (bC D8) (qg g13 (bL ae5) (qg g13 (bC rW) (qg g13 (bL lI) (bU H fun x15 z14 H=>(qg g13 (bQ Tryz.func276 (L7 fu pa0.gWhere pa0.gVars _ z14)) (qg g13 iS (q1 (cC g13) (qN ?_))))))))
 refine bH H (fun h16 H=>?_) (fun h16 H=>?_)
 ·refine qS (qR (q1 aF (qN (aO.ret ?_))))
  cases aZ H
  exact bR
 refine aO.skip ?_
 iterate 2 refine qS ?_
 refine qR (q1 aF (qN ?_))
 refine kV 13 (bI _) (fun hl18=>?_)
 refine cM (σ:=Unit) (fun i17 _=>⟨[(1,.ptr 0 0),(2,pB false),(3,pN i17)],⟨[some ⟨55,eH pa0⟩],[]⟩⟩) (fun _=>⟨[(1,.ptr 0 0),(2,pB false)],⟨[some ⟨55,eH pa0⟩],[]⟩⟩) (gW H) ?_ ?_
 ·rintro i17 ⟨⟩ H
  iterate 2 refine qS ?_
  refine qR (q1 aF (q1 (bC rW) (q1 (bL lI) (q1 (eR b6 (bI _)) (q1 iQ (qN ?_))))))
  refine eO H (fun h19 h19l H=>?_) (fun h19 H=>?_)
  ·have h19n:=bF h19
   refine aO.skip (qS (aO.block (qS (bU H fun x21 z20 H=>(dW (dI [1] (bC rW) (dD [51] (bL lI) (dI [3] aF (dI [52,53] (jH h19n b6) (dI [54] (p9 fO) (dI [1] (bC m9) (dD [56] (cY [pI pa0.gHead.gKind,pS pa0.gHead.gName,aW pa0.gHead.gArgs] b8) (dI [55,57] (bQ Tryz.func200 (YH fu (bB pa0.gVars i17) pa0.gHead _ z20)) ?_)))))))))))))
   refine dI [58] iS (dN ?_)
   refine bH H (fun h22 H=>?_) (fun h22 H=>?_)
   ·refine qS (qR (q1 aF (qN (aO.ret ?_))))
    obtain rfl:_=r:=(rK (aZ H):)
    exact bR
   refine aO.skip (qR (q1 aF (q1 (aV.addI rfl rfl rfl rfl (c:=((i17+1:Nat):Int)) (by omega) (by omega)) (q1 aF (qN ?_)))))
   exact j8 h19l ⟨_,(aZ H:),b9⟩
  refine aO.exit ?_;exact lP ⟨_,H,b9⟩
 rintro⟨⟩ H
 refine qS ?_;refine qF (σ:=Unit) (fun _=>⟨[(1,.ptr 0 0),(2,pB false)],⟨[some ⟨55,eH pa0⟩],[]⟩⟩) (gW H) (fun H=>?_) ?_
 ·refine qS (qR (q1 (bC MY) (q1 (bL sh4) (q1 aF ?_))))
  refine eK 62 H (fun g23 H=>?_) fun g23 H=>?_
  ·refine qg g23 (bC D9) (qg g23 (cY [pI pa0.gAssoc.gKind,pS pa0.gAssoc.gName,aW pa0.gAssoc.gArgs] b8) (qg g23 (bC rW) (qg g23 (bL lI) (bU H fun x25 z24 H=>(qg g23 (bQ Tryz.func275 (qC fu pa0.gAssoc pa0.gVars _ z24)) (qg g23 iS (q1 (b0 g23) (q1 aF ?_))))))))
   refine eK 70 H (fun g26 H=>?_) fun g26 H=>?_
   ·refine qk g26 ?_
    iterate 3 refine qk g26 ?_
    iterate 4 refine IF ?_
    refine qk g26 (q1 (b0 g26) (qN (eM rfl (qS (qR (q1 aF (qN (aO.ret ?_))))))))
    obtain rfl:_=r:=(F3 (aZ H):)
    exact bR
   refine qg g26 (bC MY) (qg g26 (bL sh4) (qg g26 iS (qg g26 aF ?_)))
   iterate 4 refine qk (congrArg (fun b=> !b) g23) ?_
   refine qg g26 (cC (congrArg (fun b=> !b) g23)) (q1 (cC g26) (qN (kP rfl (aO.skip ?_))))
   exact eC ⟨_,(aZ H:),b9⟩
  iterate 6 refine qk g23 ?_
  refine q1 (cC g23) (q1 aF (qg rfl (bC MY) (qg rfl (bL sh4) (qg rfl iS (qg rfl aF (qg (congrArg (fun b=> !b) g23) (bC D9) (qg (congrArg (fun b=> !b) g23) (cY [pI pa0.gAssoc.gKind,pS pa0.gAssoc.gName,aW pa0.gAssoc.gArgs] b8) (bU H fun x28 z27 H=>(qg (congrArg (fun b=> !b) g23) (bQ Tryz.func277 (vM fu pa0.gAssoc _ z27)) (qg (congrArg (fun b=> !b) g23) iS (qg rfl (b0 (congrArg (fun b=> !b) g23)) (q1 (cC rfl) (qN ?_)))))))))))))
  refine bH H (fun h29 H=>?_) (fun h29 H=>?_)
  ·refine qS (qR (q1 aF (qN (aO.ret ?_))))
   obtain rfl:_=r:=(F3 (aZ H):)
   exact bR
  refine aO.skip ?_;exact eC ⟨_,(aZ H:),b9⟩
 rintro⟨⟩ H
 refine qS (qR (q1 (wA ([]:List ByteArray) b6 lO) (q1 aF (qN ?_))))
 iterate 2 refine qS ?_
 refine qR (q1 aF (qN ?_))
 refine aO.fact (c3 0 11 rfl rfl rfl (aN.trs_len _)) (fun hl33=>?_)
 refine cM (σ:=(List ByteArray)) (fun i30 v32=>⟨[(1,.ptr 0 0),(2,pB false),(4,aS v32 0),(5,pN i30)],⟨[some ⟨55,eH pa0⟩],[⟨9,1,aX (v32),false⟩]⟩⟩) (fun v32=>⟨[(2,pB false),(4,aS v32 0)],⟨[some ⟨55,eH pa0⟩],[⟨9,1,aX (v32),false⟩]⟩⟩) (gW H) ?_ ?_
 ·rintro i30 v32 H
  iterate 2 refine qS ?_
  refine qR (q1 aF (q1 (bC xV) (q1 (bL YL) (q1 (eR KY (aN.trs_len _)) (q1 iQ (qN ?_))))))
  refine eO H (fun h34 h34l H=>?_) (fun h34 H=>?_)
  ·have h34n:=bF h34
   refine aO.skip (qS (aO.block (qS (qR (q1 (bC xV) (q1 (bL YL) (q1 aF (gU H fun y35 h36 H=>(q1 (yI h36 h34n KY) (q1 (lB (aN.cs y35) alF) (q1 (iG O8) (q1 (b3 ah3) (qN ?_)))))))))))))
   iterate 2 refine qS ?_
   refine qR (q1 (bC FO) (q1 (bL lI) (q1 (eR b6 (bI _)) (q1 eP (q1 aF ?_)))))
   refine eK 98 H (fun g37 H=>?_) fun g37 H=>?_
   ·refine qk g37 ?_
    iterate 3 refine qk g37 ?_
    refine q1 (b0 g37) (q1 aF ?_)
    iterate 6 refine qk rfl ?_
    refine q1 (b0 rfl) (qN (eM rfl (qS (qR (q1 aF (qN (aO.ret ?_)))))))
    obtain rfl:_=r:=(rK (aZ H):)
    exact bR
   refine qg g37 (bC FO) (qg g37 (bL lI) (bU H fun x39 z38 H=>(qg g37 (bQ Tryz.func236 (gT fu y35.gVars 5 _ z38)) (qg g37 iS (q1 (cC g37) (q1 aF ?_))))))
   refine eK 104 H (fun g40 H=>?_) fun g40 H=>?_
   ·refine qk g40 ?_
    iterate 5 refine qk g40 ?_
    refine q1 (b0 g40) (qN (eM rfl (qS (qR (q1 aF (qN (aO.ret ?_)))))))
    obtain rfl:_=r:=(rK (aZ H):)
    exact bR
   refine qg g40 (bC QV) (qg g40 (cY [pI y35.gBody.gKind,pS y35.gBody.gTrait,pS y35.gBody.gName,pI y35.gBody.gN,pI y35.gBody.gType.gKind,pS y35.gBody.gType.gName,aW y35.gBody.gType.gArgs,fZ y35.gBody.gArgs,nG y35.gBody.gArms] iH) (qg g40 (bC FO) (qg g40 (bL lI) (bU H fun x42 z41 H=>(qg g40 (bQ Tryz.func278 (E4 fu y35.gBody y35.gVars _ z41)) (qg g40 iS (q1 (cC g40) (qN ?_))))))))
   refine bH H (fun h43 H=>?_) (fun h43 H=>?_)
   ·refine qS (qR (q1 aF (qN (aO.ret ?_))))
    obtain rfl:_=r:=(rK (aZ H):)
    exact bR
   refine aO.skip (qR (q1 aF (q1 (bC XO) (q1 (bL fO) (q1 (iW ([y35.gName]:List ByteArray) b6 lO) (c9 H fun z44 H=>(q1 (oE z44 b6 sM) (q1 aF (qN (qR (q1 aF (q1 (aV.addI rfl rfl rfl rfl (c:=((i30+1:Nat):Int)) (by omega) (by omega)) (q1 aF ?_)))))))))))))
   refine qN ?_;exact j8 h34l ⟨_,(aZ H:),b9⟩
  refine aO.exit ?_;exact lP ⟨_,H,b9⟩
 rintro v32 H
 refine qS (qR (q1 aF (bU H fun x46 z45 H=>(q1 (bQ Tryz.func236 (gT fu v32 6 _ z45)) (q1 aF (qN (aO.ret ?_)))))))
 cases aZ H
 exact bR
def JS(m:aK→Option Bool):Prop:= ∀(pf:aK) (r:Bool),m pf=some r→cA Tryz.prog 259 [(aK.pv pf)] (pB r:PV)
def G5(fu:Nat)(pf:aK):Nat→((List ByteArray))→Option (LR ((List ByteArray)) Bool):=
 fun i1 v3=>bd (n9 fu ((bB pf.gParams i1).gType) pf.gVars) (fun x7=>
 sw (!(x7))
 (some (.ret false))
 (gd ((v3).length+(([((bB pf.gParams i1).gName)]:List ByteArray)).length≤68719476736)
 (some (.next (v3++([((bB pf.gParams i1).gName)]:List ByteArray))))))
def G6(fu:Nat)(pf:aK):Option (Bool⊕((List ByteArray))):=
 loopN (G5 fu pf) (pf.gParams.length-0) 0 ([])
def n4(fu:Nat)(pf:aK):Option Bool:=
 so (G6 fu pf) (fun v3=>
 bd (eB fu pf.gName) (fun x11=>
 sw (x11)
 (bd (gL fu pf.gVars 3) (fun x14=>
 sw (x14)
 (bd (zL fu pf.gWhere pf.gVars) (fun x17=>
 sw (x17)
 (bd (gL fu v3 5) (fun x20=>
 sw (x20)
 (bd (n9 fu pf.gResult pf.gVars) (fun x23=>
 sw (x23)
 (bd (yS fu pf.gBody v3) (fun x26=>
 some x26))
 (some false)))
 (some false)))
 (some false)))
 (some false)))
 (some false)))
theorem wO(fu:Nat):JS (n4 fu):=by
 intro pf r H
 have H:=fF H
 refine qI Tryz.func259 (fun C hC=>?_)
 refine qS (qR (q1 (kQ (xG pf)) (q1 aF (qN (qS (qR (q1 (wA ([]:List ByteArray) b6 lO) (q1 aF (qN ?_)))))))))
 iterate 2 refine qS ?_
 refine qR (q1 aF (qN ?_))
 refine aO.fact (c3 0 3 rfl rfl rfl (aR.trs_len _)) (fun hl4=>?_)
 refine cM (σ:=(List ByteArray)) (fun i1 v3=>⟨[(1,.ptr 0 0),(2,pB false),(3,aS v3 0),(4,pN i1)],⟨[some ⟨148,xG pf⟩],[⟨9,1,aX (v3),false⟩]⟩⟩) (fun v3=>⟨[(1,.ptr 0 0),(2,pB false),(3,aS v3 0)],⟨[some ⟨148,xG pf⟩],[⟨9,1,aX (v3),false⟩]⟩⟩) (gW H) ?_ ?_
 ·rintro i1 v3 H
  iterate 2 refine qS ?_
  refine qR (q1 aF (q1 (bC uX) (q1 (bL O4) (q1 (eR D7 (aR.trs_len _)) (q1 iQ (qN ?_))))))
  refine eO H (fun h5 h5l H=>?_) (fun h5 H=>?_)
  ·have h5n:=bF h5
   refine aO.skip (qS (aO.block ?_))
   iterate 2 refine qS ?_
   refine bU H fun x7 z6 H=>(dW (dI [1] (bC uX) (dD [13] (bL O4) (dI [4] aF (dI [14,15] (jH h5n D7) (dI [16] (rC ahM) (dI [17] (lB (aA.cs ((bB pf.gParams i1).gType)) b8) (dI [1] (bC K3) (dD [19] (bL lI) (dI [18,20] (bQ Tryz.func275 (qC fu ((bB pf.gParams i1).gType) pf.gVars _ z6)) (dI [21] iS (dN ?_))))))))))))
   refine bH H (fun h8 H=>?_) (fun h8 H=>?_)
   ·refine qS (qR (q1 aF (qN (aO.ret ?_))))
    obtain rfl:_=r:=(rK (aZ H):)
    exact bR
   refine aO.skip (qR (q1 aF (q1 (bC uX) (q1 (bL O4) (q1 aF (q1 (jH h5n D7) (q1 (rC ahL) (q1 (p9 fO) (q1 (iW ([((bB pf.gParams i1).gName)]:List ByteArray) b6 lO) (c9 H fun z9 H=>(q1 (oE z9 b6 sM) (q1 aF (qN ?_)))))))))))))
   refine qR (q1 aF (q1 (aV.addI rfl rfl rfl rfl (c:=((i1+1:Nat):Int)) (by omega) (by omega)) (q1 aF (qN ?_))))
   exact j8 h5l ⟨_,(aZ H:),b9⟩
  refine aO.exit ?_;exact lP ⟨_,H,b9⟩
 rintro v3 H
 refine qS (qR (q1 (bC QS) (q1 (bL fO) (bU H fun x11 z10 H=>(q1 (bQ Tryz.func235 (eJ fu pf.gName _ z10)) (q1 aF ?_))))))
 refine eK 35 H (fun g12 H=>?_) fun g12 H=>?_
 ·refine qg g12 (bC K3) (qg g12 (bL lI) (bU H fun x14 z13 H=>(qg g12 (bQ Tryz.func236 (gT fu pf.gVars 3 _ z13)) (q1 (b0 g12) (q1 aF ?_)))))
  refine eK 40 H (fun g15 H=>?_) fun g15 H=>?_
  ·refine qg g15 (bC XL) (qg g15 (bL ae5) (qg g15 (bC K3) (qg g15 (bL lI) (bU H fun x17 z16 H=>(qg g15 (bQ Tryz.func276 (L7 fu pf.gWhere pf.gVars _ z16)) (q1 (b0 g15) (q1 aF ?_)))))))
   refine eK 47 H (fun g18 H=>?_) fun g18 H=>?_
   ·refine qg g18 aF (bU H fun x20 z19 H=>(qg g18 (bQ Tryz.func236 (gT fu v3 5 _ z19)) (q1 (b0 g18) (q1 aF ?_))))
    refine eK 51 H (fun g21 H=>?_) fun g21 H=>?_
    ·refine qg g21 (bC XM) (qg g21 (cY [pI pf.gResult.gKind,pS pf.gResult.gName,aW pf.gResult.gArgs] b8) (qg g21 (bC K3) (qg g21 (bL lI) (bU H fun x23 z22 H=>(qg g21 (bQ Tryz.func275 (qC fu pf.gResult pf.gVars _ z22)) (q1 (b0 g21) (q1 aF ?_)))))))
     refine eK 58 H (fun g24 H=>?_) fun g24 H=>?_
     ·refine qg g24 (bC XN) (qg g24 (cY [pI pf.gBody.gKind,pS pf.gBody.gTrait,pS pf.gBody.gName,pI pf.gBody.gN,pI pf.gBody.gType.gKind,pS pf.gBody.gType.gName,aW pf.gBody.gType.gArgs,fZ pf.gBody.gArgs,nG pf.gBody.gArms] iH) (qg g24 aF (bU H fun x26 z25 H=>(qg g24 (bQ Tryz.func278 (E4 fu pf.gBody v3 _ z25)) (q1 (b0 g24) (q1 aF (qN (aO.ret ?_))))))))
      cases aZ H
      exact bR
     iterate 4 refine qk g24 ?_
     refine q1 (cC g24) (q1 aF (qN (aO.ret ?_)))
     cases aZ H
     exact bR
    iterate 5 refine qk g21 ?_
    refine q1 (cC g21) (q1 aF ?_)
    iterate 4 refine qk rfl ?_
    refine q1 (cC rfl) (q1 aF (qN (aO.ret ?_)))
    cases aZ H
    exact bR
   iterate 2 refine qk g18 ?_
   refine q1 (cC g18) (q1 aF ?_)
   iterate 5 refine qk rfl ?_
   refine q1 (cC rfl) (q1 aF ?_)
   iterate 4 refine qk rfl ?_
   refine q1 (cC rfl) (q1 aF (qN (aO.ret ?_)))
   cases aZ H
   exact bR
  iterate 5 refine qk g15 ?_
  refine q1 (cC g15) (q1 aF ?_)
  iterate 2 refine qk rfl ?_
  refine q1 (cC rfl) (q1 aF ?_)
  iterate 5 refine qk rfl ?_
  refine q1 (cC rfl) (q1 aF ?_)
  iterate 4 refine qk rfl ?_
  refine q1 (cC rfl) (q1 aF (qN (aO.ret ?_)))
  cases aZ H
  exact bR
 iterate 3 refine qk g12 ?_
 refine q1 (cC g12) (q1 aF ?_)
 iterate 5 refine qk rfl ?_
 refine q1 (cC rfl) (q1 aF ?_)
 iterate 2 refine qk rfl ?_
 refine q1 (cC rfl) (q1 aF ?_)
 iterate 5 refine qk rfl ?_
 refine q1 (cC rfl) (q1 aF ?_)
 iterate 4 refine qk rfl ?_
 refine q1 (cC rfl) (q1 aF (qN (aO.ret ?_)))
 cases aZ H
 exact bR
end
end Go.Proofs.YtpioomclpaiomaaGreat.W

namespace Go.Proofs.YtpioomclpaiomaaGreat.W
set_option maxRecDepth 100000
set_option maxHeartbeats 40000000
noncomputable section
open Go.RowKit Go.Proofs
set_option linter.unusedSimpArgs false
set_option linter.unusedVariables false
attribute [local irreducible] lt
def alK(m:aB→Int→Option aB):Prop:= ∀(px:aB) (pi:Int) (r:aB),m px pi=some r→cA Tryz.prog 219 [(aB.pv px),pI pi] ((aB.pv r):PV)
def dR(fu:Nat)(px:aB)(pi:Int):Option aB:=
 sw (decide (pi≥(px.gList.length:Int)))
 (some (aB.mk s_ []))
 (gd (0≤pi∧(pi).toNat<(px.gList).length)
 (some (bB px.gList ((pi).toNat))))
theorem c8(fu:Nat):alK (dR fu):=by
 intro px pi r H
 have H:=fF H
 refine qI Tryz.func219 (fun C hC=>?_)
 refine qS (qR (q1 (kQ ([pS px.gAtom,bJ px.gList])) (q1 (iG cF) (qN ?_))))
 iterate 2 refine qS ?_
 refine qR (q1 aF (q1 (bC bN) (q1 (bL c6) (q1 (eR bO (aB.trs_len _)) (q1 UH (qN ?_))))))
 refine bH H (fun h1 H=>?_) (fun h1 H=>?_)
 ·refine qS (qR (q1 (gD cF nF) (q1 (b3 eQ) (qN (aO.ret ?_)))))
  cases aZ H
  exact bR (hr:=⟨⟨_,_,_,rfl,rfl,bY,rfl,rfl⟩,trivial⟩)
 refine aO.skip (qS (qR (q1 (bC bN) (q1 (bL c6) (q1 aF (c9 H fun z2 H=>(q1 (rIy z2 bO) (q1 (lB (aB.cs (bB px.gList ((pi).toNat))) bY) (q1 (b3 eQ) (qN (aO.ret ?_)))))))))))
 cases aZ H
 exact bR (hr:=⟨⟨_,_,_,rfl,rfl,bY,rfl,rfl⟩,trivial⟩)
def ac1(m:aB→Option ((List ByteArray))):Prop:= ∀(px:aB) (r:(List ByteArray)),m px=some r→cA Tryz.prog 243 [(aB.pv px)] (rS r:PV)
def mE(fu:Nat)(px:aB):Option ((List ByteArray)):=
 bd (yU fu px.gList) (fun(x2,x3)=>
 some x2)
theorem oA(fu:Nat):ac1 (mE fu):=by
 intro px r H
 have H:=fF H
 refine qI Tryz.func243 (fun C hC=>?_)
 refine qS (qR (q1 (kQ ([pS px.gAtom,bJ px.gList])) (q1 aF (qN (qS (qR (q1 (bC bN) (q1 (bL c6) (fQ H fun x2 x3 z1 H=>(q1 (bQ Tryz.func218 (FB fu px.gList _ z1)) (q1 aF ?_)))))))))))
 iterate 2 refine q1 BH ?_
 iterate 2 refine q1 aF ?_
 refine qN (qS (qR ?_))
 iterate 2 refine q1 aF ?_
 refine qN (aO.ret ?_)
 cases aZ H
 exact bR
def afR(m:aB→Int→Option ((List aB))):Prop:= ∀(px:aB) (pi:Int) (r:(List aB)),m px pi=some r→cA Tryz.prog 244 [(aB.pv px),pI pi] (bJ r:PV)
def uQ(fu:Nat)(px:aB)(pi:Int):Option ((List aB)):=
 bd (qD fu pi (px.gList.length:Int)) (fun x2=>
 gd ((0:Int)≤x2∧(x2:Int)≤(px.gList.length:Int)∧(px.gList.length:Int)≤(px.gList.length:Int))
 (some (List.drop (x2:Int).toNat (List.take (px.gList.length:Int).toNat px.gList))))
theorem zM(fu:Nat):afR (uQ fu):=by
 intro px pi r H
 have H:=fF H
 refine qI Tryz.func244 (fun C hC=>?_)
 refine qS (qR (q1 (kQ ([pS px.gAtom,bJ px.gList])) (q1 aF (qN (qS (bU H fun x2 z1 H=>(c9 H fun z3 H=>(dW (dI [2] (bC bN) (dD [5] (bL c6) (dI [1] aF (dI [2] (bC bN) (dD [8] (bL c6) ?_)))))))))))))
 refine dI [9] (eR bO (aB.trs_len _)) (dI [7,10] (bQ Tryz.func261 (qU fu pi (px.gList.length:Int) _ z1)) ?_)
 refine dI [6,11] (aV.congrP (aV.sliceR (es:=aB.trs (px.gList)) (l:=x2) (k:=(px.gList.length:Int)) rfl rfl rfl rfl rfl (by rw [aB.trs_len];exact rfl) (by rw [aB.trs_len];exact z3) bO) (aB.trs_part _ _ _)) ?_;refine dI [12] aF (dN (aO.ret ?_))
 cases aZ H
 exact bR
def ajQ(m:(List aB)→Option ((List aA))):Prop:= ∀(plist:List aB) (r:(List aA)),m plist=some r→cA Tryz.prog 245 [bJ plist] (aW r:PV)
def afS(fu:Nat)(plist:List aB):Nat→((List aA))→Option (LR ((List aA)) ((List aA))):=
 fun i1 v3=>bd (mH fu (bB plist i1)) (fun x7=>
 gd ((v3).length+(([x7]:List aA)).length≤68719476736)
 (some (.next (v3++([x7]:List aA)))))
def afT(fu:Nat)(plist:List aB):Option (((List aA))⊕((List aA))):=
 loopN (afS fu plist) (plist.length-0) 0 ([])
def F6(fu:Nat)(plist:List aB):Option ((List aA)):=
 so (afT fu plist) (fun v3=>
 some v3)
theorem TM(fu:Nat):ajQ (F6 fu):=by
 intro plist r H
 have H:=fF H
 refine qI Tryz.func245 (fun C hC=>?_)
 refine qS (qR (q1 aF (qN (qS (qR (q1 (wA ([]:List aA) dX hP) (q1 aF (qN ?_))))))))
 iterate 2 refine qS ?_
 refine qR (q1 aF (qN ?_))
 refine kV 0 (aB.trs_len _) (fun hl4=>?_)
 refine cM (σ:=(List aA)) (fun i1 v3=>⟨[(0,bJ plist),(2,.nil),(3,WA v3 0),(4,pN i1)],⟨[],[⟨35,3,aA.trs (v3),false⟩]⟩⟩) (fun v3=>⟨[(2,.nil),(3,WA v3 0)],⟨[],[⟨35,3,aA.trs (v3),false⟩]⟩⟩) (gW H) ?_ ?_
 ·rintro i1 v3 H
  iterate 2 refine qS ?_
  refine qR ?_
  iterate 2 refine q1 aF ?_
  refine q1 (eR bO (aB.trs_len _)) (q1 iQ (qN ?_))
  refine eO H (fun h5 h5l H=>?_) (fun h5 H=>?_)
  ·have h5n:=bF h5
   refine aO.skip (qS (aO.block (qR ?_)))
   iterate 3 refine q1 aF ?_
   refine q1 (jH h5n bO) (q1 (lB (aB.cs (bB plist i1)) bY) (bU H fun x7 z6 H=>(q1 (bQ Tryz.func246 (vP fu (bB plist i1) _ z6)) (q1 (iW ([x7]:List aA) dX hP) (c9 H fun z8 H=>(q1 (oE z8 dX al7) (q1 aF (qN (qR (q1 aF (q1 (aV.addI rfl rfl rfl rfl (c:=((i1+1:Nat):Int)) (by omega) (by omega)) (q1 aF (qN ?_)))))))))))))
   exact j8 h5l ⟨_,(aZ H:),b9⟩
  refine aO.exit ?_;exact lP ⟨_,H,b9⟩
 rintro v3 H
 refine qS (qR ?_)
 iterate 2 refine q1 aF ?_
 refine qN (aO.ret ?_)
 cases aZ H
 exact bR
def ac4(m:(List ByteArray)→Option aB):Prop:= ∀(plist:List ByteArray) (r:aB),m plist=some r→cA Tryz.prog 267 [rS plist] ((aB.pv r):PV)
def lJ(fu:Nat)(plist:List ByteArray):Option aB:=
 bd (C0 fu plist) (fun x2=>
 some (aB.mk s_ x2))
theorem mF(fu:Nat):ac4 (lJ fu):=by
 intro plist r H
 have H:=fF H
 refine qI Tryz.func267 (fun C hC=>?_)
 refine qS (qR (q1 (iG cF) (qN (qS (qR (q1 aF (bU H fun x2 z1 H=>(q1 (bQ Tryz.func280 (O6 fu plist _ z1)) (q1 (gD cF nF) (q1 (b3 eQ) (qN (aO.ret ?_))))))))))))
 cases aZ H
 exact bR (hr:=⟨⟨_,_,_,rfl,rfl,bY,rfl,rfl⟩,trivial⟩)
def ac2(m:(List aA)→Option ((List aB))):Prop:= ∀(plist:List aA) (r:(List aB)),m plist=some r→cA Tryz.prog 268 [aW plist] (bJ r:PV)
def Y5(fu:Nat)(plist:List aA):Nat→((List aB))→Option (LR ((List aB)) ((List aB))):=
 fun i1 v3=>bd (mG fu (bB plist i1)) (fun x7=>
 gd ((v3).length+(([x7]:List aB)).length≤68719476736)
 (some (.next (v3++([x7]:List aB)))))
def Y6(fu:Nat)(plist:List aA):Option (((List aB))⊕((List aB))):=
 loopN (Y5 fu plist) (plist.length-0) 0 ([])
def zN(fu:Nat)(plist:List aA):Option ((List aB)):=
 so (Y6 fu plist) (fun v3=>
 some v3)
theorem L8(fu:Nat):ac2 (zN fu):=by
 intro plist r H
 have H:=fF H
 refine qI Tryz.func268 (fun C hC=>?_)
 refine qS (qR (q1 aF (qN (qS (qR (q1 (wA ([]:List aB) bO cF) (q1 aF (qN ?_))))))))
 iterate 2 refine qS ?_
 refine qR (q1 aF (qN ?_))
 refine kV 0 (aA.trs_len _) (fun hl4=>?_)
 refine cM (σ:=(List aB)) (fun i1 v3=>⟨[(0,aW plist),(2,.nil),(3,eL v3 0),(4,pN i1)],⟨[],[⟨237,2,aB.trs (v3),false⟩]⟩⟩) (fun v3=>⟨[(2,.nil),(3,eL v3 0)],⟨[],[⟨237,2,aB.trs (v3),false⟩]⟩⟩) (gW H) ?_ ?_
 ·rintro i1 v3 H
  iterate 2 refine qS ?_
  refine qR ?_
  iterate 2 refine q1 aF ?_
  refine q1 (eR dX (aA.trs_len _)) (q1 iQ (qN ?_))
  refine eO H (fun h5 h5l H=>?_) (fun h5 H=>?_)
  ·have h5n:=bF h5
   refine aO.skip (qS (aO.block (qR ?_)))
   iterate 3 refine q1 aF ?_
   refine q1 (jH h5n dX) (q1 (lB (aA.cs (bB plist i1)) b8) (bU H fun x7 z6 H=>(q1 (bQ Tryz.func269 (vO fu (bB plist i1) _ z6)) (q1 (iW ([x7]:List aB) bO cF) (c9 H fun z8 H=>(q1 (oE z8 bO q8) (q1 aF (qN (qR (q1 aF (q1 (aV.addI rfl rfl rfl rfl (c:=((i1+1:Nat):Int)) (by omega) (by omega)) (q1 aF (qN ?_)))))))))))))
   exact j8 h5l ⟨_,(aZ H:),b9⟩
  refine aO.exit ?_;exact lP ⟨_,H,b9⟩
 rintro v3 H
 refine qS (qR ?_)
 iterate 2 refine q1 aF ?_
 refine qN (aO.ret ?_)
 cases aZ H
 exact bR
def alL(m:Bool→aB→Option aB):Prop:= ∀(pok:Bool) (px:aB) (r:aB),m pok px=some r→cA Tryz.prog 271 [pB pok,(aB.pv px)] ((aB.pv r):PV)
def BO(fu:Nat)(pok:Bool)(px:aB):Option aB:=
 sw (!(pok))
 (some (aB.mk s_ []))
 (bd (iE fu px) (fun x3=>
 sw (!(x3))
 (some (aB.mk s_ []))
 (some px)))
theorem F5(fu:Nat):alL (BO fu):=by
 intro pok px r H
 have H:=fF H
 refine qI Tryz.func271 (fun C hC=>?_)
 refine qS (qR (q1 (kQ ([pS px.gAtom,bJ px.gList])) (q1 (iG cF) (qN ?_))))
 iterate 2 refine qS ?_
 refine qR (q1 aF (q1 iS (q1 aF ?_)))
 refine eK 7 H (fun g1 H=>?_) fun g1 H=>?_
 ·refine qk g1 ?_
  iterate 2 refine qk g1 ?_
  refine q1 (b0 g1) (qN (eM rfl (qS (qR (q1 (gD cF nF) (q1 (b3 eQ) (qN (aO.ret ?_))))))))
  cases aZ H
  exact bR (hr:=⟨⟨_,_,_,rfl,rfl,bY,rfl,rfl⟩,trivial⟩)
 refine qg g1 (cY [pS px.gAtom,bJ px.gList] bY) (bU H fun x3 z2 H=>(qg g1 (bQ Tryz.func217 (dL fu px _ z2)) (qg g1 iS (q1 (cC g1) (qN ?_)))))
 refine bH H (fun h4 H=>?_) (fun h4 H=>?_)
 ·refine qS (qR (q1 (gD cF nF) (q1 (b3 eQ) (qN (aO.ret ?_)))))
  cases aZ H
  exact bR (hr:=⟨⟨_,_,_,rfl,rfl,bY,rfl,rfl⟩,trivial⟩)
 refine aO.skip (qS (qR (q1 (cY [pS px.gAtom,bJ px.gList] bY) (q1 (b3 eQ) (qN (aO.ret ?_))))))
 cases aZ H
 exact bR (hr:=⟨⟨_,_,_,rfl,rfl,bY,rfl,rfl⟩,trivial⟩)
def QK(m:aU→Option aB):Prop:= ∀(pa0:aU) (r:aB),m pa0=some r→cA Tryz.prog 249 [(aU.pv pa0)] ((aB.pv r):PV)
def N0(fu:Nat)(pa0:aU)(x2:Bool):Option (aB⊕((List ByteArray))):=
 sw (pa0.gAuto)
 (gd (([]:List ByteArray).length+(([yQ]:List ByteArray)).length≤68719476736)
 (some (.inr (([])++([yQ]:List ByteArray)))))
 (some (.inr ([])))
def N1(fu:Nat)(pa0:aU)(x2:Bool)(v5:List ByteArray):Option (aB⊕((List ByteArray))):=
 sw (pa0.gAssoc)
 (gd ((v5).length+(([iY]:List ByteArray)).length≤68719476736)
 (some (.inr (v5++([iY]:List ByteArray)))))
 (some (.inr v5))
def N2(fu:Nat)(pa0:aU)(x2:Bool)(v5 v9:List ByteArray)(x13 x15 x17 x19 x21:aB):Nat→((List aB))→Option (LR ((List aB)) aB):=
 fun i22 v24=>lt (bB pa0.gSignatures i22) (fun y27=>
 bd (cI fu y27.gName) (fun x30=>
 bd (zN fu y27.gParams) (fun x32=>
 bd (mG fu y27.gResult) (fun x34=>
 bd (l5 fu ([x30,(aB.mk s_ x32),x34]:List aB)) (fun x36=>
 sw (y27.gHasDefault)
 (bd (lJ fu y27.gVars) (fun x39=>
 bd (mD fu y27.gBody) (fun x41=>
 gd ((x36.gList).length+(([x39,x41]:List aB)).length≤68719476736)
 (gd ((v24).length+(([(aB.mk x36.gAtom (x36.gList++([x39,x41]:List aB)))]:List aB)).length≤68719476736)
 (some (.next (v24++([(aB.mk x36.gAtom (x36.gList++([x39,x41]:List aB)))]:List aB))))))))
 (gd ((v24).length+(([(aB.mk x36.gAtom x36.gList)]:List aB)).length≤68719476736)
 (some (.next (v24++([(aB.mk x36.gAtom x36.gList)]:List aB))))))))))
def N3(fu:Nat)(pa0:aU)(x2:Bool)(v5 v9:List ByteArray)(x13 x15 x17 x19 x21:aB):Option (aB⊕((List aB))):=
 loopN (N2 fu pa0 x2 v5 v9 x13 x15 x17 x19 x21) (pa0.gSignatures.length-0) 0 x21.gList
def wG(fu:Nat)(pa0:aU):Option aB:=
 bd (rR fu pa0) (fun x2=>
 sw (!(x2))
 (some (aB.mk s_ []))
 (so (N0 fu pa0 x2) (fun v5=>
 so (N1 fu pa0 x2 v5) (fun v9=>
 bd (cI fu F2) (fun x13=>
 bd (cI fu pa0.gName) (fun x15=>
 bd (lJ fu pa0.gSupertraits) (fun x17=>
 bd (lJ fu v9) (fun x19=>
 bd (l5 fu ([x13,x15,x17,x19]:List aB)) (fun x21=>
 so (N3 fu pa0 x2 v5 v9 x13 x15 x17 x19 x21) (fun v24=>
 bd (BO fu true (aB.mk x21.gAtom v24)) (fun x46=>
 some x46)))))))))))
theorem N4(fu:Nat):QK (wG fu):=by
 intro pa0 r H
 have H:=fF H
 refine qI Tryz.func249 (fun C hC=>?_)
 refine qS (qR (q1 (kQ (D5 pa0)) (q1 (iG cF) (qN ?_))))
 iterate 2 refine qS ?_
 refine qR (q1 (cY [pS pa0.gName,rS pa0.gSupertraits,pB pa0.gAuto,pB pa0.gAssoc,lT pa0.gSignatures] uL) (bU H fun x2 z1 H=>(q1 (bQ Tryz.func256 (BL fu pa0 _ z1)) (q1 iS (qN ?_)))))
 refine bH H (fun h3 H=>?_) (fun h3 H=>?_)
 ·refine qS (qR (q1 (gD cF nF) (q1 (b3 eQ) (qN (aO.ret ?_)))))
  cases aZ H
  exact bR (hr:=⟨⟨_,_,_,rfl,rfl,bY,rfl,rfl⟩,trivial⟩)
 refine aO.skip (qS (qR (q1 (wA ([]:List ByteArray) b6 lO) (q1 aF (qN (qS ?_))))))
 refine qF (σ:=(List ByteArray)) (fun v5=>⟨[(1,.ptr 0 0),(2,.ptr 1 0),(3,aS v5 0)],⟨[some ⟨60,D5 pa0⟩,some ⟨237,[pS s_,.nil]⟩],[⟨9,1,aX (v5),false⟩]⟩⟩) (gW H) (fun H=>?_) ?_
 ·refine qS (qR (q1 (bC aeM) (q1 (bL sh4) (qN ?_))))
  refine bH H (fun h6 H=>?_) (fun h6 H=>?_)
  ·refine qR (q1 aF (q1 (iW ([yQ]:List ByteArray) b6 lO) (c9 H fun z7 H=>(q1 (oE z7 b6 sM) (q1 aF (qN ?_))))))
   exact eC ⟨_,(aZ H:),b9⟩
  refine aO.skip ?_;exact eC ⟨_,(aZ H:),b9⟩
 rintro v5 H
 refine qS ?_;refine qF (σ:=(List ByteArray)) (fun v9=>⟨[(1,.ptr 0 0),(2,.ptr 1 0),(3,aS v9 0)],⟨[some ⟨60,D5 pa0⟩,some ⟨237,[pS s_,.nil]⟩],[⟨9,1,aX (v9),false⟩]⟩⟩) (gW H) (fun H=>?_) ?_
 ·refine qS (qR (q1 (bC akZ) (q1 (bL sh4) (qN ?_))))
  refine bH H (fun h10 H=>?_) (fun h10 H=>?_)
  ·refine qR (q1 aF (q1 (iW ([iY]:List ByteArray) b6 lO) (c9 H fun z11 H=>(q1 (oE z11 b6 sM) (q1 aF (qN ?_))))))
   exact eC ⟨_,(aZ H:),b9⟩
  refine aO.skip ?_;exact eC ⟨_,(aZ H:),b9⟩
 rintro v9 H
 refine qS (bU H fun x13 z12 H=>(bU H fun x15 z14 H=>(bU H fun x17 z16 H=>(bU H fun x19 z18 H=>(bU H fun x21 z20 H=>(dWa (dI [] (bQ Tryz.func266 (cB fu F2 _ z12)) (dI [1] (bC I5) (dBz [24] 0 0 (vQ fO) (dI [25] (bQ Tryz.func266 (cB fu pa0.gName _ z14)) (dI [1] (bC B8) (dBz [27] 0 0 (vQ lI) (dI [28] (bQ Tryz.func267 (mF fu pa0.gSupertraits _ z16)) ?_)))))))))))))
 refine dI [3] aF (dI [30] (bQ Tryz.func267 (mF fu v9 _ z18)) (dI [23,26,29,31] (iW ([x13,x15,x17,x19]:List aB) bO cF) ?_))
 refine dEz [32] (fun _ z=>by cases z<;>exact aV.callOwn (pre:=⟨[],[]⟩) (B:= []) (R:=fun k=> .agg [pS x21.gAtom,eL x21.gList k]) (ps:= [_]) (qs:= [bJ ([x13,x15,x17,x19]:List aB)]) [] rfl rfl Tryz.func265 (by kernel_rfl) rfl rfl rfl (l6.of trivial trivial (by decide) (by decide)) rfl lG rfl rfl rfl (fun k k'=>(.agg (.cons (.free _ rfl) (.cons Mv.acc XC.nil)))) (mV fu ([x13,x15,x17,x19]:List aB) _ z20)) ?_;refine dA (fun _ st h=>vAl h cF) (dZ 4 [4,33] (b3 eQ) (dN ?_))
 iterate 2 refine qS ?_
 refine qR (q1 aF (qN ?_))
 refine aO.fact (c3 0 4 rfl rfl rfl (aE.trs_len _)) (fun hl25=>?_)
 refine cM (σ:=(List aB)) (fun i22 v24=>⟨[(1,.ptr 0 0),(2,.ptr 1 0),(4,.ptr 2 0),(5,pN i22)],⟨[some ⟨60,D5 pa0⟩,some ⟨237,[pS s_,.nil]⟩,some ⟨237,[pS x21.gAtom,eL v24 1]⟩],[⟨9,1,aX (v9),false⟩,⟨237,2,aB.trs (v24),false⟩]⟩⟩) (fun v24=>⟨[(2,.ptr 1 0),(4,.ptr 2 0)],⟨[some ⟨60,D5 pa0⟩,some ⟨237,[pS s_,.nil]⟩,some ⟨237,[pS x21.gAtom,eL v24 1]⟩],[⟨9,1,aX (v9),false⟩,⟨237,2,aB.trs (v24),false⟩]⟩⟩) (gW H) ?_ ?_
 ·rintro i22 v24 H
  iterate 2 refine qS ?_
  refine qR (q1 aF (q1 (bC mJ) (q1 (bL H2) (q1 (eR wU (aE.trs_len _)) (q1 iQ (qN ?_))))))
  refine eO H (fun h26 h26l H=>?_) (fun h26 H=>?_)
  ·have h26n:=bF h26
   refine aO.skip (qS (aO.block (qS (qR (q1 (bC mJ) (q1 (bL H2) (q1 aF (gU H fun y27 h28 H=>(q1 (yI h28 h26n wU) (q1 (lB (aE.cs y27) abP) (q1 (iG zT) (q1 (b3 anS) (qN ?_)))))))))))))
   refine qS (bU H fun x30 z29 H=>(bU H fun x32 z31 H=>(bU H fun x34 z33 H=>(bU H fun x36 z35 H=>(dWa (dI [6] (bC XP) (dBz [46] 0 0 (vQ fO) (dI [47] (bQ Tryz.func266 (cB fu y27.gName _ z29)) (dI [6] (bC QW) (dBz [49] 0 0 (vQ mQ) (dI [50] (bQ Tryz.func268 (L8 fu y27.gParams _ z31)) (dI [51] (gD cF nF) (dI [6] (bC QX) ?_)))))))))))))
   refine dBz [53] 0 0 (RC [pI y27.gResult.gKind,pS y27.gResult.gName,aW y27.gResult.gArgs] b8) (dI [54] (bQ Tryz.func269 (vO fu y27.gResult _ z33)) (dI [48,52,55] (iW ([x30,(aB.mk s_ x32),x34]:List aB) bO cF) ?_))
   refine dEz [56] (fun _ z=>by cases z<;>exact aV.callOwn (pre:=⟨[],[]⟩) (B:= []) (R:=fun k=> .agg [pS x36.gAtom,eL x36.gList k]) (ps:= [_]) (qs:= [bJ ([x30,(aB.mk s_ x32),x34]:List aB)]) [] rfl rfl Tryz.func265 (by kernel_rfl) rfl rfl rfl (l6.of trivial trivial (by decide) (by decide)) rfl lG rfl rfl rfl (fun k k'=>(.agg (.cons (.free _ rfl) (.cons Mv.acc XC.nil)))) (mV fu ([x30,(aB.mk s_ x32),x34]:List aB) _ z35)) ?_;refine dA (fun _ st h=>vAl h cF) (dZ 7 [7,57] (b3 eQ) (dN ?_))
   iterate 2 refine qS ?_
   refine qR (q1 (bC K4) (q1 (bL sh4) (qN ?_)))
   refine bH H (fun h37 H=>?_) (fun h37 H=>?_)
   ·refine bU H fun x39 z38 H=>(bU H fun x41 z40 H=>(c9 H fun z42 H=>(dW (dI [7] (bC bN) (dD [60] (bL c6) (dI [6] (bC FP) (dD [62] (bL lI) (dI [63] (bQ Tryz.func267 (mF fu y27.gVars _ z38)) (dI [6] (bC QY) (dD [65] (cY [pI y27.gBody.gKind,pS y27.gBody.gTrait,pS y27.gBody.gName,pI y27.gBody.gN,pI y27.gBody.gType.gKind,pS y27.gBody.gType.gName,aW y27.gBody.gType.gArgs,fZ y27.gBody.gArgs,nG y27.gBody.gArms] iH) (dI [66] (bQ Tryz.func270 (OC fu y27.gBody _ z40)) (dI [64,67] (iW ([x39,x41]:List aB) bO cF) (dE [61,68] (oE z42 bO q8) ?_)))))))))))))
    refine dI [7] (bC bN) (m4 [70,69] (b3 zS) (dN (qR (q1 (bC bN) (q1 (bL c6) (q1 (cY [pS x36.gAtom,eL (x36.gList++([x39,x41]:List aB)) 2] bY) (q1 (iW ([(aB.mk x36.gAtom (x36.gList++([x39,x41]:List aB)))]:List aB) bO cF) (c9 H fun z43 H=>(q1 (oE z43 bO q8) (q1 (bC bN) (q1 (b3 zS) (qN (qR ?_)))))))))))))
    refine q1 aF (q1 (aV.addI rfl rfl rfl rfl (c:=((i22+1:Nat):Int)) (by omega) (by omega)) (q1 aF (qN ?_)))
    exact j8 h26l ⟨_,(aZ H:),b9⟩
   refine aO.skip (qR (q1 (bC bN) (q1 (bL c6) (q1 (cY [pS x36.gAtom,eL x36.gList 2] bY) (q1 (iW ([(aB.mk x36.gAtom x36.gList)]:List aB) bO cF) (c9 H fun z44 H=>(q1 (oE z44 bO q8) (q1 (bC bN) (q1 (b3 zS) (qN (qR (q1 aF (q1 (aV.addI rfl rfl rfl rfl (c:=((i22+1:Nat):Int)) (by omega) (by omega)) ?_)))))))))))))
   refine q1 aF (qN ?_)
   exact j8 h26l ⟨_,(aZ H:),b9⟩
  refine aO.exit ?_;exact lP ⟨_,H,b9⟩
 rintro v24 H
 refine qS (qR (q1 (cY [pS x21.gAtom,eL v24 1] bY) (bU H fun x46 z45 H=>(q1 (bQ Tryz.func271 (F5 fu true (aB.mk x21.gAtom v24) _ z45)) (q1 (b3 eQ) (qN (aO.ret ?_)))))))
 cases aZ H
 exact bR (hr:=⟨⟨_,_,_,rfl,rfl,bY,rfl,rfl⟩,trivial⟩)
def QJ(m:aB→Option (aU×Bool)):Prop:= ∀(pa0:aB) (r:aU×Bool),m pa0=some r→cA Tryz.prog 230 [(aB.pv pa0)] (.tup [(aU.pv r.1),pB r.2]:PV)
def NX(fu:Nat)(pa0 x2:aB)(x4:List ByteArray)(x6 x8:aB)(x10:List ByteArray)(x12 x14:Bool)(x16:List aB):Nat→((List aE))→Option (LR ((List aE)) (aU×Bool)):=
 fun i17 v19=>bd (dR fu (bB x16 i17) 0) (fun x23=>
 bd (dR fu (bB x16 i17) 1) (fun x25=>
 bd (F6 fu x25.gList) (fun x27=>
 bd (dR fu (bB x16 i17) 2) (fun x29=>
 bd (mH fu x29) (fun x31=>
 sw (decide ((((((bB x16 i17).gList).length:Nat):Int):Int)>3))
 (bd (dR fu (bB x16 i17) 3) (fun x34=>
 bd (mE fu x34) (fun x36=>
 bd (dR fu (bB x16 i17) 4) (fun x38=>
 bd (g0 fu x38) (fun x40=>
 gd ((v19).length+(([(aE.mk x23.gAtom x27 x31 true x36 x40)]:List aE)).length≤68719476736)
 (some (.next (v19++([(aE.mk x23.gAtom x27 x31 true x36 x40)]:List aE)))))))))
 (gd ((v19).length+(([(aE.mk x23.gAtom x27 x31 false [] (aH.mk 0 s_ s_ 0 (aA.mk 0 s_ []) [] []))]:List aE)).length≤68719476736)
 (some (.next (v19++([(aE.mk x23.gAtom x27 x31 false [] (aH.mk 0 s_ s_ 0 (aA.mk 0 s_ []) [] []))]:List aE))))))))))
def NY(fu:Nat)(pa0 x2:aB)(x4:List ByteArray)(x6 x8:aB)(x10:List ByteArray)(x12 x14:Bool)(x16:List aB):Option ((aU×Bool)⊕((List aE))):=
 loopN (NX fu pa0 x2 x4 x6 x8 x10 x12 x14 x16) (x16.length-0) 0 ([])
def wF(fu:Nat)(pa0:aB):Option (aU×Bool):=
 bd (dR fu pa0 3) (fun x2=>
 bd (mE fu x2) (fun x4=>
 bd (dR fu pa0 1) (fun x6=>
 bd (dR fu pa0 2) (fun x8=>
 bd (mE fu x8) (fun x10=>
 bd (lV fu x4 yQ) (fun x12=>
 bd (lV fu x4 iY) (fun x14=>
 bd (uQ fu pa0 4) (fun x16=>
 so (NY fu pa0 x2 x4 x6 x8 x10 x12 x14 x16) (fun v19=>
 bd (iE fu pa0) (fun x44=>
 sw (!(x44))
 (some ((aU.mk s_ [] false false []),false))
 (sw (decide ((pa0.gList.length:Int)=0))
 (some ((aU.mk s_ [] false false []),false))
 (bd (wG fu (aU.mk x6.gAtom x10 x12 x14 v19)) (fun x48=>
 bd (fW fu x48 pa0) (fun x50=>
 sw (!(x50))
 (some ((aU.mk s_ [] false false []),false))
 (some ((aU.mk x6.gAtom x10 x12 x14 v19),true))))))))))))))))
theorem NZ(fu:Nat):QJ (wF fu):=by
 intro pa0 r H
 have H:=fF H
 refine qI Tryz.func230 (fun C hC=>?_)
 refine qS (qR (q1 (kQ ([pS pa0.gAtom,bJ pa0.gList])) (q1 (iG H3) (q1 aF (qN (qS (qR (q1 (cY [pS pa0.gAtom,bJ pa0.gList] bY) (bU H fun x2 z1 H=>(q1 (bQ Tryz.func219 (c8 fu pa0 3 _ z1)) (bU H fun x4 z3 H=>(q1 (bQ Tryz.func243 (oA fu x2 _ z3)) (q1 aF ?_)))))))))))))
 refine qN (qS (bU H fun x6 z5 H=>(bU H fun x8 z7 H=>(bU H fun x10 z9 H=>(bU H fun x12 z11 H=>(bU H fun x14 z13 H=>(dW (dB [1] 0 1 (RC [pS pa0.gAtom,bJ pa0.gList] bY) (dI [12] (bQ Tryz.func219 (c8 fu pa0 1 _ z5)) (dI [13] (rF1 tA) (dB [1] 0 1 (RC [pS pa0.gAtom,bJ pa0.gList] bY) (dI [15] (bQ Tryz.func219 (c8 fu pa0 2 _ z7)) (dI [16] (bQ Tryz.func243 (oA fu x8 _ z9)) ?_)))))))))))))
 refine dI [4] aF (dI [18] (bQ Tryz.func125 (nK fu x4 yQ _ z11)) (dI [4] aF (dI [20] (bQ Tryz.func125 (nK fu x4 iY _ z13)) (dI [14,17,19,21] (gD H3 aeY) (dE [] (iG H3) (m4 [5,22] (b3 DU) (dN (qS (qR (q1 (cY [pS pa0.gAtom,bJ pa0.gList] bY) (bU H fun x16 z15 H=>(q1 (bQ Tryz.func244 (zM fu pa0 4 _ z15)) (q1 aF ?_)))))))))))))
 refine qN ?_
 iterate 2 refine qS ?_
 refine qR (q1 aF (qN (aO.wk (Wk.regBox (k:=2) (j:=4) 164 16 (by decide) rfl rfl) ?_)))
 refine kV 6 (aB.trs_len _) (fun hl20=>?_)
 refine cM (σ:=(List aE)) (fun i17 v19=>⟨[(1,.ptr 0 0),(2,.ptr 1 0),(3,pB false),(5,.ptr 2 0),(6,bJ x16),(7,pN i17)],⟨[some ⟨237,[pS pa0.gAtom,bJ pa0.gList]⟩,some ⟨60,[pS s_,.nil,pB false,pB false,.nil]⟩,some ⟨60,[pS x6.gAtom,rS x10,pB x12,pB x14,lQ v19 0]⟩],[⟨164,16,aE.trs (v19),false⟩]⟩⟩) (fun v19=>⟨[(1,.ptr 0 0),(2,.ptr 1 0),(3,pB false),(5,.ptr 2 0)],⟨[some ⟨237,[pS pa0.gAtom,bJ pa0.gList]⟩,some ⟨60,[pS s_,.nil,pB false,pB false,.nil]⟩,some ⟨60,[pS x6.gAtom,rS x10,pB x12,pB x14,lQ v19 0]⟩],[⟨164,16,aE.trs (v19),false⟩]⟩⟩) (gW H) ?_ ?_
 ·rintro i17 v19 H
  iterate 2 refine qS ?_
  refine qR ?_
  iterate 2 refine q1 aF ?_
  refine q1 (eR bO (aB.trs_len _)) (q1 iQ (qN ?_))
  refine eO H (fun h21 h21l H=>?_) (fun h21 H=>?_)
  ·have h21n:=bF h21
   refine aO.skip (qS (aO.block (qS (bU H fun x23 z22 H=>(bU H fun x25 z24 H=>(bU H fun x27 z26 H=>(bU H fun x29 z28 H=>(bU H fun x31 z30 H=>(dW (dI [6] aF (dI [7] aF (dI [31,32] (jH h21n bO) (dI [33] (lB (aB.cs (bB x16 i17)) bY) ?_)))))))))))))
   refine dI [34] (bQ Tryz.func219 (c8 fu (bB x16 i17) 0 _ z22)) (dI [35] (rF1 tA) (dI [6] aF (dI [7] aF (dI [37,38] (jH h21n bO) (dI [39] (lB (aB.cs (bB x16 i17)) bY) (dI [40] (bQ Tryz.func219 (c8 fu (bB x16 i17) 1 _ z24)) (dI [41] (rF1 XR) (dI [42] (bQ Tryz.func245 (TM fu x25.gList _ z26)) (dI [6] aF (dI [7] aF (dI [44,45] (jH h21n bO) (dI [46] (lB (aB.cs (bB x16 i17)) bY) (dI [47] (bQ Tryz.func219 (c8 fu (bB x16 i17) 2 _ z28)) ?_)))))))))))))
   refine dI [48] (bQ Tryz.func246 (vP fu x29 _ z30)) (dI [36,43,49] (gD zT ahT) (dE [] (iG zT) (m4 [8,50] (b3 anS) (dN ?_))))
   iterate 2 refine qS ?_
   refine qR ?_
   iterate 2 refine q1 aF ?_
   refine q1 (jH h21n bO) (q1 (rC bN) (q1 (p9 c6) (q1 (eR bO (aB.trs_len _)) (q1 MI (qN ?_)))))
   refine bH H (fun h32 H=>?_) (fun h32 H=>?_)
   ·refine qS (qR (q1 (bC K4) (q1 (b3 sz4) (qN (qS (qR ?_))))))
    iterate 2 refine q1 aF ?_
    refine q1 (jH h21n bO) (q1 (lB (aB.cs (bB x16 i17)) bY) (bU H fun x34 z33 H=>(q1 (bQ Tryz.func219 (c8 fu (bB x16 i17) 3 _ z33)) (bU H fun x36 z35 H=>(q1 (bQ Tryz.func243 (oA fu x34 _ z35)) (q1 (bC FP) (q1 (b3 KN) (qN (qR ?_)))))))))
    iterate 2 refine q1 aF ?_
    refine q1 (jH h21n bO) (q1 (lB (aB.cs (bB x16 i17)) bY) (bU H fun x38 z37 H=>(q1 (bQ Tryz.func219 (c8 fu (bB x16 i17) 4 _ z37)) (bU H fun x40 z39 H=>(q1 (bQ Tryz.func247 (EX fu x38 _ z39)) (q1 (bC QY) (q1 (b3 pL) (qN (qR (q1 (bC mJ) (q1 (bL H2) (q1 (cY [pS x23.gAtom,aW x27,pI x31.gKind,pS x31.gName,aW x31.gArgs,pB true,rS x36,pI x40.gKind,pS x40.gTrait,pS x40.gName,pI x40.gN,pI x40.gType.gKind,pS x40.gType.gName,aW x40.gType.gArgs,fZ x40.gArgs,nG x40.gArms] abP) (q1 (iW ([(aE.mk x23.gAtom x27 x31 true x36 x40)]:List aE) wU zT) ?_)))))))))))))
    refine c9 H fun z41 H=>(q1 (oE z41 wU al8) (q1 (bC mJ) (q1 (b3 al3) (qN (qR (q1 aF (q1 (aV.addI rfl rfl rfl rfl (c:=((i17+1:Nat):Int)) (by omega) (by omega)) (q1 aF (qN ?_)))))))))
    exact j8 h21l ⟨_,(aZ H:),b9⟩
   refine aO.skip (qR (q1 (bC mJ) (q1 (bL H2) (q1 (cY [pS x23.gAtom,aW x27,pI x31.gKind,pS x31.gName,aW x31.gArgs,pB false,.nil,pI 0,pS s_,pS s_,pI 0,pI 0,pS s_,.nil,.nil,.nil] abP) (q1 (iW ([(aE.mk x23.gAtom x27 x31 false [] (aH.mk 0 s_ s_ 0 (aA.mk 0 s_ []) [] []))]:List aE) wU zT) (c9 H fun z42 H=>(q1 (oE z42 wU al8) (q1 (bC mJ) (q1 (b3 al3) (qN (qR (q1 aF (q1 (aV.addI rfl rfl rfl rfl (c:=((i17+1:Nat):Int)) (by omega) (by omega)) ?_)))))))))))))
   refine q1 aF (qN ?_)
   exact j8 h21l ⟨_,(aZ H:),b9⟩
  refine aO.exit ?_;exact lP ⟨_,H,b9⟩
 rintro v19 H
 iterate 2 refine qS ?_
 refine bU H fun x44 z43 H=>?_
 rcases nN (!(x44)) with g45|g45
 ·have H:=qZ H g45
  refine dW (dD [1] (cY [pS pa0.gAtom,bJ pa0.gList] bY) (dI [79] (bQ Tryz.func217 (dL fu pa0 _ z43)) (dI [80] iS (dI [81] aF ?_))))
  iterate 4 refine H8 g45 ?_
  refine dI [82] (b0 g45) (dI [87] aF ?_)
  iterate 5 refine H8 rfl ?_
  refine dI [88] (b0 rfl) (dN (eM rfl (qS (qR (q1 (gD H3 aeY) (q1 (b3 DU) (q1 aF (qN (aO.ret ?_)))))))))
  cases aZ H
  exact lW (hr:=⟨⟨_,_,_,rfl,rfl,uL,rfl,rfl⟩,rfl,trivial⟩)
 have H:=qY H g45
 rcases nN (decide ((pa0.gList.length:Int)=0)) with g46|g46
 ·have H:=qZ H g46
  refine dW (dD [1] (cY [pS pa0.gAtom,bJ pa0.gList] bY) (dI [79] (bQ Tryz.func217 (dL fu pa0 _ z43)) (dI [80] iS (dI [81] aF (dI (hg:=bE g45) [1] (bC bN) (dD (hg:=bE g45) [83] (bL c6) (dI (hg:=bE g45) [84] (eR bO (aB.trs_len _)) (dI (hg:=bE g45) [85] eP (dI [82,86] (cC g45) (dI [87] aF ?_))))))))))
  iterate 5 refine H8 g46 ?_
  refine dI [88] (b0 g46) (dN (eM rfl (qS (qR (q1 (gD H3 aeY) (q1 (b3 DU) (q1 aF (qN (aO.ret ?_)))))))))
  cases aZ H
  exact lW (hr:=⟨⟨_,_,_,rfl,rfl,uL,rfl,rfl⟩,rfl,trivial⟩)
 have H:=qY H g46
 refine bU H fun x48 z47 H=>(bU H fun x50 z49 H=>(dW (dD [1] (cY [pS pa0.gAtom,bJ pa0.gList] bY) (dI [79] (bQ Tryz.func217 (dL fu pa0 _ z43)) (dI [80] iS (dI [81] aF (dI (hg:=bE g45) [1] (bC bN) (dD (hg:=bE g45) [83] (bL c6) (dI (hg:=bE g45) [84] (eR bO (aB.trs_len _)) (dI (hg:=bE g45) [85] eP (dI [82,86] (cC g45) (dI [87] aF (dD (hg:=bE g46) [5] (cY [pS x6.gAtom,rS x10,pB x12,pB x14,lQ v19 0] uL) ?_)))))))))))))
 refine dI (hg:=bE g46) [89] (bQ Tryz.func249 (N4 fu (aU.mk x6.gAtom x10 x12 x14 v19) _ z47)) (dD (hg:=bE g46) [1] (cY [pS pa0.gAtom,bJ pa0.gList] bY) (dI (hg:=bE g46) [90,91] (bQ Tryz.func248 (tM fu x48 pa0 _ z49)) (dI (hg:=bE g46) [92] iS (dI [88,93] (cC g46) (dN ?_)))))
 refine bH H (fun h51 H=>?_) (fun h51 H=>?_)
 ·refine qS (qR (q1 (gD H3 aeY) (q1 (b3 DU) (q1 aF (qN (aO.ret ?_))))))
  cases aZ H
  exact lW (hr:=⟨⟨_,_,_,rfl,rfl,uL,rfl,rfl⟩,rfl,trivial⟩)
 refine aO.skip (qS (qR (q1 (cY [pS x6.gAtom,rS x10,pB x12,pB x14,lQ v19 0] uL) (q1 (b3 DU) (q1 aF (qN (aO.ret ?_)))))))
 cases aZ H
 exact lW (hr:=⟨⟨_,_,_,rfl,rfl,uL,rfl,rfl⟩,rfl,trivial⟩)
def JN(m:aM→Option aB):Prop:= ∀(pd:aM) (r:aB),m pd=some r→cA Tryz.prog 250 [(aM.pv pd)] ((aB.pv r):PV)
def GR(fu:Nat)(pd:aM)(x2 x4 x6 x8:aB):Nat→((List aB))→Option (LR ((List aB)) aB):=
 fun i9 v11=>bd (cI fu ((bB pd.gConstructors i9).gName)) (fun x15=>
 bd (zN fu ((bB pd.gConstructors i9).gFields)) (fun x17=>
 gd ((([x15]:List aB)).length+(x17).length≤68719476736)
 (gd ((v11).length+(([(aB.mk s_ (([x15]:List aB)++x17))]:List aB)).length≤68719476736)
 (some (.next (v11++([(aB.mk s_ (([x15]:List aB)++x17))]:List aB)))))))
def GS(fu:Nat)(pd:aM)(x2 x4 x6 x8:aB):Option (aB⊕((List aB))):=
 loopN (GR fu pd x2 x4 x6 x8) (pd.gConstructors.length-0) 0 x8.gList
def sB(fu:Nat)(pd:aM):Option aB:=
 bd (cI fu N7) (fun x2=>
 bd (cI fu pd.gName) (fun x4=>
 bd (lJ fu pd.gVars) (fun x6=>
 bd (l5 fu ([x2,x4,x6]:List aB)) (fun x8=>
 so (GS fu pd x2 x4 x6 x8) (fun v11=>
 bd (n3 fu pd) (fun x21=>
 bd (BO fu x21 (aB.mk x8.gAtom v11)) (fun x23=>
 some x23)))))))
theorem GT(fu:Nat):JN (sB fu):=by
 intro pd r H
 have H:=fF H
 refine qI Tryz.func250 (fun C hC=>?_)
 refine qS (qR (q1 (kQ (xF pd)) (q1 (iG cF) (qN (qS (bU H fun x2 z1 H=>(bU H fun x4 z3 H=>(bU H fun x6 z5 H=>(bU H fun x8 z7 H=>(dWa (dI [] (bQ Tryz.func266 (cB fu N7 _ z1)) (dI [1] (bC XJ) (dBz [6] 0 0 (vQ fO) ?_)))))))))))))
 refine dI [7] (bQ Tryz.func266 (cB fu pd.gName _ z3)) (dI [1] (bC K2) (dBz [9] 0 0 (vQ lI) (dI [10] (bQ Tryz.func267 (mF fu pd.gVars _ z5)) (dI [5,8,11] (iW ([x2,x4,x6]:List aB) bO cF) ?_))))
 refine dEz [12] (fun _ z=>by cases z<;>exact aV.callOwn (pre:=⟨[],[]⟩) (B:= []) (R:=fun k=> .agg [pS x8.gAtom,eL x8.gList k]) (ps:= [_]) (qs:= [bJ ([x2,x4,x6]:List aB)]) [] rfl rfl Tryz.func265 (by kernel_rfl) rfl rfl rfl (l6.of trivial trivial (by decide) (by decide)) rfl lG rfl rfl rfl (fun k k'=>(.agg (.cons (.free _ rfl) (.cons Mv.acc XC.nil)))) (mV fu ([x2,x4,x6]:List aB) _ z7)) ?_;refine dA (fun _ st h=>vAl h cF) (dZ 3 [3,13] (b3 eQ) (dN ?_))
 iterate 2 refine qS ?_
 refine qR (q1 aF (qN ?_))
 refine aO.fact (c3 0 2 rfl rfl rfl (aD.trs_len _)) (fun hl12=>?_)
 refine cM (σ:=(List aB)) (fun i9 v11=>⟨[(1,.ptr 0 0),(2,.ptr 1 0),(3,.ptr 2 0),(4,pN i9)],⟨[some ⟨116,xF pd⟩,some ⟨237,[pS s_,.nil]⟩,some ⟨237,[pS x8.gAtom,eL v11 0]⟩],[⟨237,2,aB.trs (v11),false⟩]⟩⟩) (fun v11=>⟨[(1,.ptr 0 0),(2,.ptr 1 0),(3,.ptr 2 0)],⟨[some ⟨116,xF pd⟩,some ⟨237,[pS s_,.nil]⟩,some ⟨237,[pS x8.gAtom,eL v11 0]⟩],[⟨237,2,aB.trs (v11),false⟩]⟩⟩) (gW H) ?_ ?_
 ·rintro i9 v11 H
  iterate 2 refine qS ?_
  refine qR (q1 aF (q1 (bC m5) (q1 (bL zK) (q1 (eR wM (aD.trs_len _)) (q1 iQ (qN ?_))))))
  refine eO H (fun h13 h13l H=>?_) (fun h13 H=>?_)
  ·have h13n:=bF h13
   refine aO.skip (qS (aO.block (bU H fun x15 z14 H=>(bU H fun x17 z16 H=>(c9 H fun z18 H=>(c9 H fun z19 H=>(dW (dI [3] (bC bN) (dB [21] 0 2 (vQ c6) (dI [1] (bC m5) (dD [23] (bL zK) (dI [4] aF (dI [24,25] (jH h13n wM) ?_)))))))))))))
   refine dI [26] (rC QZ) (dI [27] (p9 fO) (dI [28] (bQ Tryz.func266 (cB fu ((bB pd.gConstructors i9).gName) _ z14)) (dE [29] (wA ([x15]:List aB) bO cF) (dI [1] (bC m5) (dB [31] 0 1 (vQ zK) (dI [4] aF (dI [32,33] (jH h13n wM) (dI [34] (rC K5) (dI [35] (p9 mQ) (dI [36] (bQ Tryz.func268 (L8 fu ((bB pd.gConstructors i9).gFields) _ z16)) (dE [30,37] (oE z18 bO q8) (dI [38] (gD cF nF) (dI [39] (iW ([(aB.mk s_ (([x15]:List aB)++x17))]:List aB) bO cF) ?_)))))))))))))
   refine dE [22,40] (oE z19 bO q8) (dI [3] (bC bN) (m4 [42,41] (b3 zS) (dN (qR (q1 aF (q1 (aV.addI rfl rfl rfl rfl (c:=((i9+1:Nat):Int)) (by omega) (by omega)) (q1 aF (qN ?_))))))))
   exact j8 h13l ⟨_,(aZ H:),b9⟩
  refine aO.exit ?_;exact lP ⟨_,H,b9⟩
 rintro v11 H
 refine qS (bU H fun x21 z20 H=>(bU H fun x23 z22 H=>(dW (dD [1] (cY [pS pd.gName,rS pd.gVars,fM pd.gConstructors] tR) (dI [43] (bQ Tryz.func257 (wN fu pd _ z20)) (dD [3] (cY [pS x8.gAtom,eL v11 0] bY) (dI [44,45] (bQ Tryz.func271 (F5 fu x21 (aB.mk x8.gAtom v11) _ z22)) (m4 [2,46] (b3 eQ) (dN (aO.ret ?_))))))))))
 cases aZ H
 exact bR (hr:=⟨⟨_,_,_,rfl,rfl,bY,rfl,rfl⟩,trivial⟩)
def JV(m:aB→Option (aM×Bool)):Prop:= ∀(px:aB) (r:aM×Bool),m px=some r→cA Tryz.prog 231 [(aB.pv px)] (.tup [(aM.pv r.1),pB r.2]:PV)
def HJ(fu:Nat)(px x2 x4:aB)(x6:List ByteArray)(x8:List aB):Nat→((List aD))→Option (LR ((List aD)) (aM×Bool)):=
 fun i9 v11=>bd (dR fu (bB x8 i9) 0) (fun x15=>
 bd (uQ fu (bB x8 i9) 1) (fun x17=>
 bd (F6 fu x17) (fun x19=>
 gd ((v11).length+(([(aD.mk x15.gAtom x19)]:List aD)).length≤68719476736)
 (some (.next (v11++([(aD.mk x15.gAtom x19)]:List aD)))))))
def HK(fu:Nat)(px x2 x4:aB)(x6:List ByteArray)(x8:List aB):Option ((aM×Bool)⊕((List aD))):=
 loopN (HJ fu px x2 x4 x6 x8) (x8.length-0) 0 ([])
def sE(fu:Nat)(px:aB):Option (aM×Bool):=
 bd (dR fu px 1) (fun x2=>
 bd (dR fu px 2) (fun x4=>
 bd (mE fu x4) (fun x6=>
 bd (uQ fu px 3) (fun x8=>
 so (HK fu px x2 x4 x6 x8) (fun v11=>
 bd (iE fu px) (fun x22=>
 sw (!(x22))
 (some ((aM.mk s_ [] []),false))
 (sw (decide ((px.gList.length:Int)=0))
 (some ((aM.mk s_ [] []),false))
 (bd (sB fu (aM.mk x2.gAtom x6 v11)) (fun x26=>
 bd (fW fu x26 px) (fun x28=>
 sw (!(x28))
 (some ((aM.mk s_ [] []),false))
 (some ((aM.mk x2.gAtom x6 v11),true))))))))))))
theorem HN(fu:Nat):JV (sE fu):=by
 intro px r H
 have H:=fF H
 refine qI Tryz.func231 (fun C hC=>?_)
 refine qS (qR (q1 (kQ ([pS px.gAtom,bJ px.gList])) (q1 (iG DH) (q1 aF (qN (qS (bU H fun x2 z1 H=>(bU H fun x4 z3 H=>(bU H fun x6 z5 H=>(dW (dB [1] 0 1 (RC [pS px.gAtom,bJ px.gList] bY) (dI [7] (bQ Tryz.func219 (c8 fu px 1 _ z1)) (dI [8] (rF1 tA) ?_)))))))))))))
 refine dB [1] 0 1 (RC [pS px.gAtom,bJ px.gList] bY) (dI [10] (bQ Tryz.func219 (c8 fu px 2 _ z3)) (dI [11] (bQ Tryz.func243 (oA fu x4 _ z5)) (dI [9,12] (gD DH abD) (dE [] (iG DH) (m4 [4,13] (b3 DG) (dN (qS (qR (q1 (cY [pS px.gAtom,bJ px.gList] bY) (bU H fun x8 z7 H=>(q1 (bQ Tryz.func244 (zM fu px 3 _ z7)) (q1 aF (qN ?_)))))))))))))
 iterate 2 refine qS ?_
 refine qR (q1 aF (qN (aO.wk (Wk.regBox (k:=2) (j:=2) 195 2 (by decide) rfl rfl) ?_)))
 refine kV 5 (aB.trs_len _) (fun hl12=>?_)
 refine cM (σ:=(List aD)) (fun i9 v11=>⟨[(1,.ptr 0 0),(2,.ptr 1 0),(3,pB false),(4,.ptr 2 0),(5,bJ x8),(6,pN i9)],⟨[some ⟨237,[pS px.gAtom,bJ px.gList]⟩,some ⟨116,[pS s_,.nil,.nil]⟩,some ⟨116,[pS x2.gAtom,rS x6,wT v11 0]⟩],[⟨195,2,aD.trs (v11),false⟩]⟩⟩) (fun v11=>⟨[(1,.ptr 0 0),(2,.ptr 1 0),(3,pB false),(4,.ptr 2 0)],⟨[some ⟨237,[pS px.gAtom,bJ px.gList]⟩,some ⟨116,[pS s_,.nil,.nil]⟩,some ⟨116,[pS x2.gAtom,rS x6,wT v11 0]⟩],[⟨195,2,aD.trs (v11),false⟩]⟩⟩) (gW H) ?_ ?_
 ·rintro i9 v11 H
  iterate 2 refine qS ?_
  refine qR ?_
  iterate 2 refine q1 aF ?_
  refine q1 (eR bO (aB.trs_len _)) (q1 iQ (qN ?_))
  refine eO H (fun h13 h13l H=>?_) (fun h13 H=>?_)
  ·have h13n:=bF h13
   refine aO.skip (qS (aO.block (bU H fun x15 z14 H=>(bU H fun x17 z16 H=>(bU H fun x19 z18 H=>(c9 H fun z20 H=>(dW (dI [4] (bC m5) (dD [22] (bL zK) (dI [5] aF (dI [6] aF (dI [24,25] (jH h13n bO) (dI [26] (lB (aB.cs (bB x8 i9)) bY) ?_)))))))))))))
   refine dI [27] (bQ Tryz.func219 (c8 fu (bB x8 i9) 0 _ z14)) (dI [28] (rF1 tA) (dI [5] aF (dI [6] aF (dI [30,31] (jH h13n bO) (dI [32] (lB (aB.cs (bB x8 i9)) bY) (dI [33] (bQ Tryz.func244 (zM fu (bB x8 i9) 1 _ z16)) (dI [34] (bQ Tryz.func245 (TM fu x17 _ z18)) (dI [29,35] (gD adW ak9) (dI [36] (iW ([(aD.mk x15.gAtom x19)]:List aD) wM adW) (dE [23,37] (oE z20 wM apT) (dI [4] (bC m5) (m4 [39,38] (b3 anM) (dN ?_)))))))))))))
   refine qR (q1 aF (q1 (aV.addI rfl rfl rfl rfl (c:=((i9+1:Nat):Int)) (by omega) (by omega)) (q1 aF (qN ?_))))
   exact j8 h13l ⟨_,(aZ H:),b9⟩
  refine aO.exit ?_;exact lP ⟨_,H,b9⟩
 rintro v11 H
 iterate 2 refine qS ?_
 refine bU H fun x22 z21 H=>?_
 rcases nN (!(x22)) with g23|g23
 ·have H:=qZ H g23
  refine dW (dD [1] (cY [pS px.gAtom,bJ px.gList] bY) (dI [40] (bQ Tryz.func217 (dL fu px _ z21)) (dI [41] iS (dI [42] aF ?_))))
  iterate 4 refine H8 g23 ?_
  refine dI [43] (b0 g23) (dI [48] aF ?_)
  iterate 5 refine H8 rfl ?_
  refine dI [49] (b0 rfl) (dN (eM rfl (qS (qR (q1 (gD DH abD) (q1 (b3 DG) (q1 aF (qN (aO.ret ?_)))))))))
  cases aZ H
  exact lW (hr:=⟨⟨_,_,_,rfl,rfl,tR,rfl,rfl⟩,rfl,trivial⟩)
 have H:=qY H g23
 rcases nN (decide ((px.gList.length:Int)=0)) with g24|g24
 ·have H:=qZ H g24
  refine dW (dD [1] (cY [pS px.gAtom,bJ px.gList] bY) (dI [40] (bQ Tryz.func217 (dL fu px _ z21)) (dI [41] iS (dI [42] aF (dI (hg:=bE g23) [1] (bC bN) (dD (hg:=bE g23) [44] (bL c6) (dI (hg:=bE g23) [45] (eR bO (aB.trs_len _)) (dI (hg:=bE g23) [46] eP (dI [43,47] (cC g23) (dI [48] aF ?_))))))))))
  iterate 5 refine H8 g24 ?_
  refine dI [49] (b0 g24) (dN (eM rfl (qS (qR (q1 (gD DH abD) (q1 (b3 DG) (q1 aF (qN (aO.ret ?_)))))))))
  cases aZ H
  exact lW (hr:=⟨⟨_,_,_,rfl,rfl,tR,rfl,rfl⟩,rfl,trivial⟩)
 have H:=qY H g24
 refine bU H fun x26 z25 H=>(bU H fun x28 z27 H=>(dW (dD [1] (cY [pS px.gAtom,bJ px.gList] bY) (dI [40] (bQ Tryz.func217 (dL fu px _ z21)) (dI [41] iS (dI [42] aF (dI (hg:=bE g23) [1] (bC bN) (dD (hg:=bE g23) [44] (bL c6) (dI (hg:=bE g23) [45] (eR bO (aB.trs_len _)) (dI (hg:=bE g23) [46] eP (dI [43,47] (cC g23) (dI [48] aF (dD (hg:=bE g24) [4] (cY [pS x2.gAtom,rS x6,wT v11 0] tR) ?_)))))))))))))
 refine dI (hg:=bE g24) [50] (bQ Tryz.func250 (GT fu (aM.mk x2.gAtom x6 v11) _ z25)) (dD (hg:=bE g24) [1] (cY [pS px.gAtom,bJ px.gList] bY) (dI (hg:=bE g24) [51,52] (bQ Tryz.func248 (tM fu x26 px _ z27)) (dI (hg:=bE g24) [53] iS (dI [49,54] (cC g24) (dN ?_)))))
 refine bH H (fun h29 H=>?_) (fun h29 H=>?_)
 ·refine qS (qR (q1 (gD DH abD) (q1 (b3 DG) (q1 aF (qN (aO.ret ?_))))))
  cases aZ H
  exact lW (hr:=⟨⟨_,_,_,rfl,rfl,tR,rfl,rfl⟩,rfl,trivial⟩)
 refine aO.skip (qS (qR (q1 (cY [pS x2.gAtom,rS x6,wT v11 0] tR) (q1 (b3 DG) (q1 aF (qN (aO.ret ?_)))))))
 cases aZ H
 exact lW (hr:=⟨⟨_,_,_,rfl,rfl,tR,rfl,rfl⟩,rfl,trivial⟩)
def Y4(m:aB→Option ((List aI))):Prop:= ∀(px:aB) (r:(List aI)),m px=some r→cA Tryz.prog 251 [(aB.pv px)] (fD r:PV)
def V0(fu:Nat)(px:aB):Nat→((List aI))→Option (LR ((List aI)) ((List aI))):=
 fun i1 v3=>bd (dR fu (bB px.gList i1) 0) (fun x7=>
 bd (dR fu (bB px.gList i1) 1) (fun x9=>
 bd (mH fu x9) (fun x11=>
 gd ((v3).length+(([(aI.mk x7.gAtom x11)]:List aI)).length≤68719476736)
 (some (.next (v3++([(aI.mk x7.gAtom x11)]:List aI)))))))
def V1(fu:Nat)(px:aB):Option (((List aI))⊕((List aI))):=
 loopN (V0 fu px) (px.gList.length-0) 0 ([])
def xD(fu:Nat)(px:aB):Option ((List aI)):=
 so (V1 fu px) (fun v3=>
 some v3)
theorem IK(fu:Nat):Y4 (xD fu):=by
 intro px r H
 have H:=fF H
 refine qI Tryz.func251 (fun C hC=>?_)
 refine qS (qR (q1 (kQ ([pS px.gAtom,bJ px.gList])) (q1 aF (qN (qS (qR (q1 (wA ([]:List aI) yW AM) (q1 aF (qN ?_)))))))))
 iterate 2 refine qS ?_
 refine qR (q1 aF (qN ?_))
 refine aO.fact (c3 0 1 rfl rfl rfl (aB.trs_len _)) (fun hl4=>?_)
 refine cM (σ:=(List aI)) (fun i1 v3=>⟨[(1,.ptr 0 0),(2,.nil),(3,akO v3 0),(4,pN i1)],⟨[some ⟨237,[pS px.gAtom,bJ px.gList]⟩],[⟨37,4,aI.trs (v3),false⟩]⟩⟩) (fun v3=>⟨[(2,.nil),(3,akO v3 0)],⟨[some ⟨237,[pS px.gAtom,bJ px.gList]⟩],[⟨37,4,aI.trs (v3),false⟩]⟩⟩) (gW H) ?_ ?_
 ·rintro i1 v3 H
  iterate 2 refine qS ?_
  refine qR (q1 aF (q1 (bC bN) (q1 (bL c6) (q1 (eR bO (aB.trs_len _)) (q1 iQ (qN ?_))))))
  refine eO H (fun h5 h5l H=>?_) (fun h5 H=>?_)
  ·have h5n:=bF h5
   refine aO.skip (qS (aO.block (bU H fun x7 z6 H=>(bU H fun x9 z8 H=>(bU H fun x11 z10 H=>(c9 H fun z12 H=>(dW (dI [3] aF (dI [1] (bC bN) (dD [14] (bL c6) (dI [4] aF (dI [15,16] (jH h5n bO) (dI [17] (lB (aB.cs (bB px.gList i1)) bY) ?_)))))))))))))
   refine dI [18] (bQ Tryz.func219 (c8 fu (bB px.gList i1) 0 _ z6)) (dI [19] (rF1 tA) (dI [1] (bC bN) (dD [21] (bL c6) (dI [4] aF (dI [22,23] (jH h5n bO) (dI [24] (lB (aB.cs (bB px.gList i1)) bY) (dI [25] (bQ Tryz.func219 (c8 fu (bB px.gList i1) 1 _ z8)) (dI [26] (bQ Tryz.func246 (vP fu x9 _ z10)) (dI [20,27] (gD AM U7) (dI [28] (iW ([(aI.mk x7.gAtom x11)]:List aI) yW AM) (dE [13,29] (oE z12 yW aoQ) (dI [30] aF (dN ?_)))))))))))))
   refine qR (q1 aF (q1 (aV.addI rfl rfl rfl rfl (c:=((i1+1:Nat):Int)) (by omega) (by omega)) (q1 aF (qN ?_))))
   exact j8 h5l ⟨_,(aZ H:),b9⟩
  refine aO.exit ?_;exact lP ⟨_,H,b9⟩
 rintro v3 H
 refine qS (qR ?_)
 iterate 2 refine q1 aF ?_
 refine qN (aO.ret ?_)
 cases aZ H
 exact bR
def ac3(m:(List aI)→Option aB):Prop:= ∀(plist:List aI) (r:aB),m plist=some r→cA Tryz.prog 272 [fD plist] ((aB.pv r):PV)
def Y7(fu:Nat)(plist:List aI):Nat→((List aB))→Option (LR ((List aB)) aB):=
 fun i1 v3=>bd (cI fu ((bB plist i1).gTrait)) (fun x7=>
 bd (mG fu ((bB plist i1).gType)) (fun x9=>
 bd (l5 fu ([x7,x9]:List aB)) (fun x11=>
 gd ((v3).length+(([x11]:List aB)).length≤68719476736)
 (some (.next (v3++([x11]:List aB)))))))
def Y8(fu:Nat)(plist:List aI):Option (aB⊕((List aB))):=
 loopN (Y7 fu plist) (plist.length-0) 0 ([])
def zO(fu:Nat)(plist:List aI):Option aB:=
 so (Y8 fu plist) (fun v3=>
 some (aB.mk s_ v3))
theorem L9(fu:Nat):ac3 (zO fu):=by
 intro plist r H
 have H:=fF H
 refine qI Tryz.func272 (fun C hC=>?_)
 refine qS (qR (q1 (iG cF) (qN (qS (qR (q1 (gD cF nF) (q1 (iG cF) (q1 (b3 eQ) (qN ?_)))))))))
 iterate 2 refine qS ?_
 refine qR (q1 aF (qN (aO.wk (Wk.regBox (k:=1) (j:=1) 237 2 (by decide) rfl rfl) ?_)))
 refine kV 0 (aI.trs_len _) (fun hl4=>?_)
 refine cM (σ:=(List aB)) (fun i1 v3=>⟨[(0,fD plist),(2,.ptr 0 0),(3,.ptr 1 0),(4,pN i1)],⟨[some ⟨237,[pS s_,.nil]⟩,some ⟨237,[pS s_,eL v3 0]⟩],[⟨237,2,aB.trs (v3),false⟩]⟩⟩) (fun v3=>⟨[(2,.ptr 0 0),(3,.ptr 1 0)],⟨[some ⟨237,[pS s_,.nil]⟩,some ⟨237,[pS s_,eL v3 0]⟩],[⟨237,2,aB.trs (v3),false⟩]⟩⟩) (gW H) ?_ ?_
 ·rintro i1 v3 H
  iterate 2 refine qS ?_
  refine qR ?_
  iterate 2 refine q1 aF ?_
  refine q1 (eR yW (aI.trs_len _)) (q1 iQ (qN ?_))
  refine eO H (fun h5 h5l H=>?_) (fun h5 H=>?_)
  ·have h5n:=bF h5
   refine aO.skip (qS (aO.block (bU H fun x7 z6 H=>(bU H fun x9 z8 H=>(bU H fun x11 z10 H=>(c9 H fun z12 H=>(dW (dI [3] (bC bN) (dD [12] (bL c6) (dI [0] aF (dI [4] aF (dI [14,15] (jH h5n yW) (dI [16] (rC RU) ?_)))))))))))))
   refine dI [17] (p9 fO) (dI [18] (bQ Tryz.func266 (cB fu ((bB plist i1).gTrait) _ z6)) (dI [0] aF (dI [4] aF (dI [20,21] (jH h5n yW) (dI [22] (rC xU) (dI [23] (lB (aA.cs ((bB plist i1).gType)) b8) (dI [24] (bQ Tryz.func269 (vO fu ((bB plist i1).gType) _ z8)) (dI [19,25] (iW ([x7,x9]:List aB) bO cF) (dI [26] (bQ Tryz.func265 (CZ (mV fu) ([x7,x9]:List aB) _ z10)) (dI [27] (iW ([x11]:List aB) bO cF) (dE [13,28] (oE z12 bO q8) (dI [3] (bC bN) (m4 [30,29] (b3 zS) ?_)))))))))))))
   refine dN (qR (q1 aF (q1 (aV.addI rfl rfl rfl rfl (c:=((i1+1:Nat):Int)) (by omega) (by omega)) (q1 aF (qN ?_)))))
   exact j8 h5l ⟨_,(aZ H:),b9⟩
  refine aO.exit ?_;exact lP ⟨_,H,b9⟩
 rintro v3 H
 refine qS (qR (q1 (cY [pS s_,eL v3 0] bY) (q1 (b3 eQ) (qN (aO.ret ?_)))))
 cases aZ H
 exact bR (hr:=⟨⟨_,_,_,rfl,rfl,bY,rfl,rfl⟩,trivial⟩)
def JQ(m:aG→Option aB):Prop:= ∀(pa0:aG) (r:aB),m pa0=some r→cA Tryz.prog 252 [(aG.pv pa0)] ((aB.pv r):PV)
def GY(fu:Nat)(pa0:aG)(x2:Bool):Option (aB⊕((List ByteArray))):=
 sw (pa0.gDefault)
 (gd (([]:List ByteArray).length+(([uK]:List ByteArray)).length≤68719476736)
 (some (.inr (([])++([uK]:List ByteArray)))))
 (some (.inr ([])))
def GZ(fu:Nat)(pa0:aG)(x2:Bool)(v5:List ByteArray):Option (aB⊕(ByteArray×(List aB))):=
 sw (pa0.gHasAssoc)
 (bd (mG fu pa0.gAssoc) (fun x12=>
 bd (l5 fu ([x12]:List aB)) (fun x14=>
 some (.inr (x14.gAtom,x14.gList)))))
 (some (.inr (s_,([]))))
def G0(fu:Nat)(pa0:aG)(x2:Bool)(v5:List ByteArray)(v8:ByteArray)(v9:List aB)(x16 x18 x20 x22 x24 x26 x28:aB):Nat→((List aB))→Option (LR ((List aB)) aB):=
 fun i29 v31=>lt (bB pa0.gMethods i29) (fun y34=>
 bd (cI fu y34.gName) (fun x37=>
 bd (lJ fu y34.gVars) (fun x39=>
 bd (mD fu y34.gBody) (fun x41=>
 bd (l5 fu ([x37,x39,x41]:List aB)) (fun x43=>
 gd ((v31).length+(([(aB.mk x43.gAtom x43.gList)]:List aB)).length≤68719476736)
 (some (.next (v31++([(aB.mk x43.gAtom x43.gList)]:List aB)))))))))
def G1(fu:Nat)(pa0:aG)(x2:Bool)(v5:List ByteArray)(v8:ByteArray)(v9:List aB)(x16 x18 x20 x22 x24 x26 x28:aB):Option (aB⊕((List aB))):=
 loopN (G0 fu pa0 x2 v5 v8 v9 x16 x18 x20 x22 x24 x26 x28) (pa0.gMethods.length-0) 0 x28.gList
def sD(fu:Nat)(pa0:aG):Option aB:=
 bd (n5 fu pa0) (fun x2=>
 sw (!(x2))
 (some (aB.mk s_ []))
 (so (GY fu pa0 x2) (fun v5=>
 so (GZ fu pa0 x2 v5) (fun(v8,v9)=>
 bd (cI fu N8) (fun x16=>
 bd (cI fu pa0.gTrait) (fun x18=>
 bd (lJ fu pa0.gVars) (fun x20=>
 bd (mG fu pa0.gHead) (fun x22=>
 bd (zO fu pa0.gWhere) (fun x24=>
 bd (lJ fu v5) (fun x26=>
 bd (l5 fu ([x16,x18,x20,x22,x24,x26,(aB.mk v8 v9)]:List aB)) (fun x28=>
 so (G1 fu pa0 x2 v5 v8 v9 x16 x18 x20 x22 x24 x26 x28) (fun v31=>
 bd (BO fu true (aB.mk x28.gAtom v31)) (fun x46=>
 some x46)))))))))))))
theorem G2(fu:Nat):JQ (sD fu):=by
 intro pa0 r H
 have H:=fF H
 refine qI Tryz.func252 (fun C hC=>?_)
 refine qS (qR (q1 (kQ (eH pa0)) (q1 (iG cF) (qN ?_))))
 iterate 2 refine qS ?_
 refine qR (q1 (cY [pS pa0.gTrait,rS pa0.gVars,pI pa0.gHead.gKind,pS pa0.gHead.gName,aW pa0.gHead.gArgs,fD pa0.gWhere,pB pa0.gDefault,pB pa0.gHasAssoc,pI pa0.gAssoc.gKind,pS pa0.gAssoc.gName,aW pa0.gAssoc.gArgs,jK pa0.gMethods] pD) (bU H fun x2 z1 H=>(q1 (bQ Tryz.func258 (wP fu pa0 _ z1)) (q1 iS (qN ?_)))))
 refine bH H (fun h3 H=>?_) (fun h3 H=>?_)
 ·refine qS (qR (q1 (gD cF nF) (q1 (b3 eQ) (qN (aO.ret ?_)))))
  cases aZ H
  exact bR (hr:=⟨⟨_,_,_,rfl,rfl,bY,rfl,rfl⟩,trivial⟩)
 refine aO.skip (qS (qR (q1 (wA ([]:List ByteArray) b6 lO) (q1 aF (qN (qS ?_))))))
 refine qF (σ:=(List ByteArray)) (fun v5=>⟨[(1,.ptr 0 0),(2,.ptr 1 0),(3,aS v5 0)],⟨[some ⟨55,eH pa0⟩,some ⟨237,[pS s_,.nil]⟩],[⟨9,1,aX (v5),false⟩]⟩⟩) (gW H) (fun H=>?_) ?_
 ·refine qS (qR (q1 (bC RX) (q1 (bL sh4) (qN ?_))))
  refine bH H (fun h6 H=>?_) (fun h6 H=>?_)
  ·refine qR (q1 aF (q1 (iW ([uK]:List ByteArray) b6 lO) (c9 H fun z7 H=>(q1 (oE z7 b6 sM) (q1 aF (qN ?_))))))
   exact eC ⟨_,(aZ H:),b9⟩
  refine aO.skip ?_;exact eC ⟨_,(aZ H:),b9⟩
 rintro v5 H
 refine qS (qR (q1 (gD cF nF) (q1 (iG cF) (q1 (b3 eQ) (qN (qS (aO.wk (Wk.regBox (k:=2) (j:=1) 237 2 (by decide) rfl rfl) ?_)))))))
 refine qF (σ:=ByteArray×(List aB)) (fun(v8,v9)=>⟨[(1,.ptr 0 0),(2,.ptr 1 0),(3,aS v5 0),(4,.ptr 2 0)],⟨[some ⟨55,eH pa0⟩,some ⟨237,[pS s_,.nil]⟩,some ⟨237,[pS v8,bJ v9]⟩],[⟨9,1,aX (v5),false⟩,⟨237,2,aB.trs ([]),false⟩]⟩⟩) (gW H) (fun H=>?_) ?_
 ·refine qS (qR (q1 (bC MY) (q1 (bL sh4) (qN ?_))))
  refine bH H (fun h10 H=>?_) (fun h10 H=>?_)
  ·refine qR (q1 (bC D9) (q1 (cY [pI pa0.gAssoc.gKind,pS pa0.gAssoc.gName,aW pa0.gAssoc.gArgs] b8) (bU H fun x12 z11 H=>(q1 (bQ Tryz.func269 (vO fu pa0.gAssoc _ z11)) (q1 (iW ([x12]:List aB) bO cF) (bU H fun x14 z13 H=>(q1 (aV.callOwn (pre:=⟨[],[]⟩) (B:= []) (R:=fun k=> .agg [pS x14.gAtom,eL x14.gList k]) (ps:= [_]) (qs:= [bJ ([x12]:List aB)]) [] rfl rfl Tryz.func265 (by kernel_rfl) rfl rfl rfl (l6.of trivial trivial (by decide) (by decide)) rfl lG rfl rfl rfl (fun k k'=>(.agg (.cons (.free _ rfl) (.cons Mv.acc XC.nil)))) (mV fu ([x12]:List aB) _ z13)) (q1 (b3 eQ) (qN ?_)))))))))
   exact eC ⟨_,(aZ H:),b9⟩
  refine aO.skip ?_;exact eC ⟨_,(aZ H:),b9⟩
 rintro⟨v8,v9⟩ H
 refine qS (bU H fun x16 z15 H=>(bU H fun x18 z17 H=>(bU H fun x20 z19 H=>(bU H fun x22 z21 H=>(bU H fun x24 z23 H=>(bU H fun x26 z25 H=>(bU H fun x28 z27 H=>(dWa (dI [] (bQ Tryz.func266 (cB fu N8 _ z15)) (dI [1] (bC RW) (dBz [27] 0 0 (vQ fO) (dI [28] (bQ Tryz.func266 (cB fu pa0.gTrait _ z17)) (dI [1] (bC rW) ?_)))))))))))))
 refine dBz [30] 0 0 (vQ lI) (dI [31] (bQ Tryz.func267 (mF fu pa0.gVars _ z19)) (dI [1] (bC m9) (dBz [33] 0 0 (RC [pI pa0.gHead.gKind,pS pa0.gHead.gName,aW pa0.gHead.gArgs] b8) (dI [34] (bQ Tryz.func269 (vO fu pa0.gHead _ z21)) (dI [1] (bC D8) (dBz [36] 0 0 (vQ ae5) (dI [37] (bQ Tryz.func272 (L9 fu pa0.gWhere _ z23)) (dI [3] aF (dI [39] (bQ Tryz.func267 (mF fu v5 _ z25)) (dBz [4] 0 0 (RC [pS v8,bJ v9] bY) (dI [26,29,32,35,38,40,41] (iW ([x16,x18,x20,x22,x24,x26,(aB.mk v8 v9)]:List aB) bO cF) ?_)))))))))))
 refine dEz [42] (fun _ z=>by cases z<;>exact aV.callOwn (pre:=⟨[],[]⟩) (B:= []) (R:=fun k=> .agg [pS x28.gAtom,eL x28.gList k]) (ps:= [_]) (qs:= [bJ ([x16,x18,x20,x22,x24,x26,(aB.mk v8 v9)]:List aB)]) [] rfl rfl Tryz.func265 (by kernel_rfl) rfl rfl rfl (l6.of trivial trivial (by decide) (by decide)) rfl lG rfl rfl rfl (fun k k'=>(.agg (.cons (.free _ rfl) (.cons Mv.acc XC.nil)))) (mV fu ([x16,x18,x20,x22,x24,x26,(aB.mk v8 v9)]:List aB) _ z27)) ?_;refine dA (fun _ st h=>vAl h cF) (dZ 5 [5,43] (b3 eQ) (dN ?_))
 iterate 2 refine qS ?_
 refine qR (q1 aF (qN ?_))
 refine aO.fact (c3 0 11 rfl rfl rfl (aN.trs_len _)) (fun hl32=>?_)
 refine cM (σ:=(List aB)) (fun i29 v31=>⟨[(1,.ptr 0 0),(2,.ptr 1 0),(5,.ptr 3 0),(6,pN i29)],⟨[some ⟨55,eH pa0⟩,some ⟨237,[pS s_,.nil]⟩,some ⟨237,[pS v8,bJ v9]⟩,some ⟨237,[pS x28.gAtom,eL v31 2]⟩],[⟨9,1,aX (v5),false⟩,⟨237,2,aB.trs ([]),false⟩,⟨237,2,aB.trs (v31),false⟩]⟩⟩) (fun v31=>⟨[(2,.ptr 1 0),(5,.ptr 3 0)],⟨[some ⟨55,eH pa0⟩,some ⟨237,[pS s_,.nil]⟩,some ⟨237,[pS v8,bJ v9]⟩,some ⟨237,[pS x28.gAtom,eL v31 2]⟩],[⟨9,1,aX (v5),false⟩,⟨237,2,aB.trs ([]),false⟩,⟨237,2,aB.trs (v31),false⟩]⟩⟩) (gW H) ?_ ?_
 ·rintro i29 v31 H
  iterate 2 refine qS ?_
  refine qR (q1 aF (q1 (bC xV) (q1 (bL YL) (q1 (eR KY (aN.trs_len _)) (q1 iQ (qN ?_))))))
  refine eO H (fun h33 h33l H=>?_) (fun h33 H=>?_)
  ·have h33n:=bF h33
   refine aO.skip (qS (aO.block (qS (qR (q1 (bC xV) (q1 (bL YL) (q1 aF (gU H fun y34 h35 H=>(q1 (yI h35 h33n KY) (q1 (lB (aN.cs y34) alF) (q1 (iG O8) (q1 (b3 ah3) (qN ?_)))))))))))))
   refine bU H fun x37 z36 H=>(bU H fun x39 z38 H=>(bU H fun x41 z40 H=>(bU H fun x43 z42 H=>(c9 H fun z44 H=>(dW (dI [5] (bC bN) (dB [56] 0 1 (vQ c6) (dI [7] (bC XO) (dD [58] (bL fO) (dI [59] (bQ Tryz.func266 (cB fu y34.gName _ z36)) (dI [7] (bC FO) (dD [61] (bL lI) (dI [62] (bQ Tryz.func267 (mF fu y34.gVars _ z38)) ?_)))))))))))))
   refine dI [7] (bC QV) (dD [64] (cY [pI y34.gBody.gKind,pS y34.gBody.gTrait,pS y34.gBody.gName,pI y34.gBody.gN,pI y34.gBody.gType.gKind,pS y34.gBody.gType.gName,aW y34.gBody.gType.gArgs,fZ y34.gBody.gArgs,nG y34.gBody.gArms] iH) (dI [65] (bQ Tryz.func270 (OC fu y34.gBody _ z40)) (dI [60,63,66] (iW ([x37,x39,x41]:List aB) bO cF) (dE [67] (aV.callOwn (pre:=⟨[],[]⟩) (B:= []) (R:=fun k=> .agg [pS x43.gAtom,eL x43.gList k]) (ps:= [_]) (qs:= [bJ ([x37,x39,x41]:List aB)]) [] rfl rfl Tryz.func265 (by kernel_rfl) rfl rfl rfl (l6.of trivial trivial (by decide) (by decide)) rfl lG rfl rfl rfl (fun k k'=>(.agg (.cons (.free _ rfl) (.cons Mv.acc XC.nil)))) (mV fu ([x37,x39,x41]:List aB) _ z42)) (dI [68] (iW ([(aB.mk x43.gAtom x43.gList)]:List aB) bO cF) (dE [57,69] (oE z44 bO q8) (dI [5] (bC bN) (m4 [71,70] (b3 zS) (dN (qR (q1 aF (q1 (aV.addI rfl rfl rfl rfl (c:=((i29+1:Nat):Int)) (by omega) (by omega)) (q1 aF ?_)))))))))))))
   refine qN ?_;exact j8 h33l ⟨_,(aZ H:),b9⟩
  refine aO.exit ?_;exact lP ⟨_,H,b9⟩
 rintro v31 H
 refine qS (qR (q1 (cY [pS x28.gAtom,eL v31 2] bY) (bU H fun x46 z45 H=>(q1 (bQ Tryz.func271 (F5 fu true (aB.mk x28.gAtom v31) _ z45)) (q1 (b3 eQ) (qN (aO.ret ?_)))))))
 cases aZ H
 exact bR (hr:=⟨⟨_,_,_,rfl,rfl,bY,rfl,rfl⟩,trivial⟩)
def JX(m:aB→Option (aG×Bool)):Prop:= ∀(pa0:aB) (r:aG×Bool),m pa0=some r→cA Tryz.prog 232 [(aB.pv pa0)] (.tup [(aG.pv r.1),pB r.2]:PV)
def HV(fu:Nat)(pa0 x2 x4:aB)(x6:List ByteArray)(x8:aB)(x10:aA)(x12:aB)(x14:List aI)(x16 x18:aB):Option ((aG×Bool)⊕((List aA)×Bool×Int×ByteArray)):=
 sw (decide ((x18.gList.length:Int)>0))
 (gd (0<(x18.gList).length)
 (bd (mH fu (bB x18.gList 0)) (fun x26=>
 some (.inr (x26.gArgs,true,x26.gKind,x26.gName)))))
 (some (.inr ([],false,0,s_)))
def HW(fu:Nat)(pa0 x2 x4:aB)(x6:List ByteArray)(x8:aB)(x10:aA)(x12:aB)(x14:List aI)(x16 x18:aB)(v22:List aA)(v19:Bool)(v20:Int)(v21:ByteArray)(x28:List aB):Nat→((List aN))→Option (LR ((List aN)) (aG×Bool)):=
 fun i29 v31=>bd (dR fu (bB x28 i29) 0) (fun x35=>
 bd (dR fu (bB x28 i29) 1) (fun x37=>
 bd (mE fu x37) (fun x39=>
 bd (dR fu (bB x28 i29) 2) (fun x41=>
 bd (g0 fu x41) (fun x43=>
 gd ((v31).length+(([(aN.mk x35.gAtom x39 x43)]:List aN)).length≤68719476736)
 (some (.next (v31++([(aN.mk x35.gAtom x39 x43)]:List aN)))))))))
def HX(fu:Nat)(pa0 x2 x4:aB)(x6:List ByteArray)(x8:aB)(x10:aA)(x12:aB)(x14:List aI)(x16 x18:aB)(v22:List aA)(v19:Bool)(v20:Int)(v21:ByteArray)(x28:List aB):Option ((aG×Bool)⊕((List aN))):=
 loopN (HW fu pa0 x2 x4 x6 x8 x10 x12 x14 x16 x18 v22 v19 v20 v21 x28) (x28.length-0) 0 ([])
def sG(fu:Nat)(pa0:aB):Option (aG×Bool):=
 bd (dR fu pa0 1) (fun x2=>
 bd (dR fu pa0 2) (fun x4=>
 bd (mE fu x4) (fun x6=>
 bd (dR fu pa0 3) (fun x8=>
 bd (mH fu x8) (fun x10=>
 bd (dR fu pa0 4) (fun x12=>
 bd (xD fu x12) (fun x14=>
 bd (dR fu pa0 5) (fun x16=>
 bd (dR fu pa0 6) (fun x18=>
 so (HV fu pa0 x2 x4 x6 x8 x10 x12 x14 x16 x18) (fun(v22,v19,v20,v21)=>
 bd (uQ fu pa0 7) (fun x28=>
 so (HX fu pa0 x2 x4 x6 x8 x10 x12 x14 x16 x18 v22 v19 v20 v21 x28) (fun v31=>
 bd (iE fu pa0) (fun x46=>
 sw (!(x46))
 (some ((aG.mk s_ [] (aA.mk 0 s_ []) [] false false (aA.mk 0 s_ []) []),false))
 (sw (decide ((pa0.gList.length:Int)=0))
 (some ((aG.mk s_ [] (aA.mk 0 s_ []) [] false false (aA.mk 0 s_ []) []),false))
 (bd (sD fu (aG.mk x2.gAtom x6 x10 x14 (decide ((x16.gList.length:Int)>0)) v19 (aA.mk v20 v21 v22) v31)) (fun x50=>
 bd (fW fu x50 pa0) (fun x52=>
 sw (!(x52))
 (some ((aG.mk s_ [] (aA.mk 0 s_ []) [] false false (aA.mk 0 s_ []) []),false))
 (some ((aG.mk x2.gAtom x6 x10 x14 (decide ((x16.gList.length:Int)>0)) v19 (aA.mk v20 v21 v22) v31),true)))))))))))))))))))
theorem HY(fu:Nat):JX (sG fu):=by
 intro pa0 r H
 have H:=fF H
 refine qI Tryz.func232 (fun C hC=>?_)
 refine qS (qR (q1 (kQ ([pS pa0.gAtom,bJ pa0.gList])) (q1 (iG tX) (q1 aF (qN (qS (bU H fun x2 z1 H=>(bU H fun x4 z3 H=>(bU H fun x6 z5 H=>(bU H fun x8 z7 H=>(bU H fun x10 z9 H=>(bU H fun x12 z11 H=>(bU H fun x14 z13 H=>?_)))))))))))))
 refine bU H fun x16 z15 H=>(dW (dB [1] 0 1 (RC [pS pa0.gAtom,bJ pa0.gList] bY) (dI [8] (bQ Tryz.func219 (c8 fu pa0 1 _ z1)) (dI [9] (rF1 tA) (dB [1] 0 1 (RC [pS pa0.gAtom,bJ pa0.gList] bY) (dI [11] (bQ Tryz.func219 (c8 fu pa0 2 _ z3)) (dI [12] (bQ Tryz.func243 (oA fu x4 _ z5)) (dB [1] 0 1 (RC [pS pa0.gAtom,bJ pa0.gList] bY) (dI [14] (bQ Tryz.func219 (c8 fu pa0 3 _ z7)) (dI [15] (bQ Tryz.func246 (vP fu x8 _ z9)) (dB [1] 0 1 (RC [pS pa0.gAtom,bJ pa0.gList] bY) (dI [17] (bQ Tryz.func219 (c8 fu pa0 4 _ z11)) (dI [18] (bQ Tryz.func251 (IK fu x12 _ z13)) ?_)))))))))))))
 refine dB [1] 0 1 (RC [pS pa0.gAtom,bJ pa0.gList] bY) (dI [20] (bQ Tryz.func219 (c8 fu pa0 5 _ z15)) (dI [21] (rF1 XR) (dI [22] (eR bO (aB.trs_len _)) (dI [23] MI (dI [10,13,16,19,24] (gD tX U8) (dE [] (iG tX) (m4 [4,25] (b3 s4) (dN (qS (qR (q1 (cY [pS pa0.gAtom,bJ pa0.gList] bY) (bU H fun x18 z17 H=>(q1 (bQ Tryz.func219 (c8 fu pa0 6 _ z17)) ?_)))))))))))))
 refine q1 (iG cF) (q1 (b3 eQ) (qN (qS ?_)))
 refine qF (σ:=(List aA)×Bool×Int×ByteArray) (fun(v22,v19,v20,v21)=>⟨[(1,.ptr 0 0),(2,.ptr 1 0),(3,pB false),(4,.ptr 2 0)],⟨[some ⟨237,[pS pa0.gAtom,bJ pa0.gList]⟩,some ⟨55,[pS s_,.nil,pI 0,pS s_,.nil,.nil,pB false,pB false,pI 0,pS s_,.nil,.nil]⟩,some ⟨55,[pS x2.gAtom,rS x6,pI x10.gKind,pS x10.gName,aW x10.gArgs,fD x14,pB (decide ((x16.gList.length:Int)>0)),pB v19,pI v20,pS v21,aW v22,.nil]⟩,some ⟨237,[pS x18.gAtom,bJ x18.gList]⟩],[]⟩⟩) (gW H) (fun H=>?_) ?_
 ·refine qS (qR (q1 (bC bN) (q1 (bL c6) (q1 (eR bO (aB.trs_len _)) (q1 MI (qN ?_))))))
  refine bH H (fun h23 H=>?_) (fun h23 H=>?_)
  ·refine qS (qR (q1 (bC MY) (q1 (b3 sz4) (qN (qR (q1 (bC bN) (q1 (bL c6) (c9 H fun z24 H=>(q1 (jH z24 bO) (q1 (lB (aB.cs (bB x18.gList 0)) bY) (bU H fun x26 z25 H=>(q1 (bQ Tryz.func246 (vP fu (bB x18.gList 0) _ z25)) (q1 (bC D9) ?_)))))))))))))
   refine q1 (b3 hH) (qN ?_)
   exact eC ⟨_,(aZ H:),b9⟩
  refine aO.skip ?_;exact eC ⟨_,(aZ H:),b9⟩
 rintro⟨v22,v19,v20,v21⟩ H
 refine qS (qR (q1 (cY [pS pa0.gAtom,bJ pa0.gList] bY) (bU H fun x28 z27 H=>(q1 (bQ Tryz.func244 (zM fu pa0 7 _ z27)) (q1 aF (qN ?_))))))
 iterate 2 refine qS ?_
 refine qR (q1 aF (qN (aO.wk (Wk.regBox (k:=2) (j:=11) 161 11 (by decide) rfl rfl) ?_)))
 refine kV 6 (aB.trs_len _) (fun hl32=>?_)
 refine cM (σ:=(List aN)) (fun i29 v31=>⟨[(1,.ptr 0 0),(2,.ptr 1 0),(3,pB false),(4,.ptr 2 0),(6,bJ x28),(7,pN i29)],⟨[some ⟨237,[pS pa0.gAtom,bJ pa0.gList]⟩,some ⟨55,[pS s_,.nil,pI 0,pS s_,.nil,.nil,pB false,pB false,pI 0,pS s_,.nil,.nil]⟩,some ⟨55,[pS x2.gAtom,rS x6,pI x10.gKind,pS x10.gName,aW x10.gArgs,fD x14,pB (decide ((x16.gList.length:Int)>0)),pB v19,pI v20,pS v21,aW v22,QQ v31 0]⟩,some ⟨237,[pS x18.gAtom,bJ x18.gList]⟩],[⟨161,11,aN.trs (v31),false⟩]⟩⟩) (fun v31=>⟨[(1,.ptr 0 0),(2,.ptr 1 0),(3,pB false),(4,.ptr 2 0)],⟨[some ⟨237,[pS pa0.gAtom,bJ pa0.gList]⟩,some ⟨55,[pS s_,.nil,pI 0,pS s_,.nil,.nil,pB false,pB false,pI 0,pS s_,.nil,.nil]⟩,some ⟨55,[pS x2.gAtom,rS x6,pI x10.gKind,pS x10.gName,aW x10.gArgs,fD x14,pB (decide ((x16.gList.length:Int)>0)),pB v19,pI v20,pS v21,aW v22,QQ v31 0]⟩,some ⟨237,[pS x18.gAtom,bJ x18.gList]⟩],[⟨161,11,aN.trs (v31),false⟩]⟩⟩) (gW H) ?_ ?_
 ·rintro i29 v31 H
  iterate 2 refine qS ?_
  refine qR ?_
  iterate 2 refine q1 aF ?_
  refine q1 (eR bO (aB.trs_len _)) (q1 iQ (qN ?_))
  refine eO H (fun h33 h33l H=>?_) (fun h33 H=>?_)
  ·have h33n:=bF h33
   refine aO.skip (qS (aO.block (bU H fun x35 z34 H=>(bU H fun x37 z36 H=>(bU H fun x39 z38 H=>(bU H fun x41 z40 H=>(bU H fun x43 z42 H=>(c9 H fun z44 H=>(dW (dI [4] (bC xV) (dD [47] (bL YL) (dI [6] aF (dI [7] aF ?_)))))))))))))
   refine dI [49,50] (jH h33n bO) (dI [51] (lB (aB.cs (bB x28 i29)) bY) (dI [52] (bQ Tryz.func219 (c8 fu (bB x28 i29) 0 _ z34)) (dI [53] (rF1 tA) (dI [6] aF (dI [7] aF (dI [55,56] (jH h33n bO) (dI [57] (lB (aB.cs (bB x28 i29)) bY) (dI [58] (bQ Tryz.func219 (c8 fu (bB x28 i29) 1 _ z36)) (dI [59] (bQ Tryz.func243 (oA fu x37 _ z38)) (dI [6] aF (dI [7] aF (dI [61,62] (jH h33n bO) (dI [63] (lB (aB.cs (bB x28 i29)) bY) ?_)))))))))))))
   refine dI [64] (bQ Tryz.func219 (c8 fu (bB x28 i29) 2 _ z40)) (dI [65] (bQ Tryz.func247 (EX fu x41 _ z42)) (dI [54,60,66] (gD O8 ak8) (dI [67] (iW ([(aN.mk x35.gAtom x39 x43)]:List aN) KY O8) (dE [48,68] (oE z44 KY apV) (dI [4] (bC xV) (m4 [70,69] (b3 apO) (dN (qR (q1 aF (q1 (aV.addI rfl rfl rfl rfl (c:=((i29+1:Nat):Int)) (by omega) (by omega)) (q1 aF (qN ?_))))))))))))
   exact j8 h33l ⟨_,(aZ H:),b9⟩
  refine aO.exit ?_;exact lP ⟨_,H,b9⟩
 rintro v31 H
 iterate 2 refine qS ?_
 refine bU H fun x46 z45 H=>?_
 rcases nN (!(x46)) with g47|g47
 ·have H:=qZ H g47
  refine dW (dD [1] (cY [pS pa0.gAtom,bJ pa0.gList] bY) (dI [71] (bQ Tryz.func217 (dL fu pa0 _ z45)) (dI [72] iS (dI [73] aF ?_))))
  iterate 4 refine H8 g47 ?_
  refine dI [74] (b0 g47) (dI [79] aF ?_)
  iterate 5 refine H8 rfl ?_
  refine dI [80] (b0 rfl) (dN (eM rfl (qS (qR (q1 (gD tX U8) (q1 (b3 s4) (q1 aF (qN (aO.ret ?_)))))))))
  cases aZ H
  exact lW (hr:=⟨⟨_,_,_,rfl,rfl,pD,rfl,rfl⟩,rfl,trivial⟩)
 have H:=qY H g47
 rcases nN (decide ((pa0.gList.length:Int)=0)) with g48|g48
 ·have H:=qZ H g48
  refine dW (dD [1] (cY [pS pa0.gAtom,bJ pa0.gList] bY) (dI [71] (bQ Tryz.func217 (dL fu pa0 _ z45)) (dI [72] iS (dI [73] aF (dI (hg:=bE g47) [1] (bC bN) (dD (hg:=bE g47) [75] (bL c6) (dI (hg:=bE g47) [76] (eR bO (aB.trs_len _)) (dI (hg:=bE g47) [77] eP (dI [74,78] (cC g47) (dI [79] aF ?_))))))))))
  iterate 5 refine H8 g48 ?_
  refine dI [80] (b0 g48) (dN (eM rfl (qS (qR (q1 (gD tX U8) (q1 (b3 s4) (q1 aF (qN (aO.ret ?_)))))))))
  cases aZ H
  exact lW (hr:=⟨⟨_,_,_,rfl,rfl,pD,rfl,rfl⟩,rfl,trivial⟩)
 have H:=qY H g48
 refine bU H fun x50 z49 H=>(bU H fun x52 z51 H=>(dW (dD [1] (cY [pS pa0.gAtom,bJ pa0.gList] bY) (dI [71] (bQ Tryz.func217 (dL fu pa0 _ z45)) (dI [72] iS (dI [73] aF (dI (hg:=bE g47) [1] (bC bN) (dD (hg:=bE g47) [75] (bL c6) (dI (hg:=bE g47) [76] (eR bO (aB.trs_len _)) (dI (hg:=bE g47) [77] eP (dI [74,78] (cC g47) (dI [79] aF (dD (hg:=bE g48) [4] (cY [pS x2.gAtom,rS x6,pI x10.gKind,pS x10.gName,aW x10.gArgs,fD x14,pB (decide ((x16.gList.length:Int)>0)),pB v19,pI v20,pS v21,aW v22,QQ v31 0] pD) ?_)))))))))))))
 refine dI (hg:=bE g48) [81] (bQ Tryz.func252 (G2 fu (aG.mk x2.gAtom x6 x10 x14 (decide ((x16.gList.length:Int)>0)) v19 (aA.mk v20 v21 v22) v31) _ z49)) (dD (hg:=bE g48) [1] (cY [pS pa0.gAtom,bJ pa0.gList] bY) (dI (hg:=bE g48) [82,83] (bQ Tryz.func248 (tM fu x50 pa0 _ z51)) (dI (hg:=bE g48) [84] iS (dI [80,85] (cC g48) (dN ?_)))))
 refine bH H (fun h53 H=>?_) (fun h53 H=>?_)
 ·refine qS (qR (q1 (gD tX U8) (q1 (b3 s4) (q1 aF (qN (aO.ret ?_))))))
  cases aZ H
  exact lW (hr:=⟨⟨_,_,_,rfl,rfl,pD,rfl,rfl⟩,rfl,trivial⟩)
 refine aO.skip (qS (qR (q1 (cY [pS x2.gAtom,rS x6,pI x10.gKind,pS x10.gName,aW x10.gArgs,fD x14,pB (decide ((x16.gList.length:Int)>0)),pB v19,pI v20,pS v21,aW v22,QQ v31 0] pD) (q1 (b3 s4) (q1 aF (qN (aO.ret ?_)))))))
 cases aZ H
 exact lW (hr:=⟨⟨_,_,_,rfl,rfl,pD,rfl,rfl⟩,rfl,trivial⟩)
def JO(m:aK→Option aB):Prop:= ∀(pf:aK) (r:aB),m pf=some r→cA Tryz.prog 253 [(aK.pv pf)] ((aB.pv r):PV)
def GU(fu:Nat)(pf:aK)(x2:Bool):Nat→((List aB))→Option (LR ((List aB)) aB):=
 fun i4 v6=>bd (cI fu ((bB pf.gParams i4).gName)) (fun x10=>
 bd (mG fu ((bB pf.gParams i4).gType)) (fun x12=>
 bd (l5 fu ([x10,x12]:List aB)) (fun x14=>
 gd ((v6).length+(([x14]:List aB)).length≤68719476736)
 (some (.next (v6++([x14]:List aB)))))))
def GV(fu:Nat)(pf:aK)(x2:Bool):Option (aB⊕((List aB))):=
 loopN (GU fu pf x2) (pf.gParams.length-0) 0 ([])
def sC(fu:Nat)(pf:aK):Option aB:=
 bd (n4 fu pf) (fun x2=>
 sw (!(x2))
 (some (aB.mk s_ []))
 (so (GV fu pf x2) (fun v6=>
 bd (cI fu ajF) (fun x17=>
 bd (cI fu pf.gName) (fun x19=>
 bd (lJ fu pf.gVars) (fun x21=>
 bd (zO fu pf.gWhere) (fun x23=>
 bd (mG fu pf.gResult) (fun x25=>
 bd (mD fu pf.gBody) (fun x27=>
 bd (l5 fu ([x17,x19,x21,x23,(aB.mk s_ v6),x25,x27]:List aB)) (fun x29=>
 bd (BO fu true x29) (fun x31=>
 some x31)))))))))))
theorem GW(fu:Nat):JO (sC fu):=by
 intro pf r H
 have H:=fF H
 refine qI Tryz.func253 (fun C hC=>?_)
 refine qS (qR (q1 (kQ (xG pf)) (q1 (iG cF) (qN ?_))))
 iterate 2 refine qS ?_
 refine qR (q1 (cY [pS pf.gName,rS pf.gVars,fD pf.gWhere,SO pf.gParams,pI pf.gResult.gKind,pS pf.gResult.gName,aW pf.gResult.gArgs,pI pf.gBody.gKind,pS pf.gBody.gTrait,pS pf.gBody.gName,pI pf.gBody.gN,pI pf.gBody.gType.gKind,pS pf.gBody.gType.gName,aW pf.gBody.gType.gArgs,fZ pf.gBody.gArgs,nG pf.gBody.gArms] rL) (bU H fun x2 z1 H=>(q1 (bQ Tryz.func259 (wO fu pf _ z1)) (q1 iS (qN ?_)))))
 refine bH H (fun h3 H=>?_) (fun h3 H=>?_)
 ·refine qS (qR (q1 (gD cF nF) (q1 (b3 eQ) (qN (aO.ret ?_)))))
  cases aZ H
  exact bR (hr:=⟨⟨_,_,_,rfl,rfl,bY,rfl,rfl⟩,trivial⟩)
 refine aO.skip (qS (qR (q1 (gD cF nF) (q1 (iG cF) (q1 (b3 eQ) (qN ?_))))))
 iterate 2 refine qS ?_
 refine qR (q1 aF (qN (aO.wk (Wk.regBox (k:=2) (j:=1) 237 2 (by decide) rfl rfl) ?_)))
 refine aO.fact (c3 0 3 rfl rfl rfl (aR.trs_len _)) (fun hl7=>?_)
 refine cM (σ:=(List aB)) (fun i4 v6=>⟨[(1,.ptr 0 0),(2,.ptr 1 0),(3,.ptr 2 0),(4,pN i4)],⟨[some ⟨148,xG pf⟩,some ⟨237,[pS s_,.nil]⟩,some ⟨237,[pS s_,eL v6 0]⟩],[⟨237,2,aB.trs (v6),false⟩]⟩⟩) (fun v6=>⟨[(1,.ptr 0 0),(2,.ptr 1 0),(3,.ptr 2 0)],⟨[some ⟨148,xG pf⟩,some ⟨237,[pS s_,.nil]⟩,some ⟨237,[pS s_,eL v6 0]⟩],[⟨237,2,aB.trs (v6),false⟩]⟩⟩) (gW H) ?_ ?_
 ·rintro i4 v6 H
  iterate 2 refine qS ?_
  refine qR (q1 aF (q1 (bC uX) (q1 (bL O4) (q1 (eR D7 (aR.trs_len _)) (q1 iQ (qN ?_))))))
  refine eO H (fun h8 h8l H=>?_) (fun h8 H=>?_)
  ·have h8n:=bF h8
   refine aO.skip (qS (aO.block (bU H fun x10 z9 H=>(bU H fun x12 z11 H=>(bU H fun x14 z13 H=>(c9 H fun z15 H=>(dW (dI [3] (bC bN) (dD [17] (bL c6) (dI [1] (bC uX) (dD [19] (bL O4) (dI [4] aF (dI [20,21] (jH h8n D7) ?_)))))))))))))
   refine dI [22] (rC ahL) (dI [23] (p9 fO) (dI [24] (bQ Tryz.func266 (cB fu ((bB pf.gParams i4).gName) _ z9)) (dI [1] (bC uX) (dD [26] (bL O4) (dI [4] aF (dI [27,28] (jH h8n D7) (dI [29] (rC ahM) (dI [30] (lB (aA.cs ((bB pf.gParams i4).gType)) b8) (dI [31] (bQ Tryz.func269 (vO fu ((bB pf.gParams i4).gType) _ z11)) (dI [25,32] (iW ([x10,x12]:List aB) bO cF) (dI [33] (bQ Tryz.func265 (CZ (mV fu) ([x10,x12]:List aB) _ z13)) (dI [34] (iW ([x14]:List aB) bO cF) (dE [18,35] (oE z15 bO q8) ?_)))))))))))))
   refine dI [3] (bC bN) (m4 [37,36] (b3 zS) (dN (qR (q1 aF (q1 (aV.addI rfl rfl rfl rfl (c:=((i4+1:Nat):Int)) (by omega) (by omega)) (q1 aF (qN ?_)))))))
   exact j8 h8l ⟨_,(aZ H:),b9⟩
  refine aO.exit ?_;exact lP ⟨_,H,b9⟩
 rintro v6 H
 refine qS (bU H fun x17 z16 H=>(bU H fun x19 z18 H=>(bU H fun x21 z20 H=>(bU H fun x23 z22 H=>(bU H fun x25 z24 H=>(bU H fun x27 z26 H=>(bU H fun x29 z28 H=>(bU H fun x31 z30 H=>(dW (dI [] (bQ Tryz.func266 (cB fu ajF _ z16)) (dI [1] (bC QS) (dD [39] (bL fO) (dI [40] (bQ Tryz.func266 (cB fu pf.gName _ z18)) ?_)))))))))))))
 refine dI [1] (bC K3) (dD [42] (bL lI) (dI [43] (bQ Tryz.func267 (mF fu pf.gVars _ z20)) (dI [1] (bC XL) (dD [45] (bL ae5) (dI [46] (bQ Tryz.func272 (L9 fu pf.gWhere _ z22)) (dD [3] (cY [pS s_,eL v6 0] bY) (dI [1] (bC XM) (dD [49] (cY [pI pf.gResult.gKind,pS pf.gResult.gName,aW pf.gResult.gArgs] b8) (dI [50] (bQ Tryz.func269 (vO fu pf.gResult _ z24)) (dI [1] (bC XN) (dD [52] (cY [pI pf.gBody.gKind,pS pf.gBody.gTrait,pS pf.gBody.gName,pI pf.gBody.gN,pI pf.gBody.gType.gKind,pS pf.gBody.gType.gName,aW pf.gBody.gType.gArgs,fZ pf.gBody.gArgs,nG pf.gBody.gArms] iH) (dI [53] (bQ Tryz.func270 (OC fu pf.gBody _ z26)) (dI [38,41,44,47,48,51,54] (iW ([x17,x19,x21,x23,(aB.mk s_ v6),x25,x27]:List aB) bO cF) ?_)))))))))))))
 refine dI [55] (bQ Tryz.func265 (CZ (mV fu) ([x17,x19,x21,x23,(aB.mk s_ v6),x25,x27]:List aB) _ z28)) (dI [56] (bQ Tryz.func271 (F5 fu true x29 _ z30)) (m4 [2,57] (b3 eQ) (dN (aO.ret ?_))))
 cases aZ H
 exact bR (hr:=⟨⟨_,_,_,rfl,rfl,bY,rfl,rfl⟩,trivial⟩)
def JW(m:aB→Option (aK×Bool)):Prop:= ∀(pa0:aB) (r:aK×Bool),m pa0=some r→cA Tryz.prog 233 [(aB.pv pa0)] (.tup [(aK.pv r.1),pB r.2]:PV)
def HO(fu:Nat)(pa0 x2 x4:aB)(x6:List ByteArray)(x8:aB)(x10:List aI)(x12:aB)(x14:aA)(x16:aB)(x18:aH)(x20:aB):Nat→((List aR))→Option (LR ((List aR)) (aK×Bool)):=
 fun i21 v23=>bd (dR fu (bB x20.gList i21) 0) (fun x27=>
 bd (dR fu (bB x20.gList i21) 1) (fun x29=>
 bd (mH fu x29) (fun x31=>
 gd ((v23).length+(([(aR.mk x27.gAtom x31)]:List aR)).length≤68719476736)
 (some (.next (v23++([(aR.mk x27.gAtom x31)]:List aR)))))))
def HQ(fu:Nat)(pa0 x2 x4:aB)(x6:List ByteArray)(x8:aB)(x10:List aI)(x12:aB)(x14:aA)(x16:aB)(x18:aH)(x20:aB):Option ((aK×Bool)⊕((List aR))):=
 loopN (HO fu pa0 x2 x4 x6 x8 x10 x12 x14 x16 x18 x20) (x20.gList.length-0) 0 ([])
def sF(fu:Nat)(pa0:aB):Option (aK×Bool):=
 bd (dR fu pa0 1) (fun x2=>
 bd (dR fu pa0 2) (fun x4=>
 bd (mE fu x4) (fun x6=>
 bd (dR fu pa0 3) (fun x8=>
 bd (xD fu x8) (fun x10=>
 bd (dR fu pa0 5) (fun x12=>
 bd (mH fu x12) (fun x14=>
 bd (dR fu pa0 6) (fun x16=>
 bd (g0 fu x16) (fun x18=>
 bd (dR fu pa0 4) (fun x20=>
 so (HQ fu pa0 x2 x4 x6 x8 x10 x12 x14 x16 x18 x20) (fun v23=>
 bd (iE fu pa0) (fun x34=>
 sw (!(x34))
 (some ((aK.mk s_ [] [] [] (aA.mk 0 s_ []) (aH.mk 0 s_ s_ 0 (aA.mk 0 s_ []) [] [])),false))
 (sw (decide ((pa0.gList.length:Int)=0))
 (some ((aK.mk s_ [] [] [] (aA.mk 0 s_ []) (aH.mk 0 s_ s_ 0 (aA.mk 0 s_ []) [] [])),false))
 (bd (sC fu (aK.mk x2.gAtom x6 x10 v23 x14 x18)) (fun x38=>
 bd (fW fu x38 pa0) (fun x40=>
 sw (!(x40))
 (some ((aK.mk s_ [] [] [] (aA.mk 0 s_ []) (aH.mk 0 s_ s_ 0 (aA.mk 0 s_ []) [] [])),false))
 (some ((aK.mk x2.gAtom x6 x10 v23 x14 x18),true))))))))))))))))))
theorem HU(fu:Nat):JW (sF fu):=by
 intro pa0 r H
 have H:=fF H
 refine qI Tryz.func233 (fun C hC=>?_)
 refine qS (qR (q1 (kQ ([pS pa0.gAtom,bJ pa0.gList])) (q1 (iG DI) (q1 aF (qN (qS (bU H fun x2 z1 H=>(bU H fun x4 z3 H=>(bU H fun x6 z5 H=>(bU H fun x8 z7 H=>(bU H fun x10 z9 H=>(bU H fun x12 z11 H=>(bU H fun x14 z13 H=>?_)))))))))))))
 refine bU H fun x16 z15 H=>(bU H fun x18 z17 H=>(dW (dB [1] 0 1 (RC [pS pa0.gAtom,bJ pa0.gList] bY) (dI [7] (bQ Tryz.func219 (c8 fu pa0 1 _ z1)) (dI [8] (rF1 tA) (dB [1] 0 1 (RC [pS pa0.gAtom,bJ pa0.gList] bY) (dI [10] (bQ Tryz.func219 (c8 fu pa0 2 _ z3)) (dI [11] (bQ Tryz.func243 (oA fu x4 _ z5)) (dB [1] 0 1 (RC [pS pa0.gAtom,bJ pa0.gList] bY) (dI [13] (bQ Tryz.func219 (c8 fu pa0 3 _ z7)) (dI [14] (bQ Tryz.func251 (IK fu x8 _ z9)) (dB [1] 0 1 (RC [pS pa0.gAtom,bJ pa0.gList] bY) (dI [16] (bQ Tryz.func219 (c8 fu pa0 5 _ z11)) ?_)))))))))))))
 refine dI [17] (bQ Tryz.func246 (vP fu x12 _ z13)) (dB [1] 0 1 (RC [pS pa0.gAtom,bJ pa0.gList] bY) (dI [19] (bQ Tryz.func219 (c8 fu pa0 6 _ z15)) (dI [20] (bQ Tryz.func247 (EX fu x16 _ z17)) (dI [9,12,15,18,21] (gD DI abE) (dE [] (iG DI) (m4 [4,22] (b3 BS) (dN (qS (qR (q1 (cY [pS pa0.gAtom,bJ pa0.gList] bY) (bU H fun x20 z19 H=>(q1 (bQ Tryz.func219 (c8 fu pa0 4 _ z19)) (q1 (iG cF) ?_)))))))))))))
 refine q1 (b3 eQ) (qN ?_)
 iterate 2 refine qS ?_
 refine qR (q1 aF (qN (aO.wk (Wk.regBox (k:=2) (j:=3) 226 4 (by decide) rfl rfl) ?_)))
 refine aO.fact (c3 3 1 rfl rfl rfl (aB.trs_len _)) (fun hl24=>?_)
 refine cM (σ:=(List aR)) (fun i21 v23=>⟨[(1,.ptr 0 0),(2,.ptr 1 0),(3,pB false),(4,.ptr 2 0),(5,.ptr 3 0),(6,pN i21)],⟨[some ⟨237,[pS pa0.gAtom,bJ pa0.gList]⟩,some ⟨148,[pS s_,.nil,.nil,.nil,pI 0,pS s_,.nil,pI 0,pS s_,pS s_,pI 0,pI 0,pS s_,.nil,.nil,.nil]⟩,some ⟨148,[pS x2.gAtom,rS x6,fD x10,XD v23 0,pI x14.gKind,pS x14.gName,aW x14.gArgs,pI x18.gKind,pS x18.gTrait,pS x18.gName,pI x18.gN,pI x18.gType.gKind,pS x18.gType.gName,aW x18.gType.gArgs,fZ x18.gArgs,nG x18.gArms]⟩,some ⟨237,[pS x20.gAtom,bJ x20.gList]⟩],[⟨226,4,aR.trs (v23),false⟩]⟩⟩) (fun v23=>⟨[(1,.ptr 0 0),(2,.ptr 1 0),(3,pB false),(4,.ptr 2 0)],⟨[some ⟨237,[pS pa0.gAtom,bJ pa0.gList]⟩,some ⟨148,[pS s_,.nil,.nil,.nil,pI 0,pS s_,.nil,pI 0,pS s_,pS s_,pI 0,pI 0,pS s_,.nil,.nil,.nil]⟩,some ⟨148,[pS x2.gAtom,rS x6,fD x10,XD v23 0,pI x14.gKind,pS x14.gName,aW x14.gArgs,pI x18.gKind,pS x18.gTrait,pS x18.gName,pI x18.gN,pI x18.gType.gKind,pS x18.gType.gName,aW x18.gType.gArgs,fZ x18.gArgs,nG x18.gArms]⟩,some ⟨237,[pS x20.gAtom,bJ x20.gList]⟩],[⟨226,4,aR.trs (v23),false⟩]⟩⟩) (gW H) ?_ ?_
 ·rintro i21 v23 H
  iterate 2 refine qS ?_
  refine qR (q1 aF (q1 (bC bN) (q1 (bL c6) (q1 (eR bO (aB.trs_len _)) (q1 iQ (qN ?_))))))
  refine eO H (fun h25 h25l H=>?_) (fun h25 H=>?_)
  ·have h25n:=bF h25
   refine aO.skip (qS (aO.block (bU H fun x27 z26 H=>(bU H fun x29 z28 H=>(bU H fun x31 z30 H=>(c9 H fun z32 H=>(dW (dI [4] (bC uX) (dD [32] (bL O4) (dI [5] (bC bN) (dD [34] (bL c6) (dI [6] aF (dI [35,36] (jH h25n bO) ?_)))))))))))))
   refine dI [37] (lB (aB.cs (bB x20.gList i21)) bY) (dI [38] (bQ Tryz.func219 (c8 fu (bB x20.gList i21) 0 _ z26)) (dI [39] (rF1 tA) (dI [5] (bC bN) (dD [41] (bL c6) (dI [6] aF (dI [42,43] (jH h25n bO) (dI [44] (lB (aB.cs (bB x20.gList i21)) bY) (dI [45] (bQ Tryz.func219 (c8 fu (bB x20.gList i21) 1 _ z28)) (dI [46] (bQ Tryz.func246 (vP fu x29 _ z30)) (dI [40,47] (gD WZ alA) (dI [48] (iW ([(aR.mk x27.gAtom x31)]:List aR) D7 WZ) (dE [33,49] (oE z32 D7 anX) (dI [4] (bC uX) ?_)))))))))))))
   refine m4 [51,50] (b3 anR) (dN (qR (q1 aF (q1 (aV.addI rfl rfl rfl rfl (c:=((i21+1:Nat):Int)) (by omega) (by omega)) (q1 aF (qN ?_))))))
   exact j8 h25l ⟨_,(aZ H:),b9⟩
  refine aO.exit ?_;exact lP ⟨_,H,b9⟩
 rintro v23 H
 iterate 2 refine qS ?_
 refine bU H fun x34 z33 H=>?_
 rcases nN (!(x34)) with g35|g35
 ·have H:=qZ H g35
  refine dW (dD [1] (cY [pS pa0.gAtom,bJ pa0.gList] bY) (dI [52] (bQ Tryz.func217 (dL fu pa0 _ z33)) (dI [53] iS (dI [54] aF ?_))))
  iterate 4 refine H8 g35 ?_
  refine dI [55] (b0 g35) (dI [60] aF ?_)
  iterate 5 refine H8 rfl ?_
  refine dI [61] (b0 rfl) (dN (eM rfl (qS (qR (q1 (gD DI abE) (q1 (b3 BS) (q1 aF (qN (aO.ret ?_)))))))))
  cases aZ H
  exact lW (hr:=⟨⟨_,_,_,rfl,rfl,rL,rfl,rfl⟩,rfl,trivial⟩)
 have H:=qY H g35
 rcases nN (decide ((pa0.gList.length:Int)=0)) with g36|g36
 ·have H:=qZ H g36
  refine dW (dD [1] (cY [pS pa0.gAtom,bJ pa0.gList] bY) (dI [52] (bQ Tryz.func217 (dL fu pa0 _ z33)) (dI [53] iS (dI [54] aF (dI (hg:=bE g35) [1] (bC bN) (dD (hg:=bE g35) [56] (bL c6) (dI (hg:=bE g35) [57] (eR bO (aB.trs_len _)) (dI (hg:=bE g35) [58] eP (dI [55,59] (cC g35) (dI [60] aF ?_))))))))))
  iterate 5 refine H8 g36 ?_
  refine dI [61] (b0 g36) (dN (eM rfl (qS (qR (q1 (gD DI abE) (q1 (b3 BS) (q1 aF (qN (aO.ret ?_)))))))))
  cases aZ H
  exact lW (hr:=⟨⟨_,_,_,rfl,rfl,rL,rfl,rfl⟩,rfl,trivial⟩)
 have H:=qY H g36
 refine bU H fun x38 z37 H=>(bU H fun x40 z39 H=>(dW (dD [1] (cY [pS pa0.gAtom,bJ pa0.gList] bY) (dI [52] (bQ Tryz.func217 (dL fu pa0 _ z33)) (dI [53] iS (dI [54] aF (dI (hg:=bE g35) [1] (bC bN) (dD (hg:=bE g35) [56] (bL c6) (dI (hg:=bE g35) [57] (eR bO (aB.trs_len _)) (dI (hg:=bE g35) [58] eP (dI [55,59] (cC g35) (dI [60] aF (dD (hg:=bE g36) [4] (cY [pS x2.gAtom,rS x6,fD x10,XD v23 0,pI x14.gKind,pS x14.gName,aW x14.gArgs,pI x18.gKind,pS x18.gTrait,pS x18.gName,pI x18.gN,pI x18.gType.gKind,pS x18.gType.gName,aW x18.gType.gArgs,fZ x18.gArgs,nG x18.gArms] rL) ?_)))))))))))))
 refine dI (hg:=bE g36) [62] (bQ Tryz.func253 (GW fu (aK.mk x2.gAtom x6 x10 v23 x14 x18) _ z37)) (dD (hg:=bE g36) [1] (cY [pS pa0.gAtom,bJ pa0.gList] bY) (dI (hg:=bE g36) [63,64] (bQ Tryz.func248 (tM fu x38 pa0 _ z39)) (dI (hg:=bE g36) [65] iS (dI [61,66] (cC g36) (dN ?_)))))
 refine bH H (fun h41 H=>?_) (fun h41 H=>?_)
 ·refine qS (qR (q1 (gD DI abE) (q1 (b3 BS) (q1 aF (qN (aO.ret ?_))))))
  cases aZ H
  exact lW (hr:=⟨⟨_,_,_,rfl,rfl,rL,rfl,rfl⟩,rfl,trivial⟩)
 refine aO.skip (qS (qR (q1 (cY [pS x2.gAtom,rS x6,fD x10,XD v23 0,pI x14.gKind,pS x14.gName,aW x14.gArgs,pI x18.gKind,pS x18.gTrait,pS x18.gName,pI x18.gN,pI x18.gType.gKind,pS x18.gType.gName,aW x18.gType.gArgs,fZ x18.gArgs,nG x18.gArms] rL) (q1 (b3 BS) (q1 aF (qN (aO.ret ?_)))))))
 cases aZ H
 exact lW (hr:=⟨⟨_,_,_,rfl,rfl,rL,rfl,rfl⟩,rfl,trivial⟩)
end
end Go.Proofs.YtpioomclpaiomaaGreat.W
