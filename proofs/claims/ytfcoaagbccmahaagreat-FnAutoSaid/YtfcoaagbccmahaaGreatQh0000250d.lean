/- The reference's parser, part 3. No conditions. -/
import Derived.Test.YtfcoaagbccmahaaGreatQh18c03eb6
set_option linter.unusedSimpArgs false
set_option linter.unusedVariables false
namespace Go.Proofs.YtfcoaagbccmahaaGreat.W
set_option maxRecDepth 100000
set_option maxHeartbeats 40000000
noncomputable section
open Tryz Go.RowKit Go.Proofs
attribute [local irreducible] lt
def EP(fu:Nat)(pn:Int):(Int×ByteArray)→Option (LR (Int×ByteArray) ByteArray):=fun(v2,v3)=>sw (!decide (v2=0)) (sw (decide (((v2).tmod 10:Int)<0)) (gd ((bytesStr ([(CN (aY (48+(aY (0-((v2).tmod 10))))))]:List UInt8)).size+(v3).size≤1099511627776) (some (.next ((aY ((v2).tdiv 10)),((bytesStr ([(CN (aY (48+(aY (0-((v2).tmod 10))))))]:List UInt8))++v3))))) (gd ((bytesStr ([(CN (aY (48+((v2).tmod 10))))]:List UInt8)).size+(v3).size≤1099511627776) (some (.next ((aY ((v2).tdiv 10)),((bytesStr ([(CN (aY (48+((v2).tmod 10))))]:List UInt8))++v3)))))) (some (.brk (v2,v3)))
def lW(fu:Nat)(pn:Int):Option ByteArray:=sw (decide (pn=0)) (some s_0) (so (loopW (EP fu pn) fu (pn,s_)) fun(v2,v3)=>sw (decide (pn<0)) (gd ((A5).size+(v3).size≤1099511627776) (some (A5++v3))) (some v3))
theorem xM(fu:Nat)(pn:Int)(r:ByteArray)(H:lW fu pn=some r):bP Tryz.prog 255 [pI pn] (pS r):=by
 refine qJ func255 H (fun C hC H=>?_)
 refine gQ 10 ?_;refine a7 H (fun h1 H=>gE 4) fun h1 H=>?_;refine gQ 12 ?_;refine NN (σ:=Int×ByteArray) (fun(v2,v3)=>⟨[(0,pI v2),(2,pS s_),(3,pB (decide (pn<0))),(4,pS v3)],⟨[],[]⟩⟩) (fun(v2,v3)=>⟨[(2,pS s_),(3,pB (decide (pn<0))),(4,pS v3)],⟨[],[]⟩⟩) (eR H) ?_ ?_
 ·rintro k4 ⟨v2,v3⟩ H
  refine gQ 6 ?_;refine a7 H (fun h5 H=>?_) (fun h5 H=>?_)
  ·refine gQ 5 ?_;refine q1 (a5.remI (a:=v2) (b:=10) rfl rfl rfl rfl (by decide)) ?_;refine gQ 8 ?_;refine a7 H (fun h6 H=>?_) (fun h6 H=>?_)
   ·refine gQ 9 ?_;refine q1 (a5.convU8 (a:=aY (48+(aY (0-((v2).tmod 10))))) rfl rfl rfl ⟨_,Tryz.underlying3⟩ Tryz.underlying5) (q1 (gC ([(CN (aY (48+(aY (0-((v2).tmod 10))))))]:List UInt8)) (q1 (a5.bytesStr rfl rfl rfl rfl Tryz.underlying22 Tryz.underlying5 Tryz.underlying9) (q1 bG (cQ H fun z7 H=>(q1 (a5.addS rfl rfl rfl rfl (Nat.le_trans z7 (by decide))) ?_)))))
    refine gQ 4 ?_;refine q1 (a5.quoI (a:=v2) (b:=10) rfl rfl rfl rfl (by decide)) ?_;exact gE 2
   refine gQ 5 ?_;refine q1 (a5.convU8 (a:=aY (48+((v2).tmod 10))) rfl rfl rfl ⟨_,Tryz.underlying3⟩ Tryz.underlying5) (q1 (gC ([(CN (aY (48+((v2).tmod 10))))]:List UInt8)) (q1 (a5.bytesStr rfl rfl rfl rfl Tryz.underlying22 Tryz.underlying5 Tryz.underlying9) (q1 bG (cQ H fun z8 H=>(q1 (a5.addS rfl rfl rfl rfl (Nat.le_trans z8 (by decide))) ?_)))))
   refine gQ 4 ?_;refine q1 (a5.quoI (a:=v2) (b:=10) rfl rfl rfl rfl (by decide)) ?_;exact gE 2
  exact gE 0
 rintro⟨v2,v3⟩ H
 refine gQ 5 ?_;refine a7 H (fun h9 H=>?_) (fun h9 H=>?_)
 ·refine gQ 3 ?_;refine cQ H fun z10 H=>(q1 (a5.addS rfl rfl rfl rfl (Nat.le_trans z10 (by decide))) ?_)
  exact gE 2
 exact gE 6
def OJ(fu:Nat)(ps:ByteArray)(p9:Int):Option ((Int×Bool)⊕ByteArray):=sw (decide ((((zF ps 0).toNat:Int):Int)=45)) (gd ((0:Int)≤1∧(1:Int)≤(ps.size:Int)∧(ps.size:Int)≤(ps.size:Int)) (some (.inr (ps.extract (1:Int).toNat (ps.size:Int).toNat)))) (some (.inr ps))
def OL(fu:Nat)(ps:ByteArray)(p9:Int)(v3:ByteArray):Nat→Int→Option (LR Int (Int×Bool)):=fun i8 v9=>gd (i8<(v3).size) (sw (decide ((((zF v3 i8).toNat:Int):Int)<48)) (some (.ret (0,false))) (sw (decide ((((zF v3 i8).toNat:Int):Int)>57)) (some (.ret (0,false))) (some (.next (aY ((aY (10*v9))+((CN (((zF v3 i8).toNat:Int)-48)).toNat:Int)))))))
def OK(fu:Nat)(ps:ByteArray)(p9:Int)(v3:ByteArray)(v9:Int):Option ((Int×Bool)⊕Int):=sw (decide ((((zF ps 0).toNat:Int):Int)=45)) (some (.inr (aY (0-v9)))) (some (.inr v9))
def OM(fu:Nat)(ps:ByteArray)(p9:Int):Nat→Int→Option (LR Int (Int×Bool)):=fun i22 v23=>gd (i22<(ps).size) (sw (decide ((((zF ps i22).toNat:Int):Int)<48)) (some (.ret (0,false))) (sw (decide ((((zF ps i22).toNat:Int):Int)>57)) (some (.ret (0,false))) (some (.next (aY ((aY (10*v23))+((CN (((zF ps i22).toNat:Int)-48)).toNat:Int)))))))
def KJ(fu:Nat)(ps:ByteArray)(p9:Int):Option (Int×Bool):=sw (decide ((ps.size:Int)>0)) (gd (0<(ps).size) (so (OJ fu ps p9) fun v3=>sw (decide ((v3.size:Int)<1)) (some (0,false)) (sw (decide ((v3.size:Int)>p9)) (some (0,false)) (so (loopN (OL fu ps p9 v3) (v3.size-0) 0 0) fun v9=>so (OK fu ps p9 v3 v9) fun v15=>bd (lW fu v15) fun x18=>sw (!decide (x18=ps)) (some (0,false)) (some (v15,true)))))) (sw (decide ((ps.size:Int)<1)) (some (0,false)) (sw (decide ((ps.size:Int)>p9)) (some (0,false)) (so (loopN (OM fu ps p9) (ps.size-0) 0 0) fun v23=>bd (lW fu v23) fun x30=>sw (!decide (x30=ps)) (some (0,false)) (some (v23,true)))))
theorem ZO(fu:Nat)(ps:ByteArray)(p9:Int)(r:Int×Bool)(H:KJ fu ps p9=some r):bP Tryz.prog 253 [pS ps,pI p9] (.tup [pI r.1,pB r.2]):=by
 refine qJ func253 H (fun C hC H=>?_)
 refine gQ 8 ?_;refine q1 (a5.lenS rfl rfl rfl Tryz.underlying9) ?_;refine gQ 2 ?_;refine dF 13 H (fun g1 H=>?_) fun g1 H=>?_
 ·refine qg g1 bG (cQ H fun z2 H=>(qg g1 (a5.indexS (k:=0) rfl rfl rfl rfl z2 Tryz.underlying9) ?_))
  refine gQ 10 ?_;refine m3 (σ:=ByteArray) (fun v3=>⟨[(0,pS ps),(1,pI p9),(4,pI 0),(5,pB false),(6,pB (decide ((((zF ps 0).toNat:Int):Int)=45))),(7,pS v3)],⟨[],[]⟩⟩) (eR H) (fun H=>?_) ?_
  ·refine gQ 4 ?_;refine a7 H (fun h4 H=>?_) (fun h4 H=>?_)
   ·refine gQ 2 ?_;refine cQ H fun z5 H=>(q1 (a5.sliceS (l:=1) (k:=(ps.size:Int)) rfl rfl rfl rfl rfl z5 Tryz.underlying9) ?_)
    exact gE 2
   exact gE 1
  rintro v3 H
  refine gQ 4 ?_;refine q1 (a5.lenS rfl rfl rfl Tryz.underlying9) ?_;refine gQ 2 ?_;refine dF 25 H (fun g6 H=>?_) fun g6 H=>?_
  ·have g6n:v3.size<1:=by have:=of_decide_eq_true g6;omega
   exact gE 12
  refine qg g6 bG (qg g6 (a5.lenS rfl rfl rfl Tryz.underlying9) ?_)
  refine gQ 4 ?_;refine a7 H (fun h7 H=>gE 5) fun h7 H=>?_;refine gQ 10 ?_;refine szF 7 (fun hl10=>?_)
  refine bM (σ:=Int) (fun i8 v9=>⟨[(0,pS ps),(4,pI 0),(5,pB false),(6,pB (decide ((((zF ps 0).toNat:Int):Int)=45))),(7,pS v3),(8,pI v9),(9,pN i8)],⟨[],[]⟩⟩) (fun v9=>⟨[(0,pS ps),(4,pI 0),(5,pB false),(6,pB (decide ((((zF ps 0).toNat:Int):Int)=45))),(8,pI v9)],⟨[],[]⟩⟩) (eR H) ?_ ?_
  ·rintro i8 v9 H
   refine gQ 5 ?_;refine q1 (a5.lenS rfl rfl rfl Tryz.underlying9) ?_;refine gQ 2 ?_;refine cW H (fun h11 h11l H=>?_) (fun h11 H=>?_)
   ·have h11n:i8<v3.size:=by have:=of_decide_eq_true h11;omega
    refine gQ 8 ?_;refine cQ H fun z12 H=>(q1 (a5.indexS (k:=i8) rfl rfl rfl rfl z12 Tryz.underlying9) ?_)
    refine gQ 2 ?_;refine dF 41 H (fun g13 H=>gE 12) fun g13 H=>?_;refine gQ 2 ?_;refine qg g13 (a5.indexS (k:=i8) rfl rfl rfl rfl z12 Tryz.underlying9) ?_;refine gQ 3 ?_;refine a7 H (fun h14 H=>gE 5) fun h14 H=>?_;refine gQ 3 ?_;refine q1 (a5.mulW rfl rfl rfl rfl) ?_;refine gQ 2 ?_;refine q1 (a5.indexS (k:=i8) rfl rfl rfl rfl z12 Tryz.underlying9) (q1 (a5.subU8 rfl rfl rfl rfl) ?_)
    refine q1 (a5.convI rfl rfl rfl ⟨_,Tryz.underlying5⟩ Tryz.underlying3 (by first|omega|(have:=UInt8.toNat_lt (CN (((zF v3 i8).toNat:Int)-48));omega)) (by first|omega|(have:=UInt8.toNat_lt (CN (((zF v3 i8).toNat:Int)-48));omega))) ?_;exact gE 8
   exact gE 0
  rintro v9 H
  refine qS ?_;refine m3 (σ:=Int) (fun v15=>⟨[(0,pS ps),(4,pI 0),(5,pB false),(8,pI v15)],⟨[],[]⟩⟩) (eR H) (fun H=>?_) ?_
  ·refine gQ 4 ?_;refine a7 H (fun h16 H=>gE 5) fun h16 H=>?_;exact gE 1
  rintro v15 H
  refine gQ 4 ?_;refine bD H fun x18 z17 H=>(q1 (bC func255 (xM fu v15 _ z17)) ?_)
  refine gQ 3 ?_;refine a7 H (fun h19 H=>gE 5) fun h19 H=>?_;exact gE 7
 refine gQ 22 ?_;refine q1 (a5.lenS rfl rfl rfl Tryz.underlying9) ?_;refine gQ 2 ?_;refine dF 25 H (fun g20 H=>?_) fun g20 H=>?_
 ·have g20n:ps.size<1:=by have:=of_decide_eq_true g20;omega
  exact gE 12
 refine qg g20 bG (qg g20 (a5.lenS rfl rfl rfl Tryz.underlying9) ?_)
 refine gQ 4 ?_;refine a7 H (fun h21 H=>gE 5) fun h21 H=>?_;refine gQ 10 ?_;refine szF 0 (fun hl24=>?_)
 refine bM (σ:=Int) (fun i22 v23=>⟨[(0,pS ps),(4,pI 0),(5,pB false),(6,pB false),(7,pS ps),(8,pI v23),(9,pN i22)],⟨[],[]⟩⟩) (fun v23=>⟨[(0,pS ps),(4,pI 0),(5,pB false),(6,pB false),(8,pI v23)],⟨[],[]⟩⟩) (eR H) ?_ ?_
 ·rintro i22 v23 H
  refine gQ 5 ?_;refine q1 (a5.lenS rfl rfl rfl Tryz.underlying9) ?_;refine gQ 2 ?_;refine cW H (fun h25 h25l H=>?_) (fun h25 H=>?_)
  ·have h25n:i22<ps.size:=by have:=of_decide_eq_true h25;omega
   refine gQ 8 ?_;refine cQ H fun z26 H=>(q1 (a5.indexS (k:=i22) rfl rfl rfl rfl z26 Tryz.underlying9) ?_)
   refine gQ 2 ?_;refine dF 41 H (fun g27 H=>gE 12) fun g27 H=>?_;refine gQ 2 ?_;refine qg g27 (a5.indexS (k:=i22) rfl rfl rfl rfl z26 Tryz.underlying9) ?_;refine gQ 3 ?_;refine a7 H (fun h28 H=>gE 5) fun h28 H=>?_;refine gQ 3 ?_;refine q1 (a5.mulW rfl rfl rfl rfl) ?_;refine gQ 2 ?_;refine q1 (a5.indexS (k:=i22) rfl rfl rfl rfl z26 Tryz.underlying9) (q1 (a5.subU8 rfl rfl rfl rfl) ?_)
   refine q1 (a5.convI rfl rfl rfl ⟨_,Tryz.underlying5⟩ Tryz.underlying3 (by first|omega|(have:=UInt8.toNat_lt (CN (((zF ps i22).toNat:Int)-48));omega)) (by first|omega|(have:=UInt8.toNat_lt (CN (((zF ps i22).toNat:Int)-48));omega))) ?_;exact gE 8
  exact gE 0
 rintro v23 H
 refine gQ 11 ?_;refine bD H fun x30 z29 H=>(q1 (bC func255 (xM fu v23 _ z29)) ?_)
 refine gQ 3 ?_;refine a7 H (fun h31 H=>gE 5) fun h31 H=>?_;exact gE 7
def wV(fu:Nat)(ps:ByteArray):Option (Int×Bool):=bd (KJ fu ps 12) fun(x2,x3)=>some (x2,x3)
theorem S3(fu:Nat)(ps:ByteArray)(r:Int×Bool)(H:wV fu ps=some r):bP Tryz.prog 235 [pS ps] (.tup [pI r.1,pB r.2]):=by
 refine qJ func235 H (fun C hC H=>?_)
 refine gQ 8 ?_;refine eY H fun x2 x3 z1 H=>(q1 (bC func253 (ZO fu ps 12 _ z1)) ?_)
 exact gE 5
def qP(fu:Nat)(pn:Int):Option aG:=some (aG.mk 1 s_ s_ pn (aA.mk 0 s_ []) [] [])
theorem sL(fu:Nat)(pn:Int)(r:aG)(H:qP fu pn=some r):bP Tryz.prog 192 [pI pn] ((aG.pv r)):=by
 refine qJ func192 H (fun C hC H=>?_)
 exact gE 10
def sN(fu:Nat)(ps:ByteArray):Option aG:=some (aG.mk 3 s_ ps 0 (aA.mk 0 s_ []) [] [])
theorem vU(fu:Nat)(ps:ByteArray)(r:aG)(H:sN fu ps=some r):bP Tryz.prog 191 [pS ps] ((aG.pv r)):=by
 refine qJ func191 H (fun C hC H=>?_)
 exact gE 10
def nG(fu:Nat)(pa pb:Int):Option Int:=sw (decide (pa<pb)) (some pa) (some pb)
theorem nQ(fu:Nat)(pa:Int)(pb:Int)(r:Int)(H:nG fu pa pb=some r):bP Tryz.prog 234 [pI pa,pI pb] (pI r):=by
 refine qJ func234 H (fun C hC H=>?_)
 refine gQ 11 ?_;refine a7 H (fun h1 H=>gE 5) fun h1 H=>?_;exact gE 6
abbrev hH:=aB→Option aG
abbrev f6:=(List aB)→Option ((List aG))
abbrev jF:=aB→Option bH
def sO(m:hH):Prop:= ∀(p1:aB) (r:aG),m p1=some r→bP Tryz.prog 220 [(aB.pv p1)] ((aG.pv r):PV)
def tF(m:f6):Prop:= ∀(p6:List aB) (r:(List aG)),m p6=some r→bP Tryz.prog 236 [a9 p6] (fZ r:PV)
def yV(m:jF):Prop:= ∀(px:aB) (r:bH),m px=some r→bP Tryz.prog 237 [(aB.pv px)] ((bH.pv r):PV)
def WN(fu:Nat)(p3:hH)(p0:f6)(p4:jF)(p1 y15 y18:aB)(x67:Int)(x70:List aG):Nat→((List bH))→Option (LR ((List bH)) aG):=fun i71 v73=>bd (p4 (aP p1.asF i71)) fun x77=>gd ((v73).length+(([x77]:List bH)).length≤68719476736) (some (.next (v73++([x77]:List bH))))
def GD(fu:Nat)(p3:hH)(p0:f6)(p4:jF)(p1:aB):Option aG:=sw (!decide (p1.asK=s_)) (bd (wV fu p1.asK) fun(x3,x4)=>sw x4 (bd (qP fu x3) fun x7=>some x7) (sw (decide (p1.asK=mQ)) (some (aG.mk 2 s_ s_ 1 (aA.mk 0 s_ []) [] [])) (sw (decide (p1.asK=jO)) (some (aG.mk 2 s_ s_ 0 (aA.mk 0 s_ []) [] [])) (bd (sN fu p1.asK) fun x11=>some x11)))) (gd (([]:List aB).length+(p1.asF).length≤68719476736) (gd ((([])++p1.asF).length+(([(aB.mk s_ []),(aB.mk s_ []),(aB.mk s_ [])]:List aB)).length≤68719476736) (gd (1<((([])++p1.asF)++([(aB.mk s_ []),(aB.mk s_ []),(aB.mk s_ [])]:List aB)).length) (lt (aP ((([])++p1.asF)++([(aB.mk s_ []),(aB.mk s_ []),(aB.mk s_ [])]:List aB)) 1) fun y15=>gd (0<((([])++p1.asF)++([(aB.mk s_ []),(aB.mk s_ []),(aB.mk s_ [])]:List aB)).length) (lt (aP ((([])++p1.asF)++([(aB.mk s_ []),(aB.mk s_ []),(aB.mk s_ [])]:List aB)) 0) fun y18=>sw (decide (y18.asK=KA)) (bd (nG fu 2 (p1.asF.length:Int)) fun x22=>gd ((0:Int)≤x22∧(x22:Int)≤(p1.asF.length:Int)∧(p1.asF.length:Int)≤(p1.asF.length:Int)) (bd (p0 (List.drop (x22:Int).toNat (List.take (p1.asF.length:Int).toNat p1.asF))) fun x25=>some (aG.mk 4 s_ y15.asK 0 (aA.mk 0 s_ []) x25 []))) (sw (decide (y18.asK=mC)) (gd (2<((([])++p1.asF)++([(aB.mk s_ []),(aB.mk s_ []),(aB.mk s_ [])]:List aB)).length) (lt (aP ((([])++p1.asF)++([(aB.mk s_ []),(aB.mk s_ []),(aB.mk s_ [])]:List aB)) 2) fun y28=>bd (nG fu 3 (p1.asF.length:Int)) fun x31=>gd ((0:Int)≤x31∧(x31:Int)≤(p1.asF.length:Int)∧(p1.asF.length:Int)≤(p1.asF.length:Int)) (bd (p0 (List.drop (x31:Int).toNat (List.take (p1.asF.length:Int).toNat p1.asF))) fun x34=>some (aG.mk 5 y15.asK y28.asK 0 (aA.mk 0 s_ []) x34 [])))) (sw (decide (y18.asK=AZ)) (bd (nG fu 2 (p1.asF.length:Int)) fun x37=>gd ((0:Int)≤x37∧(x37:Int)≤(p1.asF.length:Int)∧(p1.asF.length:Int)≤(p1.asF.length:Int)) (bd (p0 (List.drop (x37:Int).toNat (List.take (p1.asF.length:Int).toNat p1.asF))) fun x40=>some (aG.mk 6 s_ y15.asK 0 (aA.mk 0 s_ []) x40 []))) (sw (decide (y18.asK=AY)) (bd (nG fu 2 (p1.asF.length:Int)) fun x43=>gd ((0:Int)≤x43∧(x43:Int)≤(p1.asF.length:Int)∧(p1.asF.length:Int)≤(p1.asF.length:Int)) (bd (p0 (List.drop (x43:Int).toNat (List.take (p1.asF.length:Int).toNat p1.asF))) fun x46=>some (aG.mk 8 s_ y15.asK 0 (aA.mk 0 s_ []) x46 []))) (sw (decide (y18.asK=z0)) (gd ((0:Int)≤1∧(1:Int)≤(p1.asF.length:Int)∧(p1.asF.length:Int)≤(p1.asF.length:Int)) (bd (p0 (List.drop (1:Int).toNat (List.take (p1.asF.length:Int).toNat p1.asF))) fun x50=>some (aG.mk 9 s_ s_ 0 (aA.mk 0 s_ []) x50 []))) (sw (decide (y18.asK=t4)) (bd (nG fu 2 (p1.asF.length:Int)) fun x53=>gd ((0:Int)≤x53∧(x53:Int)≤(p1.asF.length:Int)∧(p1.asF.length:Int)≤(p1.asF.length:Int)) (bd (p0 (List.drop (x53:Int).toNat (List.take (p1.asF.length:Int).toNat p1.asF))) fun x56=>some (aG.mk 11 y15.asK s_ 0 (aA.mk 0 s_ []) x56 []))) (sw (decide (y18.asK=RI)) (bd (kR fu y15) fun x59=>bd (nG fu 2 (p1.asF.length:Int)) fun x61=>gd ((0:Int)≤x61∧(x61:Int)≤(p1.asF.length:Int)∧(p1.asF.length:Int)≤(p1.asF.length:Int)) (bd (p0 (List.drop (x61:Int).toNat (List.take (p1.asF.length:Int).toNat p1.asF))) fun x64=>some (aG.mk 12 s_ s_ 0 x59 x64 []))) (sw (decide (y18.asK=t3)) (bd (nG fu 2 (p1.asF.length:Int)) fun x67=>gd ((0:Int)≤1∧(1:Int)≤x67∧(x67:Int)≤(p1.asF.length:Int)) (bd (p0 (List.drop (1:Int).toNat (List.take (x67:Int).toNat p1.asF))) fun x70=>so (loopN (WN fu p3 p0 p4 p1 y15 y18 x67 x70) (p1.asF.length-2) 2 ([])) fun v73=>some (aG.mk 7 s_ s_ 0 (aA.mk 0 s_ []) x70 v73))) (bd (nG fu 1 (p1.asF.length:Int)) fun x80=>gd ((0:Int)≤x80∧(x80:Int)≤(p1.asF.length:Int)∧(p1.asF.length:Int)≤(p1.asF.length:Int)) (bd (p0 (List.drop (x80:Int).toNat (List.take (p1.asF.length:Int).toNat p1.asF))) fun x83=>some (aG.mk 10 s_ y18.asK 0 (aA.mk 0 s_ []) x83 [])))))))))))))))
theorem QJ(fu:Nat)(p3:hH)(p0:f6)(p4:jF)(pC:sO p3)(p5:tF p0)(pD:yV p4):sO (GD fu p3 p0 p4):=by
 intro p1 r H
 refine qJ func220 H (fun C hC H=>?_)
 refine gQ 2 ?_;refine q1 (iR ([pS p1.asK,a9 p1.asF])) ?_;refine gQ 9 ?_;refine a7 H (fun h1 H=>?_) (fun h1 H=>?_)
 ·refine gQ 4 ?_;refine eY H fun x3 x4 z2 H=>(q1 (bC func235 (S3 fu p1.asK _ z2)) ?_)
  refine gQ 13 ?_;refine a7 H (fun h5 H=>?_) (fun h5 H=>?_)
  ·refine gQ 3 ?_;refine bD H fun x7 z6 H=>(q1 (bC func192 (sL fu x3 _ z6)) ?_)
   exact gE 2
  refine gQ 7 ?_;refine a7 H (fun h8 H=>gE 5) fun h8 H=>?_;refine gQ 7 ?_;refine a7 H (fun h9 H=>gE 5) fun h9 H=>?_;refine gQ 5 ?_;refine bD H fun x11 z10 H=>(q1 (bC func191 (vU fu p1.asK _ z10)) ?_)
  exact gE 2
 refine gQ 3 ?_;refine q1 (n0 ([]:List aB)) ?_;refine gQ 2 ?_;refine cQ H fun z12 H=>(q1 (jS z12) ?_)
 refine gQ 3 ?_;refine q1 (gC ([(aB.mk s_ []),(aB.mk s_ []),(aB.mk s_ [])]:List aB)) (cQ H fun z13 H=>(q1 (jS z13) ?_))
 refine gQ 12 ?_;refine cQ H fun z14 H=>(fI H fun y15 h16 H=>(q1 (uG h16 z14) ?_))
 refine gQ 8 ?_;refine cQ H fun z17 H=>(fI H fun y18 h19 H=>(q1 (uG h19 z17) ?_))
 refine gQ 9 ?_;refine a7 H (fun h20 H=>?_) (fun h20 H=>?_)
 ·refine qS (bD H fun x22 z21 H=>(cQ H fun z23 H=>(bD H fun x25 z24 H=>(dW (dI [7] bG (dI [1] bS (dD [59] eE (dI [6] bG (dI [61] (bC func234 (nQ fu 2 (p1.asF.length:Int) _ z21)) ?_)))))))))
  refine dI [60,62] (a5.congrP (a5.sliceR (es:=aB.trs (p1.asF)) (l:=x22) (k:=(p1.asF.length:Int)) rfl rfl rfl rfl rfl (by rw [aB.trs_len];exact rfl) (by rw [aB.trs_len];exact z23) wM.h) (aB.trs_part _ _ _)) ?_;refine dI [63] (bC func236 (p5 (List.drop (x22:Int).toNat (List.take (p1.asF.length:Int).toNat p1.asF)) _ z24)) (dI [58,64] nU (kS [2,65] jP (dN ?_)))
  exact gE 0
 refine gQ 5 ?_;refine a7 H (fun h26 H=>?_) (fun h26 H=>?_)
 ·refine qS (cQ H fun z27 H=>(fI H fun y28 h29 H=>(bD H fun x31 z30 H=>(cQ H fun z32 H=>(bD H fun x34 z33 H=>(dW (dI [7] bG (dI [5] bG (dI [69] (uG h29 z27) (dI [70] y2 (dI [71] xR (dI [1] bS (dD [73] eE ?_)))))))))))))
  refine dI [6] bG (dI [75] (bC func234 (nQ fu 3 (p1.asF.length:Int) _ z30)) ?_)
  refine dI [74,76] (a5.congrP (a5.sliceR (es:=aB.trs (p1.asF)) (l:=x31) (k:=(p1.asF.length:Int)) rfl rfl rfl rfl rfl (by rw [aB.trs_len];exact rfl) (by rw [aB.trs_len];exact z32) wM.h) (aB.trs_part _ _ _)) ?_;refine dI [77] (bC func236 (p5 (List.drop (x31:Int).toNat (List.take (p1.asF.length:Int).toNat p1.asF)) _ z33)) (dI [68,72,78] nU (kS [2,79] jP (dN ?_)))
  exact gE 0
 refine gQ 5 ?_;refine a7 H (fun h35 H=>?_) (fun h35 H=>?_)
 ·refine qS (bD H fun x37 z36 H=>(cQ H fun z38 H=>(bD H fun x40 z39 H=>(dW (dI [7] bG (dI [1] bS (dD [83] eE (dI [6] bG (dI [85] (bC func234 (nQ fu 2 (p1.asF.length:Int) _ z36)) ?_)))))))))
  refine dI [84,86] (a5.congrP (a5.sliceR (es:=aB.trs (p1.asF)) (l:=x37) (k:=(p1.asF.length:Int)) rfl rfl rfl rfl rfl (by rw [aB.trs_len];exact rfl) (by rw [aB.trs_len];exact z38) wM.h) (aB.trs_part _ _ _)) ?_;refine dI [87] (bC func236 (p5 (List.drop (x37:Int).toNat (List.take (p1.asF.length:Int).toNat p1.asF)) _ z39)) (dI [82,88] nU (kS [2,89] jP (dN ?_)))
  exact gE 0
 refine gQ 5 ?_;refine a7 H (fun h41 H=>?_) (fun h41 H=>?_)
 ·refine qS (bD H fun x43 z42 H=>(cQ H fun z44 H=>(bD H fun x46 z45 H=>(dW (dI [7] bG (dI [1] bS (dD [93] eE (dI [6] bG (dI [95] (bC func234 (nQ fu 2 (p1.asF.length:Int) _ z42)) ?_)))))))))
  refine dI [94,96] (a5.congrP (a5.sliceR (es:=aB.trs (p1.asF)) (l:=x43) (k:=(p1.asF.length:Int)) rfl rfl rfl rfl rfl (by rw [aB.trs_len];exact rfl) (by rw [aB.trs_len];exact z44) wM.h) (aB.trs_part _ _ _)) ?_;refine dI [97] (bC func236 (p5 (List.drop (x43:Int).toNat (List.take (p1.asF.length:Int).toNat p1.asF)) _ z45)) (dI [92,98] nU (kS [2,99] jP (dN ?_)))
  exact gE 0
 refine gQ 5 ?_;refine a7 H (fun h47 H=>?_) (fun h47 H=>?_)
 ·refine gQ 4 ?_;refine cQ H fun z48 H=>?_;refine q1 (a5.congrP (a5.sliceR (es:=aB.trs (p1.asF)) (l:=1) (k:=(p1.asF.length:Int)) rfl rfl rfl rfl rfl (by rw [aB.trs_len];exact rfl) (by rw [aB.trs_len];exact z48) wM.h) (aB.trs_part _ _ _)) ?_;refine bD H fun x50 z49 H=>(q1 (bC func236 (p5 (List.drop (1:Int).toNat (List.take (p1.asF.length:Int).toNat p1.asF)) _ z49)) ?_)
  exact gE 3
 refine gQ 5 ?_;refine a7 H (fun h51 H=>?_) (fun h51 H=>?_)
 ·refine qS (bD H fun x53 z52 H=>(cQ H fun z54 H=>(bD H fun x56 z55 H=>(dW (dI [7] bG (dI [1] bS (dD [110] eE (dI [6] bG (dI [112] (bC func234 (nQ fu 2 (p1.asF.length:Int) _ z52)) ?_)))))))))
  refine dI [111,113] (a5.congrP (a5.sliceR (es:=aB.trs (p1.asF)) (l:=x53) (k:=(p1.asF.length:Int)) rfl rfl rfl rfl rfl (by rw [aB.trs_len];exact rfl) (by rw [aB.trs_len];exact z54) wM.h) (aB.trs_part _ _ _)) ?_;refine dI [114] (bC func236 (p5 (List.drop (x53:Int).toNat (List.take (p1.asF.length:Int).toNat p1.asF)) _ z55)) (dI [109,115] nU (kS [2,116] jP (dN ?_)))
  exact gE 0
 refine gQ 5 ?_;refine a7 H (fun h57 H=>?_) (fun h57 H=>?_)
 ·refine qS (bD H fun x59 z58 H=>(bD H fun x61 z60 H=>(cQ H fun z62 H=>(bD H fun x64 z63 H=>(dW (dI [5] bG (dI [119] (uG h16 z14) (dI [120] (jB (aB.cs y15)) (dI [121] (bC func219 (tM fu y15 _ z58)) (dI [1] bS (dD [123] eE (dI [6] bG (dI [125] (bC func234 (nQ fu 2 (p1.asF.length:Int) _ z60)) ?_)))))))))))))
  refine dI [124,126] (a5.congrP (a5.sliceR (es:=aB.trs (p1.asF)) (l:=x61) (k:=(p1.asF.length:Int)) rfl rfl rfl rfl rfl (by rw [aB.trs_len];exact rfl) (by rw [aB.trs_len];exact z62) wM.h) (aB.trs_part _ _ _)) ?_;refine dI [127] (bC func236 (p5 (List.drop (x61:Int).toNat (List.take (p1.asF.length:Int).toNat p1.asF)) _ z63)) (dI [122,128] nU (kS [2,129] jP (dN ?_)))
  exact gE 0
 refine gQ 5 ?_;refine a7 H (fun h65 H=>?_) (fun h65 H=>?_)
 ·refine qS (bD H fun x67 z66 H=>(cQ H fun z68 H=>(bD H fun x70 z69 H=>(dW (dI [1] bS (dB [132] 0 1 t7 (dI [6] bG (dI [134] (bC func234 (nQ fu 2 (p1.asF.length:Int) _ z66)) ?_))))))))
  refine dI [133,135] (a5.congrP (a5.sliceR (es:=aB.trs (p1.asF)) (l:=1) (k:=x67) rfl rfl rfl rfl rfl (by rw [aB.trs_len];exact rfl) (by rw [aB.trs_len];exact z68) wM.h) (aB.trs_part _ _ _)) ?_;refine dI [136] (bC func236 (p5 (List.drop (1:Int).toNat (List.take (x67:Int).toNat p1.asF)) _ z69)) (dI [137] nU (dE [] tAl (kS [8,138] jP (dN ?_))))
  refine gQ 5 ?_;refine cF.wk (Wk.regBox (k:=2) (j:=8) 262 11 (by decide) rfl rfl) ?_;refine iG 38 (aB.trs_len _) (fun hl74=>?_)
  refine bM (σ:=(List bH)) (fun i71 v73=>⟨[(1,.ptr 0 0),(2,.ptr 1 0),(5,dH ((([])++p1.asF)++([(aB.mk s_ []),(aB.mk s_ []),(aB.mk s_ [])]:List aB)) 0),(6,pN p1.asF.length),(8,.ptr 2 0),(9,pN i71)],⟨[some ⟨189,[pS p1.asK,a9 p1.asF]⟩,some ⟨211,[pI 0,pS s_,pS s_,pI 0,pI 0,pS s_,.nil,.nil,.nil]⟩,some ⟨211,[pI 7,pS s_,pS s_,pI 0,pI 0,pS s_,.nil,fZ x70,afV v73 1]⟩],[⟨189,2,aB.trs ((([])++p1.asF)++([(aB.mk s_ []),(aB.mk s_ []),(aB.mk s_ [])]:List aB)),false⟩,⟨262,11,bH.trs (v73),false⟩]⟩⟩) (fun v73=>⟨[(1,.ptr 0 0),(2,.ptr 1 0),(5,dH ((([])++p1.asF)++([(aB.mk s_ []),(aB.mk s_ []),(aB.mk s_ [])]:List aB)) 0),(6,pN p1.asF.length),(8,.ptr 2 0)],⟨[some ⟨189,[pS p1.asK,a9 p1.asF]⟩,some ⟨211,[pI 0,pS s_,pS s_,pI 0,pI 0,pS s_,.nil,.nil,.nil]⟩,some ⟨211,[pI 7,pS s_,pS s_,pI 0,pI 0,pS s_,.nil,fZ x70,afV v73 1]⟩],[⟨189,2,aB.trs ((([])++p1.asF)++([(aB.mk s_ []),(aB.mk s_ []),(aB.mk s_ [])]:List aB)),false⟩,⟨262,11,bH.trs (v73),false⟩]⟩⟩) (eR H) ?_ ?_
  ·rintro i71 v73 H
   refine gQ 7 ?_;refine cW H (fun h75 h75l H=>?_) (fun h75 H=>?_)
   ·refine gQ 3 ?_;refine bD H fun x77 z76 H=>(cQ H fun z78 H=>(dW (dI [8] bS (dD [144] eE (dI [1] bS (dD [146] eE (dI [9] bG (dI [147,148] qY (dI [149] (jB (aB.cs (aP p1.asF i71))) (dI [150] (bC func237 (pD (aP p1.asF i71) _ z76)) (dI [151] (gC ([x77]:List bH)) (dE [145,152] (jS z78) (dI [8] bS ?_)))))))))))))
    refine kS [154,153] jP (dN ?_)
    exact gE 5
   exact gE 0
  rintro v73 H
  refine gQ 2 ?_;refine q1 (cK [pI 7,pS s_,pS s_,pI 0,pI 0,pS s_,.nil,fZ x70,afV v73 1]) ?_;exact gE 2
 refine gQ 2 ?_;refine bD H fun x80 z79 H=>(cQ H fun z81 H=>(bD H fun x83 z82 H=>(dW (dI [5] bG (dI [156] (uG h19 z17) (dI [157] y2 (dI [158] xR (dI [1] bS (dD [160] eE (dI [6] bG (dI [162] (bC func234 (nQ fu 1 (p1.asF.length:Int) _ z79)) ?_)))))))))))
 refine dI [161,163] (a5.congrP (a5.sliceR (es:=aB.trs (p1.asF)) (l:=x80) (k:=(p1.asF.length:Int)) rfl rfl rfl rfl rfl (by rw [aB.trs_len];exact rfl) (by rw [aB.trs_len];exact z81) wM.h) (aB.trs_part _ _ _)) ?_;refine dI [164] (bC func236 (p5 (List.drop (x80:Int).toNat (List.take (p1.asF.length:Int).toNat p1.asF)) _ z82)) (dI [159,165] nU (kS [2,166] jP (dN ?_)))
 exact gE 0
def TE(fu:Nat)(p3:hH)(p0:f6)(p4:jF)(p6:List aB):Nat→((List aG))→Option (LR ((List aG)) ((List aG))):=fun i1 v3=>bd (p3 (aP p6 i1)) fun x7=>gd ((v3).length+(([x7]:List aG)).length≤68719476736) (some (.next (v3++([x7]:List aG))))
def B9(fu:Nat)(p3:hH)(p0:f6)(p4:jF)(p6:List aB):Option ((List aG)):=so (loopN (TE fu p3 p0 p4 p6) (p6.length-0) 0 ([])) fun v3=>some v3
theorem N9(fu:Nat)(p3:hH)(p0:f6)(p4:jF)(pC:sO p3)(p5:tF p0)(pD:yV p4):tF (B9 fu p3 p0 p4):=by
 intro p6 r H
 refine qJ func236 H (fun C hC H=>?_)
 refine gQ 6 ?_;refine q1 (n0 ([]:List aG)) ?_;refine gQ 7 ?_;refine iG 0 (aB.trs_len _) (fun hl4=>?_)
 refine bM (σ:=(List aG)) (fun i1 v3=>⟨[(0,a9 p6),(2,.nil),(3,afL v3 0),(4,pN i1)],⟨[],[⟨211,9,aG.trs (v3),false⟩]⟩⟩) (fun v3=>⟨[(2,.nil),(3,afL v3 0)],⟨[],[⟨211,9,aG.trs (v3),false⟩]⟩⟩) (eR H) ?_ ?_
 ·rintro i1 v3 H
  refine gQ 8 ?_;refine cW H (fun h5 h5l H=>?_) (fun h5 H=>?_)
  ·refine gQ 8 ?_;refine q1 (jB (aB.cs (aP p6 i1))) (bD H fun x7 z6 H=>(q1 (bC func220 (pC (aP p6 i1) _ z6)) (q1 (gC ([x7]:List aG)) (cQ H fun z8 H=>(q1 (jS z8) ?_)))))
   exact gE 7
  exact gE 0
 rintro v3 H
 exact gE 5
def KE(fu:Nat)(p3:hH)(p0:f6)(p4:jF)(px:aB):Option bH:=sw (decide ((px.asF.length:Int)<2)) (some (bH.mk s_ [] (aG.mk 0 s_ s_ 0 (aA.mk 0 s_ []) [] []))) (gd ((0:Int)≤1∧(1:Int)≤aY ((px.asF.length:Int)-1)∧(aY ((px.asF.length:Int)-1):Int)≤(px.asF.length:Int)) (bd (wA fu (List.drop (1:Int).toNat (List.take (aY ((px.asF.length:Int)-1):Int).toNat px.asF))) fun(x4,x5)=>gd (0<(px.asF).length) (gd (0≤aY ((px.asF.length:Int)-1)∧(aY ((px.asF.length:Int)-1)).toNat<(px.asF).length) (lt (aP px.asF ((aY ((px.asF.length:Int)-1)).toNat)) fun y8=>bd (p3 y8) fun x11=>some (bH.mk ((aP px.asF 0).asK) x4 x11)))))
theorem TB(fu:Nat)(p3:hH)(p0:f6)(p4:jF)(pC:sO p3)(p5:tF p0)(pD:yV p4):yV (KE fu p3 p0 p4):=by
 intro px r H
 refine qJ func237 H (fun C hC H=>?_)
 refine gQ 2 ?_;refine q1 (iR ([pS px.asK,a9 px.asF])) ?_;refine gQ 15 ?_;refine a7 H (fun h1 H=>?_) (fun h1 H=>?_)
 ·have h1n:px.asF.length<2:=by have:=of_decide_eq_true h1;omega
  exact gE 5
 refine gQ 7 ?_;refine cQ H fun z2 H=>?_;refine q1 (a5.congrP (a5.sliceR (es:=aB.trs (px.asF)) (l:=1) (k:=aY ((px.asF.length:Int)-1)) rfl rfl rfl rfl rfl (by rw [aB.trs_len];exact rfl) (by rw [aB.trs_len];exact z2) wM.h) (aB.trs_part _ _ _)) ?_;refine eY H fun x4 x5 z3 H=>(q1 (bC func174 (CK fu (List.drop (1:Int).toNat (List.take (aY ((px.asF.length:Int)-1):Int).toNat px.asF)) _ z3)) ?_)
 refine gQ 7 ?_;refine cQ H fun z6 H=>(cQ H fun z7 H=>(fI H fun y8 h9 H=>(bD H fun x11 z10 H=>(dW (dI [1] bS (dD [21] eE (dI [22] qY (dI [23] y2 (dI [24] xR (dI [4] bG (dI [1] bS (dD [27] eE (dI [3] bG ?_)))))))))))))
 refine dI [29] rSw (dI [28,30] (rIm h9 z7 wM.h) (dI [31] (jB (aB.cs y8)) (dI [32] (bC func220 (pC y8 _ z10)) (dI [25,26,33] nU (kS [2,34] jP (dN ?_))))))
 exact gE 0
mutual
def fK:Nat→aB→Option aG
 |0,_=>none
 |fu+1,p1=>GD fu (fK fu) (iI fu) (lG fu) p1
def iI:Nat→(List aB)→Option ((List aG))
 |0,_=>none
 |fu+1,p6=>B9 fu (fK fu) (iI fu) (lG fu) p6
def lG:Nat→aB→Option bH
 |0,_=>none
 |fu+1,px=>KE fu (fK fu) (iI fu) (lG fu) px
end
theorem TD(fu:Nat):sO (fK fu)∧tF (iI fu)∧yV (lG fu):=by
 induction fu with
 |zero=>exact⟨(fun p1 r H=>by simp only [fK] at H;cases H),(fun p6 r H=>by simp only [iI] at H;cases H),(fun px r H=>by simp only [lG] at H;cases H)⟩
 |succ fu ih=>exact⟨(fun p1 r H=>by simp only [fK] at H;exact QJ fu (fK fu) (iI fu) (lG fu) ih.1 ih.2.1 ih.2.2 p1 r H),(fun p6 r H=>by simp only [iI] at H;exact N9 fu (fK fu) (iI fu) (lG fu) ih.1 ih.2.1 ih.2.2 p6 r H),(fun px r H=>by simp only [lG] at H;exact TB fu (fK fu) (iI fu) (lG fu) ih.1 ih.2.1 ih.2.2 px r H)⟩
theorem B8(fu:Nat):sO (fK fu):=(TD fu).1
abbrev n9:=aG→Option aB
abbrev kZ:=(List aB)→(List aG)→Option aB
def CA(m:n9):Prop:= ∀(p1:aG) (r:aB),m p1=some r→bP Tryz.prog 243 [(aG.pv p1)] ((aB.pv r):PV)
def AE(m:kZ):Prop:= ∀(pA:List aB) (p6:List aG) (r:aB),m pA p6=some r→cJ Tryz.prog 256 [dH pA 0,fZ p6] ⟨[],[⟨189,2,aB.trs (pA),false⟩]⟩ (fun q t=>q=(.agg [pS r.asK,dH r.asF 0]:PV)∧t=⟨[],[⟨189,2,aB.trs (r.asF),false⟩]⟩)
def ab9(fu:Nat)(p8:n9)(p2:kZ)(p1:aG)(x68 x70:aB):Nat→((List aB))→Option (LR ((List aB)) aB):=fun i71 v73=>lt (aP p1.asV i71) fun y76=>bd (bV fu y76.asZ) fun x79=>bd (AO fu y76.asP) fun x81=>gd ((([x79]:List aB)).length+x81.length≤68719476736) (bd (p8 y76.asM) fun x84=>gd ((([x79]:List aB)++x81).length+(([x84]:List aB)).length≤68719476736) (gd ((v73).length+(([(aB.mk s_ ((([x79]:List aB)++x81)++([x84]:List aB)))]:List aB)).length≤68719476736) (some (.next (v73++([(aB.mk s_ ((([x79]:List aB)++x81)++([x84]:List aB)))]:List aB))))))
def OA(fu:Nat)(p8:n9)(p2:kZ)(p1:aG):Option aB:=sw (decide (p1.asJ=1)) (bd (lW fu p1.atN) fun x3=>bd (bV fu x3) fun x5=>some x5) (sw (decide (p1.asJ=2)) (gd (0≤p1.atN∧(p1.atN).toNat<(([jO,mQ]:LB)).length) (bd (bV fu (aP ([jO,mQ]:LB) ((p1.atN).toNat))) fun x9=>some x9)) (sw (decide (p1.asJ=3)) (bd (bV fu p1.asD) fun x12=>some x12) (sw (decide (p1.asJ=4)) (bd (bV fu KA) fun x15=>bd (bV fu p1.asD) fun x17=>bd (p2 ([x15,x17]:List aB) p1.asG) fun x19=>some (aB.mk x19.asK x19.asF)) (sw (decide (p1.asJ=5)) (bd (bV fu mC) fun x22=>bd (bV fu p1.asN) fun x24=>bd (bV fu p1.asD) fun x26=>bd (p2 ([x22,x24,x26]:List aB) p1.asG) fun x28=>some (aB.mk x28.asK x28.asF)) (sw (decide (p1.asJ=6)) (bd (bV fu AZ) fun x31=>bd (bV fu p1.asD) fun x33=>bd (p2 ([x31,x33]:List aB) p1.asG) fun x35=>some (aB.mk x35.asK x35.asF)) (sw (decide (p1.asJ=8)) (bd (bV fu AY) fun x38=>bd (bV fu p1.asD) fun x40=>bd (p2 ([x38,x40]:List aB) p1.asG) fun x42=>some (aB.mk x42.asK x42.asF)) (sw (decide (p1.asJ=9)) (bd (bV fu z0) fun x45=>bd (p2 ([x45]:List aB) p1.asG) fun x47=>some (aB.mk x47.asK x47.asF)) (sw (decide (p1.asJ=10)) (bd (bV fu p1.asD) fun x50=>bd (p2 ([x50]:List aB) p1.asG) fun x52=>some (aB.mk x52.asK x52.asF)) (sw (decide (p1.asJ=11)) (bd (bV fu t4) fun x55=>bd (bV fu p1.asN) fun x57=>bd (p2 ([x55,x57]:List aB) p1.asG) fun x59=>some (aB.mk x59.asK x59.asF)) (sw (decide (p1.asJ=12)) (bd (bV fu RI) fun x62=>bd (kQ fu p1.asH) fun x64=>bd (p2 ([x62,x64]:List aB) p1.asG) fun x66=>some (aB.mk x66.asK x66.asF)) (bd (bV fu t3) fun x68=>bd (p2 ([x68]:List aB) p1.asG) fun x70=>so (loopN (ab9 fu p8 p2 p1 x68 x70) (p1.asV.length-0) 0 x70.asF) fun v73=>some (aB.mk x70.asK v73))))))))))))
theorem WP(fu:Nat)(p8:n9)(p2:kZ)(pE:CA p8)(p7:AE p2):CA (OA fu p8 p2):=by
 intro p1 r H
 refine qJ func243 H (fun C hC H=>?_)
 refine gQ 2 ?_;refine q1 (iR (gF p1)) ?_;refine gQ 14 ?_;refine a7 H (fun h1 H=>?_) (fun h1 H=>?_)
 ·refine gQ 4 ?_;refine bD H fun x3 z2 H=>(q1 (bC func255 (xM fu p1.atN _ z2)) (bD H fun x5 z4 H=>(q1 (bC func239 (bO fu x3 _ z4)) ?_)))
  exact gE 2
 refine gQ 5 ?_;refine a7 H (fun h6 H=>?_) (fun h6 H=>?_)
 ·refine gQ 2 ?_;refine q1 (gC ([jO,mQ]:LB)) ?_;refine gQ 2 ?_;refine cQ H fun z7 H=>(q1 (rIy z7 X6.h) (q1 xR (bD H fun x9 z8 H=>(q1 (bC func239 (bO fu (aP ([jO,mQ]:LB) ((p1.atN).toNat)) _ z8)) ?_))))
  exact gE 2
 refine gQ 5 ?_;refine a7 H (fun h10 H=>?_) (fun h10 H=>?_)
 ·refine gQ 4 ?_;refine bD H fun x12 z11 H=>(q1 (bC func239 (bO fu p1.asD _ z11)) ?_)
  exact gE 2
 refine gQ 5 ?_;refine a7 H (fun h13 H=>?_) (fun h13 H=>?_)
 ·refine qS (bD H fun x15 z14 H=>(bD H fun x17 z16 H=>(bD H fun x19 z18 H=>(dW (dI [] (bC func239 (bO fu KA _ z14)) (dI [1] bS (dD [31] eE (dI [32] (bC func239 (bO fu p1.asD _ z16)) (dE [30,33] (n0 ([x15,x17]:List aB)) (dI [1] bS (dB [35] 0 1 t7 (dE [34,36] (eW [] [0] func256 (p7 ([x15,x17]:List aB) p1.asG _ z18)) (kS [2,37] jP ?_)))))))))))))
  refine dN ?_;exact gE 0
 refine gQ 5 ?_;refine a7 H (fun h20 H=>?_) (fun h20 H=>?_)
 ·refine qS (bD H fun x22 z21 H=>(bD H fun x24 z23 H=>(bD H fun x26 z25 H=>(bD H fun x28 z27 H=>(dW (dI [] (bC func239 (bO fu mC _ z21)) (dI [1] bS (dD [41] eE (dI [42] (bC func239 (bO fu p1.asN _ z23)) (dI [1] bS (dD [44] eE (dI [45] (bC func239 (bO fu p1.asD _ z25)) (dE [40,43,46] (n0 ([x22,x24,x26]:List aB)) ?_)))))))))))))
  refine dI [1] bS (dB [48] 0 1 t7 (dE [47,49] (eW [] [0] func256 (p7 ([x22,x24,x26]:List aB) p1.asG _ z27)) (kS [2,50] jP (dN ?_))))
  exact gE 0
 refine gQ 5 ?_;refine a7 H (fun h29 H=>?_) (fun h29 H=>?_)
 ·refine qS (bD H fun x31 z30 H=>(bD H fun x33 z32 H=>(bD H fun x35 z34 H=>(dW (dI [] (bC func239 (bO fu AZ _ z30)) (dI [1] bS (dD [54] eE (dI [55] (bC func239 (bO fu p1.asD _ z32)) (dE [53,56] (n0 ([x31,x33]:List aB)) (dI [1] bS (dB [58] 0 1 t7 (dE [57,59] (eW [] [0] func256 (p7 ([x31,x33]:List aB) p1.asG _ z34)) (kS [2,60] jP ?_)))))))))))))
  refine dN ?_;exact gE 0
 refine gQ 5 ?_;refine a7 H (fun h36 H=>?_) (fun h36 H=>?_)
 ·refine qS (bD H fun x38 z37 H=>(bD H fun x40 z39 H=>(bD H fun x42 z41 H=>(dW (dI [] (bC func239 (bO fu AY _ z37)) (dI [1] bS (dD [64] eE (dI [65] (bC func239 (bO fu p1.asD _ z39)) (dE [63,66] (n0 ([x38,x40]:List aB)) (dI [1] bS (dB [68] 0 1 t7 (dE [67,69] (eW [] [0] func256 (p7 ([x38,x40]:List aB) p1.asG _ z41)) (kS [2,70] jP ?_)))))))))))))
  refine dN ?_;exact gE 0
 refine gQ 5 ?_;refine a7 H (fun h43 H=>?_) (fun h43 H=>?_)
 ·refine qS (bD H fun x45 z44 H=>(bD H fun x47 z46 H=>(dW (dI [] (bC func239 (bO fu z0 _ z44)) (dE [73] (n0 ([x45]:List aB)) (dI [1] bS (dB [75] 0 1 t7 (dE [74,76] (eW [] [0] func256 (p7 ([x45]:List aB) p1.asG _ z46)) (kS [2,77] jP (dN ?_))))))))))
  exact gE 0
 refine gQ 5 ?_;refine a7 H (fun h48 H=>?_) (fun h48 H=>?_)
 ·refine qS (bD H fun x50 z49 H=>(bD H fun x52 z51 H=>(dW (dI [1] bS (dD [80] eE (dI [81] (bC func239 (bO fu p1.asD _ z49)) (dE [82] (n0 ([x50]:List aB)) (dI [1] bS (dB [84] 0 1 t7 (dE [83,85] (eW [] [0] func256 (p7 ([x50]:List aB) p1.asG _ z51)) (kS [2,86] jP (dN ?_))))))))))))
  exact gE 0
 refine gQ 5 ?_;refine a7 H (fun h53 H=>?_) (fun h53 H=>?_)
 ·refine qS (bD H fun x55 z54 H=>(bD H fun x57 z56 H=>(bD H fun x59 z58 H=>(dW (dI [] (bC func239 (bO fu t4 _ z54)) (dI [1] bS (dD [90] eE (dI [91] (bC func239 (bO fu p1.asN _ z56)) (dE [89,92] (n0 ([x55,x57]:List aB)) (dI [1] bS (dB [94] 0 1 t7 (dE [93,95] (eW [] [0] func256 (p7 ([x55,x57]:List aB) p1.asG _ z58)) (kS [2,96] jP ?_)))))))))))))
  refine dN ?_;exact gE 0
 refine gQ 5 ?_;refine a7 H (fun h60 H=>?_) (fun h60 H=>?_)
 ·refine qS (bD H fun x62 z61 H=>(bD H fun x64 z63 H=>(bD H fun x66 z65 H=>(dW (dI [] (bC func239 (bO fu RI _ z61)) (dI [1] bS (dD [100] (cK [pI p1.asH.asJ,pS p1.asH.asD,aX p1.asH.asG]) (dI [101] (bC func242 (tL fu p1.asH _ z63)) (dE [99,102] (n0 ([x62,x64]:List aB)) (dI [1] bS (dB [104] 0 1 t7 (dE [103,105] (eW [] [0] func256 (p7 ([x62,x64]:List aB) p1.asG _ z65)) (kS [2,106] jP ?_)))))))))))))
  refine dN ?_;exact gE 0
 refine gQ 2 ?_;refine bD H fun x68 z67 H=>(bD H fun x70 z69 H=>(dWa (dI [] (bC func239 (bO fu t3 _ z67)) ?_)))
 refine dEz [107] (fun _ z=>by cases z<;>exact rBa ([x68]:List aB) wM.h RT.h) ?_;refine dI [1] bS (dBz [109] 0 1 t7 ?_)
 refine dEz [108,110] (fun _ z=>by cases z<;>exact eW [] [0] func256 (p7 ([x68]:List aB) p1.asG _ z69)) ?_;refine dA (fun _ st h=>vAl h RT.h) (dZ 3 [3,111] jP (dN ?_))
 refine gQ 5 ?_;refine cF.fact (b6 0 8 rfl rfl rfl (bH.trs_len _)) (fun hl74=>?_)
 refine bM (σ:=(List aB)) (fun i71 v73=>⟨[(1,.ptr 0 0),(2,.ptr 1 0),(3,.ptr 2 0),(4,pN i71)],⟨[some ⟨211,gF p1⟩,some ⟨189,[pS s_,.nil]⟩,some ⟨189,[pS x70.asK,dH v73 0]⟩],[⟨189,2,aB.trs (v73),false⟩]⟩⟩) (fun v73=>⟨[(2,.ptr 1 0),(3,.ptr 2 0)],⟨[some ⟨211,gF p1⟩,some ⟨189,[pS s_,.nil]⟩,some ⟨189,[pS x70.asK,dH v73 0]⟩],[⟨189,2,aB.trs (v73),false⟩]⟩⟩) (eR H) ?_ ?_
 ·rintro i71 v73 H
  refine gQ 9 ?_;refine cW H (fun h75 h75l H=>?_) (fun h75 H=>?_)
  ·refine gQ 8 ?_;refine fI H fun y76 h77 H=>(q1 (uG h77 h75l) (q1 (jB (bH.cs y76)) ?_))
   refine gQ 4 ?_;refine bD H fun x79 z78 H=>(bD H fun x81 z80 H=>(cQ H fun z82 H=>(dW (dI [5] bS (dD [124] eE (dI [125] (bC func239 (bO fu y76.asZ _ z78)) (dE [126] (n0 ([x79]:List aB)) (dI [5] bS (dB [128] 0 1 t7 (dI [129] (bC func254 (LC fu y76.asP _ z80)) (dE [127,130] (jS z82) (dI [131] bG (dN ?_)))))))))))))
   refine bD H fun x84 z83 H=>(cQ H fun z85 H=>(cQ H fun z86 H=>(dW (dI [3] bS (dB [132] 0 1 t7 (dI [6] bG (dI [5] bS (dD [135] (cK [pI y76.asM.asJ,pS y76.asM.asN,pS y76.asM.asD,pI y76.asM.atN,pI y76.asM.asH.asJ,pS y76.asM.asH.asD,aX y76.asM.asH.asG,fZ y76.asM.asG,nL y76.asM.asV]) (dI [136] (bC func243 (pE y76.asM _ z83)) (dI [137] (gC ([x84]:List aB)) (dE [134,138] (jS z85) (dI [139] nU (dI [140] (gC ([(aB.mk s_ ((([x79]:List aB)++x81)++([x84]:List aB)))]:List aB)) ?_)))))))))))))
   refine dE [133,141] (jS z86) (dI [3] bS (kS [143,142] jP (dN ?_)))
   exact gE 5
  exact gE 0
 rintro v73 H
 refine gQ 2 ?_;refine q1 (cK [pS x70.asK,dH v73 0]) ?_;exact gE 2
def WL(fu:Nat)(p8:n9)(p2:kZ)(pA:List aB)(p6:List aG):Nat→((List aB))→Option (LR ((List aB)) aB):=fun i1 v3=>lt (aP p6 i1) fun y6=>bd (p8 y6) fun x9=>gd ((v3).length+(([x9]:List aB)).length≤68719476736) (some (.next (v3++([x9]:List aB))))
def GC(fu:Nat)(p8:n9)(p2:kZ)(pA:List aB)(p6:List aG):Option aB:=so (loopN (WL fu p8 p2 pA p6) (p6.length-0) 0 pA) fun v3=>some (aB.mk s_ v3)
theorem QI(fu:Nat)(p8:n9)(p2:kZ)(pE:CA p8)(p7:AE p2):AE (GC fu p8 p2):=by
 intro pA p6 r H
 refine qJ func256 H (fun C hC H=>?_)
 refine gQ 16 ?_;refine iG 1 (aG.trs_len _) (fun hl4=>?_)
 refine bM (σ:=(List aB)) (fun i1 v3=>⟨[(1,fZ p6),(4,.ptr 0 0),(5,.ptr 1 0),(6,pN i1)],⟨[some ⟨189,[pS s_,.nil]⟩,some ⟨189,[pS s_,dH v3 0]⟩],[⟨189,2,aB.trs (v3),false⟩]⟩⟩) (fun v3=>⟨[(4,.ptr 0 0),(5,.ptr 1 0)],⟨[some ⟨189,[pS s_,.nil]⟩,some ⟨189,[pS s_,dH v3 0]⟩],[⟨189,2,aB.trs (v3),false⟩]⟩⟩) (eR H) ?_ ?_
 ·rintro i1 v3 H
  refine gQ 8 ?_;refine cW H (fun h5 h5l H=>?_) (fun h5 H=>?_)
  ·refine gQ 3 ?_;refine fI H fun y6 h7 H=>(bD H fun x9 z8 H=>(cQ H fun z10 H=>(dW (dI [5] bS (dD [15] eE (dI [1] bG (dI [6] bG (dI [17,18] (uG h7 h5l) (dI [19] (jB (aG.cs y6)) (dI [20] (bC func243 (pE y6 _ z8)) (dI [21] (gC ([x9]:List aB)) (dE [16,22] (jS z10) (dI [5] bS ?_)))))))))))))
   refine kS [24,23] jP (dN ?_)
   exact gE 5
  exact gE 0
 rintro v3 H
 refine gQ 2 ?_;refine q1 (cK [pS s_,dH v3 0]) ?_;exact gE 2
mutual
def kI:Nat→aG→Option aB
 |0,_=>none
 |fu+1,p1=>OA fu (kI fu) (lZ fu) p1
def lZ:Nat→(List aB)→(List aG)→Option aB
 |0,_,_=>none
 |fu+1,pA,p6=>GC fu (kI fu) (lZ fu) pA p6
end
theorem ZF(fu:Nat):CA (kI fu)∧AE (lZ fu):=by
 induction fu with
 |zero=>exact⟨(fun p1 r H=>by simp only [kI] at H;cases H),(fun pA p6 r H=>by simp only [lZ] at H;cases H)⟩
 |succ fu ih=>exact⟨(fun p1 r H=>by simp only [kI] at H;exact WP fu (kI fu) (lZ fu) ih.1 ih.2 p1 r H),(fun pA p6 r H=>by simp only [lZ] at H;exact QI fu (kI fu) (lZ fu) ih.1 ih.2 pA p6 r H)⟩
theorem KF(fu:Nat):CA (kI fu):=(ZF fu).1
end
end Go.Proofs.YtfcoaagbccmahaaGreat.W
