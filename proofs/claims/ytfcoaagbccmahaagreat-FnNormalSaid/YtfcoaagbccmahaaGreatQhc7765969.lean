/- Words, rules and walks of several kinds, laid together. No conditions but those that each theorem states. -/
import Derived.Test.YtfcoaagbccmahaaGreatQhd4e5c81d
set_option linter.unusedSimpArgs false
set_option linter.unusedVariables false
namespace Go.Proofs.YtfcoaagbccmahaaGreat.W
set_option maxRecDepth 100000
set_option maxHeartbeats 40000000
noncomputable section
open Tryz Go.RowKit Go.Proofs
attribute [local irreducible] lt
def aaS(fu:Nat)(p3:LB)(ps:ByteArray):Nat→Unit→Option (LR Unit Bool):=fun i1 _=>sw (decide (aR p3 i1=ps)) (some (.ret true)) (some (.next ()))
def lD(fu:Nat)(p3:LB)(ps:ByteArray):Option Bool:=so (loopN (aaS fu p3 ps) (p3.length-0) 0 ()) fun _=>some false
theorem mJ(fu:Nat)(p3:LB)(ps:ByteArray)(r:Bool)(H:lD fu p3 ps=some r):bQ Tryz.prog 153 [rS p3,pS ps] (pB r):=by
 refine qJ func153 H (fun C hC H=>?_)
 refine gQ 9 ?_;refine gP 0 (bV _) (fun hl2=>?_)
 refine bS (σ:=Unit) (fun i1 _=>⟨[(0,rS p3),(1,pS ps),(4,pB false),(5,pN i1)],⟨[],[]⟩⟩) (fun _=>⟨[(4,pB false)],⟨[],[]⟩⟩) (eM H) ?_ ?_
 ·rintro i1 ⟨⟩ H
  refine gQ 8 ?_;refine cS H (fun h3 h3l H=>?_) (fun h3 H=>?_)
  ·refine gQ 12 ?_;refine bC H (fun h4 H=>gE 4) fun h4 H=>?_;exact gE 6
  exact gE 0
 rintro⟨⟩ H
 exact gE 4
def xC(fu:Nat)(ps:ByteArray):Option Bool:=bd (lD fu ([dR,dP,fM,zP,F4,GX,zC,GY,pX,zD,qX,mA]:LB) ps) fun x2=>some x2
theorem WH(fu:Nat)(ps:ByteArray)(r:Bool)(H:xC fu ps=some r):bQ Tryz.prog 227 [pS ps] (pB r):=by
 refine qJ func227 H (fun C hC H=>?_)
 refine gQ 6 ?_;refine q1 (hH ([dR,dP,fM,zP,F4,GX,zC,GY,pX,zD,qX,mA]:LB)) (q1 bF (bK H fun x2 z1 H=>(q1 (bE func153 (mJ fu ([dR,dP,fM,zP,F4,GX,zC,GY,pX,zD,qX,mA]:LB) ps _ z1)) ?_)))
 exact gE 2
def TW(fu:Nat)(ps:ByteArray)(x2 x5:Bool):Nat→Unit→Option (LR Unit Bool):=fun i7 _=>gd (i7<(ps).size) (sw (decide ((((FF ps i7).toNat:Int):Int)≥97)) (sw (!(decide ((((FF ps i7).toNat:Int):Int)≤122))) (sw (decide ((i7:Int)=0)) (some (.ret false)) (sw (decide ((((FF ps i7).toNat:Int):Int)<48)) (some (.ret false)) (sw (decide ((((FF ps i7).toNat:Int):Int)>57)) (some (.ret false)) (some (.next ()))))) (some (.next ()))) (sw (decide ((i7:Int)=0)) (some (.ret false)) (sw (decide ((((FF ps i7).toNat:Int):Int)<48)) (some (.ret false)) (sw (decide ((((FF ps i7).toNat:Int):Int)>57)) (some (.ret false)) (some (.next ()))))))
def c7(fu:Nat)(ps:ByteArray):Option Bool:=bd (sR fu (ps.size:Int) 1 8) fun x2=>sw (!(x2)) (some false) (bd (xC fu ps) fun x5=>sw x5 (some false) (so (loopN (TW fu ps x2 x5) (ps.size-0) 0 ()) fun _=>some true))
theorem eD(fu:Nat)(ps:ByteArray)(r:Bool)(H:c7 fu ps=some r):bQ Tryz.prog 205 [pS ps] (pB r):=by
 refine qJ func205 H (fun C hC H=>?_)
 refine gQ 8 ?_;refine q1 (bB.lenS rfl rfl rfl Tryz.underlying9) (bK H fun x2 z1 H=>(q1 (bE func64 (yE fu (ps.size:Int) 1 8 _ z1)) ?_))
 refine gQ 2 ?_;refine dL 9 H (fun g3 H=>gE 9) fun g3 H=>?_;refine qg g3 bF (bK H fun x5 z4 H=>(qg g3 (bE func227 (WH fu ps _ z4)) ?_))
 refine gQ 2 ?_;refine bC H (fun h6 H=>gE 4) fun h6 H=>?_;refine gQ 6 ?_;refine szF 0 (fun hl8=>?_)
 refine bS (σ:=Unit) (fun i7 _=>⟨[(0,pS ps),(2,pB false),(3,pN i7)],⟨[],[]⟩⟩) (fun _=>⟨[(2,pB false)],⟨[],[]⟩⟩) (eM H) ?_ ?_
 ·rintro i7 ⟨⟩ H
  refine gQ 5 ?_;refine q1 (bB.lenS rfl rfl rfl Tryz.underlying9) ?_;refine gQ 2 ?_;refine cS H (fun h9 h9l H=>?_) (fun h9 H=>?_)
  ·have h9n:i7<ps.size:=by have:=of_decide_eq_true h9;omega
   refine gQ 7 ?_;refine cF H fun z10 H=>(q1 (bB.indexS (k:=i7) rfl rfl rfl rfl z10 Tryz.underlying9) ?_)
   refine gQ 2 ?_;refine dL 23 H (fun g11 H=>?_) fun g11 H=>?_
   ·refine gQ 2 ?_;refine qg g11 (bB.indexS (k:=i7) rfl rfl rfl rfl z10 Tryz.underlying9) ?_;refine gQ 9 ?_;refine dL 31 H (fun g12 H=>?_) fun g12 H=>?_
    ·refine gQ 3 ?_;refine dL 34 H (fun g13 H=>gE 18) fun g13 H=>?_;refine gQ 2 ?_;refine qg g13 (bB.indexS (k:=i7) rfl rfl rfl rfl z10 Tryz.underlying9) ?_;refine gQ 3 ?_;refine dL 40 H (fun g14 H=>gE 12) fun g14 H=>?_;refine gQ 2 ?_;refine qg g14 (bB.indexS (k:=i7) rfl rfl rfl rfl z10 Tryz.underlying9) ?_;refine gQ 4 ?_;refine bC H (fun h15 H=>gE 4) fun h15 H=>?_;exact gE 6
    exact gE 23
   refine gQ 12 ?_;refine qg (congrArg (fun b=> !b) (rfl:false=false)) bF (qg (congrArg (fun b=> !b) (rfl:false=false)) rEq (qg (congrArg (fun b=> !b) (rfl:false=false)) bF ?_))
   refine dL 34 H (fun g16 H=>?_) fun g16 H=>?_
   ·refine gQ 4 ?_;refine qg (congrArg (fun b=> !b) (rfl:false=false)) (DU g16) (qg (congrArg (fun b=> !b) (rfl:false=false)) bF ?_)
    refine gQ 4 ?_;refine qg (congrArg (fun b=> !b) (rfl:false=false)) (DU rfl) (q1 (DU (congrArg (fun b=> !b) (rfl:false=false))) ?_)
    exact gE 6
   refine gQ 2 ?_;refine qg g16 (bB.indexS (k:=i7) rfl rfl rfl rfl z10 Tryz.underlying9) (qg g16 rLt (qg (congrArg (fun b=> !b) (rfl:false=false)) (FX g16) (qg (congrArg (fun b=> !b) (rfl:false=false)) bF ?_)))
   refine dL 40 H (fun g17 H=>?_) fun g17 H=>?_
   ·refine gQ 4 ?_;refine qg (congrArg (fun b=> !b) (rfl:false=false)) (DU g17) (q1 (DU (congrArg (fun b=> !b) (rfl:false=false))) ?_)
    exact gE 6
   refine gQ 2 ?_;refine qg g17 (bB.indexS (k:=i7) rfl rfl rfl rfl z10 Tryz.underlying9) (qg g17 rGt (qg (congrArg (fun b=> !b) (rfl:false=false)) (FX g17) (q1 (DU (congrArg (fun b=> !b) (rfl:false=false))) (qN ?_))))
   refine bC H (fun h18 H=>gE 4) fun h18 H=>?_;exact gE 6
  exact gE 0
 rintro⟨⟩ H
 exact gE 4
def ag7(fu:Nat)(p3:LB):Nat→Unit→Option (LR Unit Bool):=fun i1 _=>bd (c7 fu (aR p3 i1)) fun x5=>sw (!(x5)) (some (.ret false)) (some (.next ()))
def GI(fu:Nat)(p3:LB):Option Bool:=so (loopN (ag7 fu p3) (p3.length-0) 0 ()) fun _=>some true
theorem S3(fu:Nat)(p3:LB)(r:Bool)(H:GI fu p3=some r):bQ Tryz.prog 228 [rS p3] (pB r):=by
 refine qJ func228 H (fun C hC H=>?_)
 refine gQ 9 ?_;refine gP 0 (bV _) (fun hl2=>?_)
 refine bS (σ:=Unit) (fun i1 _=>⟨[(0,rS p3),(2,pB false),(3,pN i1)],⟨[],[]⟩⟩) (fun _=>⟨[(2,pB false)],⟨[],[]⟩⟩) (eM H) ?_ ?_
 ·rintro i1 ⟨⟩ H
  refine gQ 8 ?_;refine cS H (fun h3 h3l H=>?_) (fun h3 H=>?_)
  ·refine gQ 9 ?_;refine bK H fun x5 z4 H=>(q1 (bE func205 (eD fu (aR p3 i1) _ z4)) ?_)
   refine gQ 2 ?_;refine bC H (fun h6 H=>gE 4) fun h6 H=>?_;exact gE 6
  exact gE 0
 rintro⟨⟩ H
 exact gE 4
def TN(fu:Nat)(p3:LB):Nat→Unit→Option (LR Unit Bool):=fun i1 _=>gd ((0:Int)≤0∧(0:Int)≤(i1:Int)∧(i1:Int)≤(p3.length:Int)) (bd (lD fu (List.drop (0:Int).toNat (List.take (i1:Int).toNat p3)) (aR p3 i1)) fun x6=>sw x6 (some (.ret false)) (some (.next ())))
def kU(fu:Nat)(p3:LB):Option Bool:=so (loopN (TN fu p3) (p3.length-0) 0 ()) fun _=>some true
theorem mH(fu:Nat)(p3:LB)(r:Bool)(H:kU fu p3=some r):bQ Tryz.prog 207 [rS p3] (pB r):=by
 refine qJ func207 H (fun C hC H=>?_)
 refine gQ 9 ?_;refine gP 0 (bV _) (fun hl2=>?_)
 refine bS (σ:=Unit) (fun i1 _=>⟨[(0,rS p3),(2,pB false),(3,pN i1)],⟨[],[]⟩⟩) (fun _=>⟨[(2,pB false)],⟨[],[]⟩⟩) (eM H) ?_ ?_
 ·rintro i1 ⟨⟩ H
  refine gQ 8 ?_;refine cS H (fun h3 h3l H=>?_) (fun h3 H=>?_)
  ·refine gQ 4 ?_;refine cF H fun z4 H=>(bK H fun x6 z5 H=>(dW (dI [0] bF (dI [3] bF ?_))))
   refine dI [10,11] (bB.congrP (bB.sliceR (es:=aY (p3)) (l:=0) (k:=(i1:Int)) rfl rfl rfl rfl rfl (by rw [bV];exact rfl) (by rw [bV];exact z4) aiC.h) (ahK _ _ _)) ?_;refine dI [0] bF (dI [3] bF (dI [13,14] qQ (dI [15] vQ (dI [12,16] (bE func153 (mJ fu (List.drop (0:Int).toNat (List.take (i1:Int).toNat p3)) (aR p3 i1) _ z5)) (dN ?_)))))
   refine bC H (fun h7 H=>gE 4) fun h7 H=>?_;exact gE 6
  exact gE 0
 rintro⟨⟩ H
 exact gE 4
def ahD(m:ByteArray→Option aA):Prop:= ∀(ps:ByteArray) (r:aA),m ps=some r→A0 Tryz.prog 137 [pS ps] ⟨[],[]⟩ [] 30 3 (aA.trs (r.aCa)) (fun k=> .agg [pI r.aCb,pS r.aB9,fK r.aCa k])
theorem kF{m:ByteArray→Option aA}(h:ahD m)(ps:ByteArray)(r:aA)(H:m ps=some r):bQ Tryz.prog 137 [pS ps] ((aA.pv r):PV):=(h ps r H).plain (fun _=>jK) (hp:=VU)
def l7(fu:Nat)(ps:ByteArray):Option aA:=some (aA.mk 1 ps [])
theorem jJ(fu:Nat):ahD (l7 fu):=by
 intro ps r H
 unfold A0
 refine qJ func137 H (fun C hC H=>?_)
 refine gQ 10 ?_;refine cV.wk (Wk.regBox (k:=0) (j:=2) 30 3 (by decide) rfl rfl) (cV.ret ?_)
 obtain rfl:_=r:=(vP H:)
 exact V4 (st':=⟨[],[⟨30,3,aA.trs ([]),false⟩]⟩) ⟨0,rfl,rfl,rfl⟩ (hr:=⟨⟨_,_,_,rfl,rfl,G6.h,rfl,rfl⟩,trivial⟩)
def ag8(m:ByteArray→(List aA)→Option aA):Prop:= ∀(ps:ByteArray) (pE:List aA) (r:aA),m ps pE=some r→A0 Tryz.prog 47 [pS ps,aT pE] ⟨[],[]⟩ [] 30 3 (aA.trs (r.aCa)) (fun k=> .agg [pI r.aCb,pS r.aB9,fK r.aCa k])
theorem lS{m:ByteArray→(List aA)→Option aA}(h:ag8 m)(ps:ByteArray)(pE:List aA)(r:aA)(H:m ps pE=some r):bQ Tryz.prog 47 [pS ps,aT pE] ((aA.pv r):PV):=(h ps pE r H).plain (fun _=>jK) (hp:=VU)
def eK(fu:Nat)(ps:ByteArray)(pE:List aA):Option aA:=gd (([]:List aA).length+(pE).length≤68719476736) (some (aA.mk 2 ps (([])++pE)))
theorem fA(fu:Nat):ag8 (eK fu):=by
 intro ps pE r H
 unfold A0
 refine qJ func47 H (fun C hC H=>?_)
 refine gQ 7 ?_;refine q1 (qP ([]:List aA)) (q1 bF (cF H fun z1 H=>(q1 (lE z1) ?_)))
 refine gQ 3 ?_;refine cV.ret ?_
 obtain rfl:_=r:=(vP H:)
 exact V4 (st':=⟨[],[⟨30,3,aA.trs (([])++pE),false⟩]⟩) ⟨0,rfl,rfl,rfl⟩ (hr:=⟨⟨_,_,_,rfl,rfl,G6.h,rfl,rfl⟩,trivial⟩)
abbrev J7:=aB→Option aA
def UL(m:J7):Prop:= ∀(p1:aB) (r:aA),m p1=some r→bQ Tryz.prog 219 [(aB.pv p1)] ((aA.pv r):PV)
def aoU(fu:Nat)(pG:J7)(p1:aB):Nat→((List aA))→Option (LR ((List aA)) aA):=fun i11 v13=>bd (pG (aR p1.aCc i11)) fun x17=>gd ((v13).length+(([x17]:List aA)).length≤68719476736) (some (.next (v13++([x17]:List aA))))
def adV(fu:Nat)(pG:J7)(p1:aB):Option aA:=sw (!decide (p1.aCf=s_)) (gd (0<(p1.aCf).size) (sw (decide ((((FF p1.aCf 0).toNat:Int):Int)=39)) (gd ((0:Int)≤1∧(1:Int)≤(p1.aCf.size:Int)∧(p1.aCf.size:Int)≤(p1.aCf.size:Int)) (bd (l7 fu (p1.aCf.extract (1:Int).toNat (p1.aCf.size:Int).toNat)) fun x6=>some x6)) (bd (eK fu p1.aCf ([])) fun x8=>some x8))) (sw (decide ((p1.aCc.length:Int)<2)) (some (aA.mk 0 s_ [])) (gd (0<(p1.aCc).length) (so (loopN (aoU fu pG p1) (p1.aCc.length-1) 1 ([])) fun v13=>sw (decide ((aR p1.aCc 0).aCf=fM)) (sw (decide ((v13.length:Int)=2)) (gd (1<(p1.aCc).length) (sw (!decide ((aR p1.aCc 1).aCf=s_)) (gd ((0:Int)≤1∧(1:Int)≤(v13.length:Int)∧(v13.length:Int)≤(v13.length:Int)) (some (aA.mk 3 ((aR p1.aCc 1).aCf) (List.drop (1:Int).toNat (List.take (v13.length:Int).toNat v13))))) (sw (decide ((aR p1.aCc 0).aCf=zP)) (some (aA.mk 2 ((aR p1.aCc 0).aCf) v13)) (some (aA.mk 2 ((aR p1.aCc 0).aCf) v13))))) (sw (decide ((aR p1.aCc 0).aCf=zP)) (sw (decide ((v13.length:Int)=1)) (gd (1<(p1.aCc).length) (sw (!decide ((aR p1.aCc 1).aCf=s_)) (some (aA.mk 4 ((aR p1.aCc 1).aCf) [])) (some (aA.mk 2 ((aR p1.aCc 0).aCf) v13)))) (some (aA.mk 2 ((aR p1.aCc 0).aCf) v13))) (some (aA.mk 2 ((aR p1.aCc 0).aCf) v13)))) (sw (decide ((aR p1.aCc 0).aCf=zP)) (sw (decide ((v13.length:Int)=1)) (gd (1<(p1.aCc).length) (sw (!decide ((aR p1.aCc 1).aCf=s_)) (some (aA.mk 4 ((aR p1.aCc 1).aCf) [])) (some (aA.mk 2 ((aR p1.aCc 0).aCf) v13)))) (some (aA.mk 2 ((aR p1.aCc 0).aCf) v13))) (some (aA.mk 2 ((aR p1.aCc 0).aCf) v13))))))
theorem akD(fu:Nat)(pG:J7)(pQ:UL pG):UL (adV fu pG):=by
 intro p1 r H
 refine qJ func219 H (fun C hC H=>?_)
 refine gQ 2 ?_;refine q1 (fD ([pS p1.aCf,bG p1.aCc])) ?_;refine gQ 9 ?_;refine bC H (fun h1 H=>?_) (fun h1 H=>?_)
 ·refine gQ 5 ?_;refine cF H fun z2 H=>(q1 (bB.indexS (k:=0) rfl rfl rfl rfl z2 Tryz.underlying9) ?_)
  refine gQ 2 ?_;refine bC H (fun h3 H=>?_) (fun h3 H=>?_)
  ·refine gQ 4 ?_;refine cF H fun z4 H=>(q1 (bB.sliceS (l:=1) (k:=(p1.aCf.size:Int)) rfl rfl rfl rfl rfl z4 Tryz.underlying9) (bK H fun x6 z5 H=>(q1 (bE func137 (kF (jJ fu) (p1.aCf.extract (1:Int).toNat (p1.aCf.size:Int).toNat) _ z5)) ?_)))
   exact gE 2
  refine gQ 5 ?_;refine bK H fun x8 z7 H=>(q1 (bE func47 (lS (fA fu) p1.aCf ([]) _ z7)) ?_)
  exact gE 2
 refine gQ 9 ?_;refine bC H (fun h9 H=>?_) (fun h9 H=>?_)
 ·have h9n:p1.aCc.length<2:=by have:=of_decide_eq_true h9;omega
  exact gE 5
 refine gQ 5 ?_;refine cF H fun z10 H=>?_;refine gQ 7 ?_;refine q1 (qP ([]:List aA)) ?_;refine gQ 7 ?_;refine gP 21 (aB.trs_len _) (fun hl14=>?_)
 refine bS (σ:=(List aA)) (fun i11 v13=>⟨[(1,.ptr 0 0),(2,.ptr 1 0),(3,pS ((aR p1.aCc 0).aCf)),(4,fK v13 0),(5,pN i11)],⟨[some ⟨189,[pS p1.aCf,bG p1.aCc]⟩,some ⟨30,[pI 0,pS s_,.nil]⟩],[⟨30,3,aA.trs (v13),false⟩]⟩⟩) (fun v13=>⟨[(1,.ptr 0 0),(2,.ptr 1 0),(3,pS ((aR p1.aCc 0).aCf)),(4,fK v13 0)],⟨[some ⟨189,[pS p1.aCf,bG p1.aCc]⟩,some ⟨30,[pI 0,pS s_,.nil]⟩],[⟨30,3,aA.trs (v13),false⟩]⟩⟩) (eM H) ?_ ?_
 ·rintro i11 v13 H
  refine gQ 9 ?_;refine cS H (fun h15 h15l H=>?_) (fun h15 H=>?_)
  ·refine gQ 9 ?_;refine q1 (iK (aB.cs (aR p1.aCc i11))) (bK H fun x17 z16 H=>(q1 (bE func219 (pQ (aR p1.aCc i11) _ z16)) (q1 (hH ([x17]:List aA)) (cF H fun z18 H=>(q1 (lE z18) ?_)))))
   exact gE 7
  exact gE 0
 rintro v13 H
 refine gQ 7 ?_;refine dL 50 H (fun g19 H=>?_) fun g19 H=>?_
 ·refine gQ 5 ?_;refine dL 55 H (fun g20 H=>?_) fun g20 H=>?_
  ·refine gQ 2 ?_;refine cF H fun z21 H=>?_;refine gQ 7 ?_;refine bC H (fun h22 H=>?_) (fun h22 H=>?_)
   ·refine qS (cF H fun z23 H=>(dW (dI [1] bW (dD [63] eE (dI [64] qQ (dI [65] w7 (dI [66] vQ (dI [4] bF ?_))))))))
    refine dI [68] (bB.congrP (bB.sliceR (es:=aA.trs (v13)) (l:=1) (k:=(v13.length:Int)) rfl rfl rfl rfl rfl (by rw [aA.trs_len];exact rfl) (by rw [aA.trs_len];exact z23) anX.h) (aA.trs_part _ _ _)) ?_;refine dI [67,69] r9 (lB [2,70] kG (dN ?_))
    exact gE 0
   refine gQ 5 ?_;refine dL 74 H (fun g24 H=>?_) fun g24 H=>?_
   ·refine gQ 5 ?_
    iterate 6 refine qk (dne (b:=1) g20 (by decide)) ?_
    refine q1 (FX (dne (b:=1) g20 (by decide))) ?_;exact gE 11
   exact gE 23
  refine gQ 15 ?_;refine dL 74 H (fun g25 H=>?_) fun g25 H=>?_
  ·refine gQ 5 ?_;refine dL 79 H (fun g26 H=>?_) fun g26 H=>?_
   ·refine gQ 2 ?_;refine cF H fun z27 H=>?_;refine gQ 7 ?_;refine bC H (fun h28 H=>gE 10) fun h28 H=>?_;exact gE 8
   exact gE 18
  exact gE 23
 refine gQ 20 ?_;refine dL 74 H (fun g29 H=>?_) fun g29 H=>?_
 ·refine gQ 5 ?_;refine dL 79 H (fun g30 H=>?_) fun g30 H=>?_
  ·refine gQ 2 ?_;refine cF H fun z31 H=>?_;refine gQ 7 ?_;refine bC H (fun h32 H=>gE 10) fun h32 H=>?_;exact gE 8
  exact gE 18
 exact gE 23
def m9:Nat→aB→Option aA
 |0,_=>none
 |fu+1,p1=>adV fu (m9 fu) p1
theorem am8(fu:Nat):UL (m9 fu):=by
 induction fu with
 |zero=>exact(fun p1 r H=>by simp only [m9] at H;cases H)
 |succ fu ih=>exact(fun p1 r H=>by simp only [m9] at H;exact akD fu (m9 fu) ih p1 r H)
theorem yJ(fu:Nat):UL (m9 fu):=(am8 fu)
abbrev C6:=aA→Option aB
def UK(m:C6):Prop:= ∀(p1:aA) (r:aB),m p1=some r→bQ Tryz.prog 242 [(aA.pv p1)] ((aB.pv r):PV)
def aoQ(fu:Nat)(p9:C6)(p1:aA):Option (aB⊕Unit):=sw (decide (p1.aCb=1)) (gd ((anD).size+(p1.aB9).size≤1099511627776) (bd (cB fu (anD++p1.aB9)) fun x4=>some (.inl x4))) (sw (decide (p1.aCb=4)) (bd (cB fu zP) fun x7=>bd (cB fu p1.aB9) fun x9=>bd (mK fu ([x7,x9]:List aB)) fun x11=>some (.inl x11)) (sw (decide (p1.aCb=2)) (sw (decide ((p1.aCa.length:Int)=0)) (bd (cB fu p1.aB9) fun x15=>some (.inl x15)) (some (.inr ()))) (some (.inr ()))))
def aoR(fu:Nat)(p9:C6)(p1:aA):Option (aB⊕((List aB))):=sw (decide (p1.aCb=3)) (bd (cB fu fM) fun x20=>gd (([]:List aB).length+(([x20]:List aB)).length≤68719476736) (some (.inr (([])++([x20]:List aB))))) (some (.inr ([])))
def aoS(fu:Nat)(p9:C6)(p1:aA)(v17:List aB)(x23:aB):Nat→((List aB))→Option (LR ((List aB)) aB):=fun i25 v27=>bd (p9 (aR p1.aCa i25)) fun x31=>gd ((v27).length+(([x31]:List aB)).length≤68719476736) (some (.next (v27++([x31]:List aB))))
def adU(fu:Nat)(p9:C6)(p1:aA):Option aB:=so (aoQ fu p9 p1) fun _=>so (aoR fu p9 p1) fun v17=>bd (cB fu p1.aB9) fun x23=>gd ((v17).length+(([x23]:List aB)).length≤68719476736) (so (loopN (aoS fu p9 p1 v17 x23) (p1.aCa.length-0) 0 (v17++([x23]:List aB))) fun v27=>some (aB.mk s_ v27))
theorem akC(fu:Nat)(p9:C6)(pR:UK p9):UK (adU fu p9):=by
 intro p1 r H
 refine qJ func242 H (fun C hC H=>?_)
 refine gQ 2 ?_;refine q1 (fD (bR p1)) ?_;refine gQ 3 ?_;refine n3 (σ:=Unit) (fun _=>⟨[(1,.ptr 0 0),(2,.ptr 1 0)],⟨[some ⟨30,bR p1⟩,some ⟨189,[pS s_,.nil]⟩],[]⟩⟩) (eM H) (fun H=>?_) ?_
 ·refine gQ 8 ?_;refine bC H (fun h1 H=>?_) (fun h1 H=>?_)
  ·refine gQ 4 ?_;refine cF H fun z2 H=>(q1 (bB.addS rfl rfl rfl rfl (Nat.le_trans z2 (by decide))) (bK H fun x4 z3 H=>(q1 (bE func239 (b4 fu (anD++p1.aB9) _ z3)) ?_)))
   exact gE 2
  refine gQ 7 ?_;refine bC H (fun h5 H=>?_) (fun h5 H=>?_)
  ·refine qS (bK H fun x7 z6 H=>(bK H fun x9 z8 H=>(bK H fun x11 z10 H=>(dW (dI [] (bE func239 (b4 fu zP _ z6)) (dI [1] bW (dD [18] eE (dI [19] (bE func239 (b4 fu p1.aB9 _ z8)) (dI [17,20] (hH ([x7,x9]:List aB)) (dI [21] (bE func238 (GG (nH fu) ([x7,x9]:List aB) _ z10)) (lB [2,22] kG (dN ?_))))))))))))
   exact gE 0
  refine gQ 6 ?_;refine dL 27 H (fun g12 H=>?_) fun g12 H=>?_
  ·refine gQ 7 ?_;refine bC H (fun h13 H=>?_) (fun h13 H=>?_)
   ·refine gQ 4 ?_;refine bK H fun x15 z14 H=>(q1 (bE func239 (b4 fu p1.aB9 _ z14)) ?_)
    exact gE 2
   exact gE 1
  exact gE 9
 rintro⟨⟩ H
 refine gQ 7 ?_;refine cV.wk (Wk.regBox (k:=2) (j:=1) 189 2 (by decide) rfl rfl) ?_;refine n3 (σ:=(List aB)) (fun v17=>⟨[(1,.ptr 0 0),(2,.ptr 1 0),(3,.ptr 2 0)],⟨[some ⟨30,bR p1⟩,some ⟨189,[pS s_,.nil]⟩,some ⟨189,[pS s_,eF v17 0]⟩],[⟨189,2,aB.trs (v17),false⟩]⟩⟩) (eM H) (fun H=>?_) ?_
 ·refine gQ 6 ?_;refine bC H (fun h18 H=>?_) (fun h18 H=>?_)
  ·refine bK H fun x20 z19 H=>(cF H fun z21 H=>(dW (dI [3] bW (dD [40] eE (dI [] (bE func239 (b4 fu fM _ z19)) (dI [42] (hH ([x20]:List aB)) (dE [41,43] (lE z21) (dI [3] bW (lB [45,44] kG (dN ?_))))))))))
   exact gE 0
  exact gE 1
 rintro v17 H
 refine qS (bK H fun x23 z22 H=>(cF H fun z24 H=>(dW (dI [3] bW (dD [46] eE (dI [1] bW (dD [48] eE (dI [49] (bE func239 (b4 fu p1.aB9 _ z22)) (dI [50] (hH ([x23]:List aB)) (dE [47,51] (lE z24) (dI [3] bW (lB [53,52] kG (dN ?_)))))))))))))
 refine gQ 5 ?_;refine cV.fact (cI 0 2 rfl rfl rfl (aA.trs_len _)) (fun hl28=>?_)
 refine bS (σ:=(List aB)) (fun i25 v27=>⟨[(1,.ptr 0 0),(2,.ptr 1 0),(3,.ptr 2 0),(4,pN i25)],⟨[some ⟨30,bR p1⟩,some ⟨189,[pS s_,.nil]⟩,some ⟨189,[pS s_,eF v27 0]⟩],[⟨189,2,aB.trs (v27),false⟩]⟩⟩) (fun v27=>⟨[(2,.ptr 1 0),(3,.ptr 2 0)],⟨[some ⟨30,bR p1⟩,some ⟨189,[pS s_,.nil]⟩,some ⟨189,[pS s_,eF v27 0]⟩],[⟨189,2,aB.trs (v27),false⟩]⟩⟩) (eM H) ?_ ?_
 ·rintro i25 v27 H
  refine gQ 9 ?_;refine cS H (fun h29 h29l H=>?_) (fun h29 H=>?_)
  ·refine gQ 3 ?_;refine bK H fun x31 z30 H=>(cF H fun z32 H=>(dW (dI [3] bW (dD [61] eE (dI [1] bW (dD [63] eE (dI [4] bF (dI [64,65] qQ (dI [66] (iK (aA.cs (aR p1.aCa i25))) (dI [67] (bE func242 (pR (aR p1.aCa i25) _ z30)) (dI [68] (hH ([x31]:List aB)) (dE [62,69] (lE z32) (dI [3] bW ?_)))))))))))))
   refine lB [71,70] kG (dN ?_)
   exact gE 5
  exact gE 0
 rintro v27 H
 refine gQ 2 ?_;refine q1 (bZ [pS s_,eF v27 0]) ?_;exact gE 2
def m8:Nat→aA→Option aB
 |0,_=>none
 |fu+1,p1=>adU fu (m8 fu) p1
theorem am7(fu:Nat):UK (m8 fu):=by
 induction fu with
 |zero=>exact(fun p1 r H=>by simp only [m8] at H;cases H)
 |succ fu ih=>exact(fun p1 r H=>by simp only [m8] at H;exact akC fu (m8 fu) ih p1 r H)
theorem yI(fu:Nat):UK (m8 fu):=(am7 fu)
abbrev AZ:=aA→Int→Option Int
def J2(m:AZ):Prop:= ∀(pt:aA) (pD:Int) (r:Int),m pt pD=some r→bQ Tryz.prog 264 [(aA.pv pt),pI pD] (pI r:PV)
def aj3(fu:Nat)(pA:AZ)(pt:aA)(pD:Int):Nat→Int→Option (LR Int Int):=fun i1 v2=>sw (decide (v2≥0)) (bd (pA (aR pt.aCa i1) v2) fun x7=>some (.next x7)) (some (.brk v2))
def R7(fu:Nat)(pA:AZ)(pt:aA)(pD:Int):Option Int:=so (loopN (aj3 fu pA pt pD) (pt.aCa.length-0) 0 (aX (pD-1))) fun v2=>some v2
theorem adR(fu:Nat)(pA:AZ)(pM:J2 pA):J2 (R7 fu pA):=by
 intro pt pD r H
 refine qJ func264 H (fun C hC H=>?_)
 refine gQ 2 ?_;refine q1 (fD (bR pt)) ?_;refine gQ 13 ?_;refine cV.fact (cI 0 2 rfl rfl rfl (aA.trs_len _)) (fun hl3=>?_)
 refine bS (σ:=Int) (fun i1 v2=>⟨[(1,pI v2),(2,.ptr 0 0),(4,pI 0),(5,pN i1)],⟨[some ⟨30,bR pt⟩],[]⟩⟩) (fun v2=>⟨[(1,pI v2),(4,pI 0)],⟨[some ⟨30,bR pt⟩],[]⟩⟩) (eM H) ?_ ?_
 ·rintro i1 v2 H
  refine gQ 9 ?_;refine AL.splitB 13 rfl (fun g4=>?_) (fun g4=>?_)
  ·have g4l:=wO g4
   have H:=lnT g4l H
   have g4n:=AQ g4
   refine gQ 4 ?_;refine bC H (fun h5 H=>?_) (fun h5 H=>?_)
   ·refine gQ 8 ?_;refine q1 (iK (aA.cs (aR pt.aCa i1))) (q1 bF (bK H fun x7 z6 H=>(q1 (bE func264 (pM (aR pt.aCa i1) v2 _ z6)) ?_)))
    exact gE 7
   exact gE 0
  have H:=lnE (wN g4) H
  exact gE 5
 rintro v2 H
 exact gE 5
def qM:Nat→aA→Int→Option Int
 |0,_,_=>none
 |fu+1,pt,pD=>R7 fu (qM fu) pt pD
theorem ahB(fu:Nat):J2 (qM fu):=by
 induction fu with
 |zero=>exact(fun pt pD r H=>by simp only [qM] at H;cases H)
 |succ fu ih=>exact(fun pt pD r H=>by simp only [qM] at H;exact adR fu (qM fu) ih pt pD r H)
theorem aj5(fu:Nat):J2 (qM fu):=(ahB fu)
abbrev sP:=aA→Option Int
def AA(m:sP):Prop:= ∀(pt:aA) (r:Int),m pt=some r→bQ Tryz.prog 265 [(aA.pv pt)] (pI r:PV)
def Y1(fu:Nat)(p7:sP)(pt:aA):Nat→Int→Option (LR Int Int):=fun i1 v2=>bd (p7 (aR pt.aCa i1)) fun x6=>bd (PC fu v2 (aX (1+x6))) fun x8=>some (.next x8)
def F2(fu:Nat)(p7:sP)(pt:aA):Option Int:=so (loopN (Y1 fu p7 pt) (pt.aCa.length-0) 0 0) fun v2=>some v2
theorem TZ(fu:Nat)(p7:sP)(pL:AA p7):AA (F2 fu p7):=by
 intro pt r H
 refine qJ func265 H (fun C hC H=>?_)
 refine gQ 2 ?_;refine q1 (fD (bR pt)) ?_;refine gQ 11 ?_;refine cV.fact (cI 0 2 rfl rfl rfl (aA.trs_len _)) (fun hl3=>?_)
 refine bS (σ:=Int) (fun i1 v2=>⟨[(1,.ptr 0 0),(2,pI 0),(3,pI v2),(4,pN i1)],⟨[some ⟨30,bR pt⟩],[]⟩⟩) (fun v2=>⟨[(2,pI 0),(3,pI v2)],⟨[some ⟨30,bR pt⟩],[]⟩⟩) (eM H) ?_ ?_
 ·rintro i1 v2 H
  refine gQ 9 ?_;refine cS H (fun h4 h4l H=>?_) (fun h4 H=>?_)
  ·refine gQ 9 ?_;refine q1 (iK (aA.cs (aR pt.aCa i1))) (bK H fun x6 z5 H=>(q1 (bE func265 (pL (aR pt.aCa i1) _ z5)) (q1 rAw (bK H fun x8 z7 H=>(q1 (bE func215 (aaT fu v2 (aX (1+x6)) _ z7)) ?_)))))
   exact gE 7
  exact gE 0
 rintro v2 H
 exact gE 5
def kK:Nat→aA→Option Int
 |0,_=>none
 |fu+1,pt=>F2 fu (kK fu) pt
theorem WU(fu:Nat):AA (kK fu):=by
 induction fu with
 |zero=>exact(fun pt r H=>by simp only [kK] at H;cases H)
 |succ fu ih=>exact(fun pt r H=>by simp only [kK] at H;exact TZ fu (kK fu) ih pt r H)
theorem Y3(fu:Nat):AA (kK fu):=(WU fu)
def AY(fu:Nat)(ps:ByteArray):Option Bool:=sw (decide (ps=dR)) (some true) (some (decide (ps=dP)))
theorem M5(fu:Nat)(ps:ByteArray)(r:Bool)(H:AY fu ps=some r):bQ Tryz.prog 108 [pS ps] (pB r):=by
 refine qJ func108 H (fun C hC H=>?_)
 refine gQ 9 ?_;refine dL 5 H (fun g1 H=>gE 5) fun g1 H=>?_;exact gE 5
abbrev uN:=aA→Option Bool
def J1(m:uN):Prop:= ∀(p1:aA) (r:Bool),m p1=some r→bQ Tryz.prog 266 [(aA.pv p1)] (pB r:PV)
def XL(fu:Nat)(p6:uN)(p1:aA)(x2:Bool):Option ((Bool⊕Bool)⊕Bool):=sw (decide (p1.aCb=1)) (some (.inr (decide (p1.aCb=1)))) (some (.inr (decide (p1.aCb=4))))
def XK(fu:Nat)(p6:uN)(p1:aA)(x2:Bool):Option (Bool⊕Bool):=so (XL fu p6 p1 x2) fun v4=>sw (v4) (sw x2 (some (.inr (decide ((p1.aCa.length:Int)=0)))) (some (.inr false))) (sw (decide (p1.aCb=3)) (sw x2 (some (.inr (decide ((p1.aCa.length:Int)=1)))) (some (.inr false))) (sw (decide (p1.aCb=2)) (sw x2 (sw (decide ((p1.aCa.length:Int)≤3)) (some (.inr true)) (bd (AY fu p1.aB9) fun x14=>sw x14 (some (.inr (decide ((p1.aCa.length:Int)=0)))) (some (.inr false)))) (bd (AY fu p1.aB9) fun x17=>sw x17 (some (.inr (decide ((p1.aCa.length:Int)=0)))) (some (.inr false)))) (some (.inl false))))
def XM(fu:Nat)(p6:uN)(p1:aA)(x2 v3:Bool):Nat→Bool→Option (LR Bool Bool):=fun i19 v20=>sw (v20) (bd (p6 (aR p1.aCa i19)) fun x25=>some (.next x25)) (some (.next false))
def J0(fu:Nat)(p6:uN)(p1:aA):Option Bool:=bd (c7 fu p1.aB9) fun x2=>so (XK fu p6 p1 x2) fun v3=>so (loopN (XM fu p6 p1 x2 v3) (p1.aCa.length-0) 0 v3) fun v20=>some v20
theorem adQ(fu:Nat)(p6:uN)(pO:J1 p6):J1 (J0 fu p6):=by
 intro p1 r H
 refine qJ func266 H (fun C hC H=>?_)
 refine gQ 2 ?_;refine q1 (fD (bR p1)) ?_;refine gQ 6 ?_;refine bK H fun x2 z1 H=>(q1 (bE func205 (eD fu p1.aB9 _ z1)) ?_)
 refine gQ 3 ?_;refine n3 (σ:=Bool) (fun v3=>⟨[(1,.ptr 0 0),(2,pB false),(3,pB v3)],⟨[some ⟨30,bR p1⟩],[]⟩⟩) (eM H) (fun H=>?_) ?_
 ·refine gQ 7 ?_;refine n3 (σ:=Bool) (fun v4=>⟨[(1,.ptr 0 0),(2,pB false),(3,pB x2),(9,pI p1.aCb),(10,pB v4)],⟨[some ⟨30,bR p1⟩],[]⟩⟩) (eM H) (fun H=>?_) ?_
  ·refine gQ 5 ?_;refine bC H (fun h5 H=>gE 1) fun h5 H=>?_;exact gE 4
  rintro v4 H
  refine bC H (fun h6 H=>?_) (fun h6 H=>?_)
  ·refine gQ 3 ?_;refine dL 14 H (fun g7 H=>gE 7) fun g7 H=>?_;exact gE 7
  refine gQ 5 ?_;refine bC H (fun h8 H=>?_) (fun h8 H=>?_)
  ·refine gQ 3 ?_;refine dL 23 H (fun g9 H=>gE 7) fun g9 H=>?_;exact gE 7
  refine gQ 5 ?_;refine bC H (fun h10 H=>?_) (fun h10 H=>?_)
  ·refine gQ 3 ?_;refine dL 32 H (fun g11 H=>?_) fun g11 H=>?_
   ·refine gQ 6 ?_;refine dL 38 H (fun g12 H=>gE 12) fun g12 H=>?_;refine gQ 2 ?_;refine bK H fun x14 z13 H=>(qg g12 (bE func108 (M5 fu p1.aB9 _ z13)) (qg g12 bF ?_))
    refine dL 42 H (fun g15 H=>gE 8) fun g15 H=>?_;exact gE 8
   refine gQ 8 ?_;refine bK H fun x17 z16 H=>(qg rfl (bE func108 (M5 fu p1.aB9 _ z16)) (qg rfl bF ?_))
   refine dL 42 H (fun g18 H=>gE 8) fun g18 H=>?_;exact gE 8
  exact gE 4
 rintro v3 H
 refine gQ 5 ?_;refine cV.fact (cI 0 2 rfl rfl rfl (aA.trs_len _)) (fun hl21=>?_)
 refine bS (σ:=Bool) (fun i19 v20=>⟨[(1,.ptr 0 0),(2,pB false),(3,pB v20),(4,pN i19)],⟨[some ⟨30,bR p1⟩],[]⟩⟩) (fun v20=>⟨[(2,pB false),(3,pB v20)],⟨[some ⟨30,bR p1⟩],[]⟩⟩) (eM H) ?_ ?_
 ·rintro i19 v20 H
  refine gQ 9 ?_;refine cS H (fun h22 h22l H=>?_) (fun h22 H=>?_)
  ·refine gQ 6 ?_;refine dL 57 H (fun g23 H=>?_) fun g23 H=>?_
   ·refine gQ 4 ?_;refine qg g23 (iK (aA.cs (aR p1.aCa i19))) (bK H fun x25 z24 H=>(qg g23 (bE func266 (pO (aR p1.aCa i19) _ z24)) ?_))
    exact gE 8
   exact gE 14
  exact gE 0
 rintro v20 H
 exact gE 5
def lT:Nat→aA→Option Bool
 |0,_=>none
 |fu+1,p1=>J0 fu (lT fu) p1
theorem ahA(fu:Nat):J1 (lT fu):=by
 induction fu with
 |zero=>exact(fun p1 r H=>by simp only [lT] at H;cases H)
 |succ fu ih=>exact(fun p1 r H=>by simp only [lT] at H;exact adQ fu (lT fu) ih p1 r H)
theorem aj2(fu:Nat):J1 (lT fu):=(ahA fu)
def iI(fu:Nat)(pt:aA):Option Bool:=bd (qM fu pt 60) fun x2=>sw (decide (x2≥0)) (bd (kK fu pt) fun x5=>sw (decide (x5≤6)) (bd (lT fu pt) fun x8=>some x8) (some false)) (some false)
theorem mI(fu:Nat)(pt:aA)(r:Bool)(H:iI fu pt=some r):bQ Tryz.prog 258 [(aA.pv pt)] (pB r):=by
 refine qJ func258 H (fun C hC H=>?_)
 refine gQ 2 ?_;refine q1 (fD (bR pt)) ?_;refine gQ 4 ?_;refine q1 (bZ [pI pt.aCb,pS pt.aB9,aT pt.aCa]) (bK H fun x2 z1 H=>(q1 (bE func264 (aj5 fu pt 60 _ z1)) ?_))
 refine gQ 2 ?_;refine dL 6 H (fun g3 H=>?_) fun g3 H=>?_
 ·refine qg g3 (bZ [pI pt.aCb,pS pt.aB9,aT pt.aCa]) (bK H fun x5 z4 H=>(qg g3 (bE func265 (Y3 fu pt _ z4)) ?_))
  refine gQ 3 ?_;refine dL 11 H (fun g6 H=>?_) fun g6 H=>?_
  ·refine qg g6 (bZ [pI pt.aCb,pS pt.aB9,aT pt.aCa]) (bK H fun x8 z7 H=>(qg g6 (bE func266 (aj2 fu pt _ z7)) ?_))
   exact gE 3
  exact gE 5
 exact gE 10
abbrev kJ:=aA→aA→Option Bool
abbrev qO:=(List aA)→(List aA)→Option Bool
def vF(m:kJ):Prop:= ∀(pa:aA) (pb:aA) (r:Bool),m pa pb=some r→bQ Tryz.prog 38 [(aA.pv pa),(aA.pv pb)] (pB r:PV)
def J3(m:qO):Prop:= ∀(pa:List aA) (pb:List aA) (r:Bool),m pa pb=some r→bQ Tryz.prog 92 [aT pa,aT pb] (pB r:PV)
def z0(fu:Nat)(p2:kJ)(p5:qO)(pa pb:aA):Option Bool:=sw (decide (pa.aCb=pb.aCb)) (sw (decide (pa.aB9=pb.aB9)) (bd (p5 pa.aCa pb.aCa) fun x4=>some x4) (some false)) (some false)
theorem TS(fu:Nat)(p2:kJ)(p5:qO)(pH:vF p2)(pK:J3 p5):vF (z0 fu p2 p5):=by
 intro pa pb r H
 refine qJ func38 H (fun C hC H=>?_)
 refine gQ 2 ?_;refine q1 (fD (bR pa)) (q1 (fD (bR pb)) ?_)
 refine gQ 10 ?_;refine dL 10 H (fun g1 H=>?_) fun g1 H=>?_
 ·refine gQ 7 ?_;refine dL 17 H (fun g2 H=>?_) fun g2 H=>?_
  ·refine gQ 4 ?_;refine bK H fun x4 z3 H=>(qg g2 (bE func92 (pK pa.aCa pb.aCa _ z3)) ?_)
   exact gE 3
  exact gE 8
 exact gE 15
def M7(fu:Nat)(p2:kJ)(p5:qO)(pa pb:List aA):Nat→Unit→Option (LR Unit Bool):=fun i2 _=>gd (i2<(pb).length) (bd (p2 (aR pa i2) (aR pb i2)) fun x7=>sw (!(x7)) (some (.ret false)) (some (.next ())))
def M8(fu:Nat)(p2:kJ)(p5:qO)(pa pb:List aA):Option (Bool⊕Unit):=loopN (M7 fu p2 p5 pa pb) (pa.length-0) 0 ()
def E6(fu:Nat)(p2:kJ)(p5:qO)(pa pb:List aA):Option Bool:=sw (!decide ((pa.length:Int)=(pb.length:Int))) (some false) (so (M8 fu p2 p5 pa pb) fun _=>some true)
theorem adS(fu:Nat)(p2:kJ)(p5:qO)(pH:vF p2)(pK:J3 p5):J3 (E6 fu p2 p5):=by
 intro pa pb r H
 refine qJ func92 H (fun C hC H=>?_)
 refine gQ 13 ?_;refine bC H (fun h1 H=>gE 4) fun h1 H=>?_;refine gQ 6 ?_;refine gP 0 (aA.trs_len _) (fun hl3=>?_)
 refine bS (σ:=Unit) (fun i2 _=>⟨[(0,aT pa),(1,aT pb),(4,pB false),(5,pN i2)],⟨[],[]⟩⟩) (fun _=>⟨[(4,pB false)],⟨[],[]⟩⟩) (eM H) ?_ ?_
 ·rintro i2 ⟨⟩ H
  refine gQ 8 ?_;refine cS H (fun h4 h4l H=>?_) (fun h4 H=>?_)
  ·refine gQ 4 ?_;refine cF H fun z5 H=>(bK H fun x7 z6 H=>(dW (dI [0] bF (dI [5] bF (dI [17,18] qQ (dI [19] (iK (aA.cs (aR pa i2))) (dI [1] bF (dI [5] bF (dI [21,22] qQ (dI [23] (iK (aA.cs (aR pb i2))) (dI [20,24] (bE func38 (pH (aR pa i2) (aR pb i2) _ z6)) (dI [25] JN (dN ?_)))))))))))))
   refine bC H (fun h8 H=>gE 4) fun h8 H=>?_;exact gE 6
  exact gE 0
 rintro⟨⟩ H
 exact gE 4
mutual
def fI:Nat→aA→aA→Option Bool
 |0,_,_=>none
 |fu+1,pa,pb=>z0 fu (fI fu) (k8 fu) pa pb
def k8:Nat→(List aA)→(List aA)→Option Bool
 |0,_,_=>none
 |fu+1,pa,pb=>E6 fu (fI fu) (k8 fu) pa pb
end
theorem WG(fu:Nat):vF (fI fu)∧J3 (k8 fu):=by
 induction fu with
 |zero=>exact⟨(fun pa pb r H=>by simp only [fI] at H;cases H),(fun pa pb r H=>by simp only [k8] at H;cases H)⟩
 |succ fu ih=>exact⟨(fun pa pb r H=>by simp only [fI] at H;exact TS fu (fI fu) (k8 fu) ih.1 ih.2 pa pb r H),(fun pa pb r H=>by simp only [k8] at H;exact adS fu (fI fu) (k8 fu) ih.1 ih.2 pa pb r H)⟩
theorem K4(fu:Nat):vF (fI fu):=(WG fu).1
abbrev w5:=aA→(LB)→Option ((LB))
def J6(m:w5):Prop:= ∀(pt:aA) (pC:LB) (r:(LB)),m pt pC=some r→b6 Tryz.prog 136 [(aA.pv pt),aS pC 0] ⟨[],[⟨9,1,aY (pC),false⟩]⟩ (fun q t=>q=(aS r 0:PV)∧t=⟨[],[⟨9,1,aY (r),false⟩]⟩)
def M9(fu:Nat)(p8:w5)(pt:aA)(pC:LB):Option (((LB))⊕((LB))):=sw (decide (pt.aCb=1)) (bd (lD fu pC pt.aB9) fun x5=>sw (!(x5)) (gd ((pC).length+(([pt.aB9]:LB)).length≤68719476736) (some (.inr (pC++([pt.aB9]:LB))))) (some (.inr pC))) (some (.inr pC))
def XO(fu:Nat)(p8:w5)(pt:aA)(pC v2:LB):Nat→((LB))→Option (LR ((LB)) ((LB))):=fun i8 v10=>bd (p8 (aR pt.aCa i8) v10) fun x14=>some (.next x14)
def J5(fu:Nat)(p8:w5)(pt:aA)(pC:LB):Option ((LB)):=so (M9 fu p8 pt pC) fun v2=>so (loopN (XO fu p8 pt pC v2) (pt.aCa.length-0) 0 v2) fun v10=>some v10
theorem adT(fu:Nat)(p8:w5)(pP:J6 p8):J6 (J5 fu p8):=by
 intro pt pC r H
 refine qJ func136 H (fun C hC H=>?_)
 refine gQ 2 ?_;refine q1 (fD (bR pt)) ?_;refine gQ 3 ?_;refine n3 (σ:=(LB)) (fun v2=>⟨[(1,aS v2 0),(2,.ptr 0 0),(4,.nil)],⟨[some ⟨30,bR pt⟩],[⟨9,1,aY (v2),false⟩]⟩⟩) (eM H) (fun H=>?_) ?_
 ·refine gQ 6 ?_;refine dL 9 H (fun g3 H=>?_) fun g3 H=>?_
  ·refine gQ 3 ?_;refine bK H fun x5 z4 H=>(qg g3 (bE func153 (mJ fu pC pt.aB9 _ z4)) ?_)
   refine gQ 3 ?_;refine bC H (fun h6 H=>?_) (fun h6 H=>?_)
   ·refine gQ 4 ?_;refine q1 (hH ([pt.aB9]:LB)) (cF H fun z7 H=>(q1 (lE z7) ?_))
    exact gE 2
   exact gE 1
  exact gE 9
 rintro v2 H
 refine gQ 5 ?_;refine cV.fact (cI 0 2 rfl rfl rfl (aA.trs_len _)) (fun hl11=>?_)
 refine bS (σ:=(LB)) (fun i8 v10=>⟨[(1,aS v10 0),(2,.ptr 0 0),(4,.nil),(5,pN i8)],⟨[some ⟨30,bR pt⟩],[⟨9,1,aY (v10),false⟩]⟩⟩) (fun v10=>⟨[(1,aS v10 0),(4,.nil)],⟨[some ⟨30,bR pt⟩],[⟨9,1,aY (v10),false⟩]⟩⟩) (eM H) ?_ ?_
 ·rintro i8 v10 H
  refine gQ 9 ?_;refine cS H (fun h12 h12l H=>?_) (fun h12 H=>?_)
  ·refine gQ 8 ?_;refine q1 (iK (aA.cs (aR pt.aCa i8))) (q1 bF (bK H fun x14 z13 H=>(q1 (eW [] [0] func136 (pP (aR pt.aCa i8) v10 _ z13)) ?_)))
   exact gE 7
  exact gE 0
 rintro v10 H
 exact gE 5
def lU:Nat→aA→(LB)→Option ((LB))
 |0,_,_=>none
 |fu+1,pt,pC=>J5 fu (lU fu) pt pC
theorem ahE(fu:Nat):J6 (lU fu):=by
 induction fu with
 |zero=>exact(fun pt pC r H=>by simp only [lU] at H;cases H)
 |succ fu ih=>exact(fun pt pC r H=>by simp only [lU] at H;exact adT fu (lU fu) ih pt pC r H)
theorem akB(fu:Nat):J6 (lU fu):=(ahE fu)
def nU(fu:Nat)(pt:aA):Option ((LB)):=bd (lU fu pt ([])) fun x2=>some x2
theorem CW(fu:Nat)(pt:aA)(r:(LB))(H:nU fu pt=some r):bQ Tryz.prog 85 [(aA.pv pt)] (rS r):=by
 refine qJ func85 H (fun C hC H=>?_)
 refine gQ 2 ?_;refine q1 (fD (bR pt)) ?_;refine gQ 4 ?_;refine q1 (bZ [pI pt.aCb,pS pt.aB9,aT pt.aCa]) (q1 (qP ([]:LB)) (bK H fun x2 z1 H=>(q1 (eW [] [0] func136 (akB fu pt ([]) _ z1)) ?_)))
 exact gE 2
abbrev lQ:=aA→Option Bool
def sO(m:lQ):Prop:= ∀(pt:aA) (r:Bool),m pt=some r→bQ Tryz.prog 86 [(aA.pv pt)] (pB r:PV)
def CQ(fu:Nat)(p4:lQ)(pt:aA):Nat→Unit→Option (LR Unit Bool):=fun i1 _=>bd (p4 (aR pt.aCa i1)) fun x5=>sw x5 (some (.ret true)) (some (.next ()))
def sN(fu:Nat)(p4:lQ)(pt:aA):Option Bool:=so (loopN (CQ fu p4 pt) (pt.aCa.length-0) 0 ()) fun _=>some (decide (pt.aCb=3))
theorem KL(fu:Nat)(p4:lQ)(pJ:sO p4):sO (sN fu p4):=by
 intro pt r H
 refine qJ func86 H (fun C hC H=>?_)
 refine gQ 2 ?_;refine q1 (fD (bR pt)) ?_;refine gQ 7 ?_;refine cV.fact (cI 0 2 rfl rfl rfl (aA.trs_len _)) (fun hl2=>?_)
 refine bS (σ:=Unit) (fun i1 _=>⟨[(1,.ptr 0 0),(2,pB false),(3,pN i1)],⟨[some ⟨30,bR pt⟩],[]⟩⟩) (fun _=>⟨[(1,.ptr 0 0),(2,pB false)],⟨[some ⟨30,bR pt⟩],[]⟩⟩) (eM H) ?_ ?_
 ·rintro i1 ⟨⟩ H
  refine gQ 9 ?_;refine cS H (fun h3 h3l H=>?_) (fun h3 H=>?_)
  ·refine gQ 9 ?_;refine q1 (iK (aA.cs (aR pt.aCa i1))) (bK H fun x5 z4 H=>(q1 (bE func86 (pJ (aR pt.aCa i1) _ z4)) (qN ?_)))
   refine bC H (fun h6 H=>gE 4) fun h6 H=>?_;exact gE 6
  exact gE 0
 rintro⟨⟩ H
 exact gE 7
def dM:Nat→aA→Option Bool
 |0,_=>none
 |fu+1,pt=>sN fu (dM fu) pt
theorem MO(fu:Nat):sO (dM fu):=by
 induction fu with
 |zero=>exact(fun pt r H=>by simp only [dM] at H;cases H)
 |succ fu ih=>exact(fun pt r H=>by simp only [dM] at H;exact KL fu (dM fu) ih pt r H)
theorem vG(fu:Nat):sO (dM fu):=(MO fu)
abbrev gG:=aA→ByteArray→Option Int
def mX(m:gG):Prop:= ∀(pt:aA) (pv:ByteArray) (r:Int),m pt pv=some r→bQ Tryz.prog 260 [(aA.pv pt),pS pv] (pI r:PV)
def G2(fu:Nat)(p0:gG)(pt:aA)(pv:ByteArray):Option (Int⊕Int):=sw (decide (pt.aCb=1)) (sw (decide (pt.aB9=pv)) (some (.inr 1)) (some (.inr 0))) (some (.inr 0))
def G3(fu:Nat)(p0:gG)(pt:aA)(pv:ByteArray)(v1:Int):Nat→Int→Option (LR Int Int):=fun i4 v5=>bd (p0 (aR pt.aCa i4) pv) fun x9=>some (.next (aX (v5+x9)))
def rW(fu:Nat)(p0:gG)(pt:aA)(pv:ByteArray):Option Int:=so (G2 fu p0 pt pv) fun v1=>so (loopN (G3 fu p0 pt pv v1) (pt.aCa.length-0) 0 v1) fun v5=>some v5
theorem EU(fu:Nat)(p0:gG)(pF:mX p0):mX (rW fu p0):=by
 intro pt pv r H
 refine qJ func260 H (fun C hC H=>?_)
 refine gQ 2 ?_;refine q1 (fD (bR pt)) ?_;refine gQ 7 ?_;refine n3 (σ:=Int) (fun v1=>⟨[(1,pS pv),(2,.ptr 0 0),(4,pI 0),(5,pI v1)],⟨[some ⟨30,bR pt⟩],[]⟩⟩) (eM H) (fun H=>?_) ?_
 ·refine gQ 6 ?_;refine dL 10 H (fun g2 H=>?_) fun g2 H=>?_
  ·refine gQ 6 ?_;refine bC H (fun h3 H=>gE 3) fun h3 H=>?_;exact gE 1
  exact gE 8
 rintro v1 H
 refine gQ 5 ?_;refine cV.fact (cI 0 2 rfl rfl rfl (aA.trs_len _)) (fun hl6=>?_)
 refine bS (σ:=Int) (fun i4 v5=>⟨[(1,pS pv),(2,.ptr 0 0),(4,pI 0),(5,pI v5),(6,pN i4)],⟨[some ⟨30,bR pt⟩],[]⟩⟩) (fun v5=>⟨[(4,pI 0),(5,pI v5)],⟨[some ⟨30,bR pt⟩],[]⟩⟩) (eM H) ?_ ?_
 ·rintro i4 v5 H
  refine gQ 9 ?_;refine cS H (fun h7 h7l H=>?_) (fun h7 H=>?_)
  ·refine gQ 9 ?_;refine q1 (iK (aA.cs (aR pt.aCa i4))) (q1 bF (bK H fun x9 z8 H=>(q1 (bE func260 (pF (aR pt.aCa i4) pv _ z8)) ?_)))
   exact gE 8
  exact gE 0
 rintro v5 H
 exact gE 5
def eB:Nat→aA→ByteArray→Option Int
 |0,_,_=>none
 |fu+1,pt,pv=>rW fu (eB fu) pt pv
theorem FZ(fu:Nat):mX (eB fu):=by
 induction fu with
 |zero=>exact(fun pt pv r H=>by simp only [eB] at H;cases H)
 |succ fu ih=>exact(fun pt pv r H=>by simp only [eB] at H;exact EU fu (eB fu) ih pt pv r H)
theorem G5(fu:Nat):mX (eB fu):=(FZ fu)
def IK(fu:Nat)(pv:ByteArray)(pt:aA):Option Bool:=bd (eB fu pt pv) fun x2=>some (decide (x2>0))
theorem acL(fu:Nat)(pv:ByteArray)(pt:aA)(r:Bool)(H:IK fu pv pt=some r):bQ Tryz.prog 250 [pS pv,(aA.pv pt)] (pB r):=by
 refine qJ func250 H (fun C hC H=>?_)
 refine gQ 2 ?_;refine q1 (fD (bR pt)) ?_;refine gQ 4 ?_;refine q1 (bZ [pI pt.aCb,pS pt.aB9,aT pt.aCa]) (q1 bF (bK H fun x2 z1 H=>(q1 (bE func260 (G5 fu pt pv _ z1)) ?_)))
 exact gE 3
end
end Go.Proofs.YtfcoaagbccmahaaGreat.W

namespace Go.Proofs.YtfcoaagbccmahaaGreat.W
set_option maxRecDepth 100000
set_option maxHeartbeats 40000000
noncomputable section
open Tryz Go.RowKit Go.Proofs
attribute [local irreducible] lt
def K5(fu:Nat)(pn:Int):(Int×ByteArray)→Option (LR (Int×ByteArray) ByteArray):=fun(v2,v3)=>sw (!decide (v2=0)) (sw (decide (((v2).tmod 10:Int)<0)) (gd ((bytesStr ([(I2 (aX (48+(aX (0-((v2).tmod 10))))))]:List UInt8)).size+(v3).size≤1099511627776) (some (.next ((aX ((v2).tdiv 10)),((bytesStr ([(I2 (aX (48+(aX (0-((v2).tmod 10))))))]:List UInt8))++v3))))) (gd ((bytesStr ([(I2 (aX (48+((v2).tmod 10))))]:List UInt8)).size+(v3).size≤1099511627776) (some (.next ((aX ((v2).tdiv 10)),((bytesStr ([(I2 (aX (48+((v2).tmod 10))))]:List UInt8))++v3)))))) (some (.brk (v2,v3)))
def oJ(fu:Nat)(pn:Int):Option ByteArray:=sw (decide (pn=0)) (some s_0) (so (loopW (K5 fu pn) fu (pn,s_)) fun(v2,v3)=>sw (decide (pn<0)) (gd ((G7).size+(v3).size≤1099511627776) (some (G7++v3))) (some v3))
theorem DO(fu:Nat)(pn:Int)(r:ByteArray)(H:oJ fu pn=some r):bQ Tryz.prog 255 [pI pn] (pS r):=by
 refine qJ func255 H (fun C hC H=>?_)
 refine gQ 10 ?_;refine bC H (fun h1 H=>gE 4) fun h1 H=>?_;refine gQ 12 ?_;refine SN (σ:=Int×ByteArray) (fun(v2,v3)=>⟨[(0,pI v2),(2,pS s_),(3,pB (decide (pn<0))),(4,pS v3)],⟨[],[]⟩⟩) (fun(v2,v3)=>⟨[(2,pS s_),(3,pB (decide (pn<0))),(4,pS v3)],⟨[],[]⟩⟩) (eM H) ?_ ?_
 ·rintro k4 ⟨v2,v3⟩ H
  refine gQ 6 ?_;refine bC H (fun h5 H=>?_) (fun h5 H=>?_)
  ·refine gQ 5 ?_;refine q1 (bB.remI (a:=v2) (b:=10) rfl rfl rfl rfl (by decide)) ?_;refine gQ 8 ?_;refine bC H (fun h6 H=>?_) (fun h6 H=>?_)
   ·refine gQ 9 ?_;refine q1 (bB.convU8 (a:=aX (48+(aX (0-((v2).tmod 10))))) rfl rfl rfl ⟨_,Tryz.underlying3⟩ Tryz.underlying5) (q1 (hH ([(I2 (aX (48+(aX (0-((v2).tmod 10))))))]:List UInt8)) (q1 (bB.bytesStr rfl rfl rfl rfl Tryz.underlying22 Tryz.underlying5 Tryz.underlying9) (q1 bF (cF H fun z7 H=>(q1 (bB.addS rfl rfl rfl rfl (Nat.le_trans z7 (by decide))) ?_)))))
    refine gQ 4 ?_;refine q1 (bB.quoI (a:=v2) (b:=10) rfl rfl rfl rfl (by decide)) ?_;exact gE 2
   refine gQ 5 ?_;refine q1 (bB.convU8 (a:=aX (48+((v2).tmod 10))) rfl rfl rfl ⟨_,Tryz.underlying3⟩ Tryz.underlying5) (q1 (hH ([(I2 (aX (48+((v2).tmod 10))))]:List UInt8)) (q1 (bB.bytesStr rfl rfl rfl rfl Tryz.underlying22 Tryz.underlying5 Tryz.underlying9) (q1 bF (cF H fun z8 H=>(q1 (bB.addS rfl rfl rfl rfl (Nat.le_trans z8 (by decide))) ?_)))))
   refine gQ 4 ?_;refine q1 (bB.quoI (a:=v2) (b:=10) rfl rfl rfl rfl (by decide)) ?_;exact gE 2
  exact gE 0
 rintro⟨v2,v3⟩ H
 refine gQ 5 ?_;refine bC H (fun h9 H=>?_) (fun h9 H=>?_)
 ·refine gQ 3 ?_;refine cF H fun z10 H=>(q1 (bB.addS rfl rfl rfl rfl (Nat.le_trans z10 (by decide))) ?_)
  exact gE 2
 exact gE 6
def W6(fu:Nat)(ps:ByteArray)(p9:Int):Option ((Int×Bool)⊕ByteArray):=sw (decide ((((FF ps 0).toNat:Int):Int)=45)) (gd ((0:Int)≤1∧(1:Int)≤(ps.size:Int)∧(ps.size:Int)≤(ps.size:Int)) (some (.inr (ps.extract (1:Int).toNat (ps.size:Int).toNat)))) (some (.inr ps))
def W8(fu:Nat)(ps:ByteArray)(p9:Int)(v3:ByteArray):Nat→Int→Option (LR Int (Int×Bool)):=fun i8 v9=>gd (i8<(v3).size) (sw (decide ((((FF v3 i8).toNat:Int):Int)<48)) (some (.ret (0,false))) (sw (decide ((((FF v3 i8).toNat:Int):Int)>57)) (some (.ret (0,false))) (some (.next (aX ((aX (10*v9))+((I2 (((FF v3 i8).toNat:Int)-48)).toNat:Int)))))))
def W7(fu:Nat)(ps:ByteArray)(p9:Int)(v3:ByteArray)(v9:Int):Option ((Int×Bool)⊕Int):=sw (decide ((((FF ps 0).toNat:Int):Int)=45)) (some (.inr (aX (0-v9)))) (some (.inr v9))
def W9(fu:Nat)(ps:ByteArray)(p9:Int):Nat→Int→Option (LR Int (Int×Bool)):=fun i22 v23=>gd (i22<(ps).size) (sw (decide ((((FF ps i22).toNat:Int):Int)<48)) (some (.ret (0,false))) (sw (decide ((((FF ps i22).toNat:Int):Int)>57)) (some (.ret (0,false))) (some (.next (aX ((aX (10*v23))+((I2 (((FF ps i22).toNat:Int)-48)).toNat:Int)))))))
def R2(fu:Nat)(ps:ByteArray)(p9:Int):Option (Int×Bool):=sw (decide ((ps.size:Int)>0)) (gd (0<(ps).size) (so (W6 fu ps p9) fun v3=>sw (decide ((v3.size:Int)<1)) (some (0,false)) (sw (decide ((v3.size:Int)>p9)) (some (0,false)) (so (loopN (W8 fu ps p9 v3) (v3.size-0) 0 0) fun v9=>so (W7 fu ps p9 v3 v9) fun v15=>bd (oJ fu v15) fun x18=>sw (!decide (x18=ps)) (some (0,false)) (some (v15,true)))))) (sw (decide ((ps.size:Int)<1)) (some (0,false)) (sw (decide ((ps.size:Int)>p9)) (some (0,false)) (so (loopN (W9 fu ps p9) (ps.size-0) 0 0) fun v23=>bd (oJ fu v23) fun x30=>sw (!decide (x30=ps)) (some (0,false)) (some (v23,true)))))
theorem ajO(fu:Nat)(ps:ByteArray)(p9:Int)(r:Int×Bool)(H:R2 fu ps p9=some r):bQ Tryz.prog 253 [pS ps,pI p9] (.tup [pI r.1,pB r.2]):=by
 refine qJ func253 H (fun C hC H=>?_)
 refine gQ 8 ?_;refine q1 (bB.lenS rfl rfl rfl Tryz.underlying9) ?_;refine gQ 2 ?_;refine dL 13 H (fun g1 H=>?_) fun g1 H=>?_
 ·refine qg g1 bF (cF H fun z2 H=>(qg g1 (bB.indexS (k:=0) rfl rfl rfl rfl z2 Tryz.underlying9) ?_))
  refine gQ 10 ?_;refine n3 (σ:=ByteArray) (fun v3=>⟨[(0,pS ps),(1,pI p9),(4,pI 0),(5,pB false),(6,pB (decide ((((FF ps 0).toNat:Int):Int)=45))),(7,pS v3)],⟨[],[]⟩⟩) (eM H) (fun H=>?_) ?_
  ·refine gQ 4 ?_;refine bC H (fun h4 H=>?_) (fun h4 H=>?_)
   ·refine gQ 2 ?_;refine cF H fun z5 H=>(q1 (bB.sliceS (l:=1) (k:=(ps.size:Int)) rfl rfl rfl rfl rfl z5 Tryz.underlying9) ?_)
    exact gE 2
   exact gE 1
  rintro v3 H
  refine gQ 4 ?_;refine q1 (bB.lenS rfl rfl rfl Tryz.underlying9) ?_;refine gQ 2 ?_;refine dL 25 H (fun g6 H=>?_) fun g6 H=>?_
  ·have g6n:v3.size<1:=by have:=of_decide_eq_true g6;omega
   exact gE 12
  refine qg g6 bF (qg g6 (bB.lenS rfl rfl rfl Tryz.underlying9) ?_)
  refine gQ 4 ?_;refine bC H (fun h7 H=>gE 5) fun h7 H=>?_;refine gQ 10 ?_;refine szF 7 (fun hl10=>?_)
  refine bS (σ:=Int) (fun i8 v9=>⟨[(0,pS ps),(4,pI 0),(5,pB false),(6,pB (decide ((((FF ps 0).toNat:Int):Int)=45))),(7,pS v3),(8,pI v9),(9,pN i8)],⟨[],[]⟩⟩) (fun v9=>⟨[(0,pS ps),(4,pI 0),(5,pB false),(6,pB (decide ((((FF ps 0).toNat:Int):Int)=45))),(8,pI v9)],⟨[],[]⟩⟩) (eM H) ?_ ?_
  ·rintro i8 v9 H
   refine gQ 5 ?_;refine q1 (bB.lenS rfl rfl rfl Tryz.underlying9) ?_;refine gQ 2 ?_;refine cS H (fun h11 h11l H=>?_) (fun h11 H=>?_)
   ·have h11n:i8<v3.size:=by have:=of_decide_eq_true h11;omega
    refine gQ 8 ?_;refine cF H fun z12 H=>(q1 (bB.indexS (k:=i8) rfl rfl rfl rfl z12 Tryz.underlying9) ?_)
    refine gQ 2 ?_;refine dL 41 H (fun g13 H=>gE 12) fun g13 H=>?_;refine gQ 2 ?_;refine qg g13 (bB.indexS (k:=i8) rfl rfl rfl rfl z12 Tryz.underlying9) ?_;refine gQ 3 ?_;refine bC H (fun h14 H=>gE 5) fun h14 H=>?_;refine gQ 3 ?_;refine q1 (bB.mulW rfl rfl rfl rfl) ?_;refine gQ 2 ?_;refine q1 (bB.indexS (k:=i8) rfl rfl rfl rfl z12 Tryz.underlying9) (q1 (bB.subU8 rfl rfl rfl rfl) ?_)
    refine q1 (bB.convI rfl rfl rfl ⟨_,Tryz.underlying5⟩ Tryz.underlying3 (by first|omega|(have:=UInt8.toNat_lt (I2 (((FF v3 i8).toNat:Int)-48));omega)) (by first|omega|(have:=UInt8.toNat_lt (I2 (((FF v3 i8).toNat:Int)-48));omega))) ?_;exact gE 8
   exact gE 0
  rintro v9 H
  refine qS ?_;refine n3 (σ:=Int) (fun v15=>⟨[(0,pS ps),(4,pI 0),(5,pB false),(8,pI v15)],⟨[],[]⟩⟩) (eM H) (fun H=>?_) ?_
  ·refine gQ 4 ?_;refine bC H (fun h16 H=>gE 5) fun h16 H=>?_;exact gE 1
  rintro v15 H
  refine gQ 4 ?_;refine bK H fun x18 z17 H=>(q1 (bE func255 (DO fu v15 _ z17)) ?_)
  refine gQ 3 ?_;refine bC H (fun h19 H=>gE 5) fun h19 H=>?_;exact gE 7
 refine gQ 22 ?_;refine q1 (bB.lenS rfl rfl rfl Tryz.underlying9) ?_;refine gQ 2 ?_;refine dL 25 H (fun g20 H=>?_) fun g20 H=>?_
 ·have g20n:ps.size<1:=by have:=of_decide_eq_true g20;omega
  exact gE 12
 refine qg g20 bF (qg g20 (bB.lenS rfl rfl rfl Tryz.underlying9) ?_)
 refine gQ 4 ?_;refine bC H (fun h21 H=>gE 5) fun h21 H=>?_;refine gQ 10 ?_;refine szF 0 (fun hl24=>?_)
 refine bS (σ:=Int) (fun i22 v23=>⟨[(0,pS ps),(4,pI 0),(5,pB false),(6,pB false),(7,pS ps),(8,pI v23),(9,pN i22)],⟨[],[]⟩⟩) (fun v23=>⟨[(0,pS ps),(4,pI 0),(5,pB false),(6,pB false),(8,pI v23)],⟨[],[]⟩⟩) (eM H) ?_ ?_
 ·rintro i22 v23 H
  refine gQ 5 ?_;refine q1 (bB.lenS rfl rfl rfl Tryz.underlying9) ?_;refine gQ 2 ?_;refine cS H (fun h25 h25l H=>?_) (fun h25 H=>?_)
  ·have h25n:i22<ps.size:=by have:=of_decide_eq_true h25;omega
   refine gQ 8 ?_;refine cF H fun z26 H=>(q1 (bB.indexS (k:=i22) rfl rfl rfl rfl z26 Tryz.underlying9) ?_)
   refine gQ 2 ?_;refine dL 41 H (fun g27 H=>gE 12) fun g27 H=>?_;refine gQ 2 ?_;refine qg g27 (bB.indexS (k:=i22) rfl rfl rfl rfl z26 Tryz.underlying9) ?_;refine gQ 3 ?_;refine bC H (fun h28 H=>gE 5) fun h28 H=>?_;refine gQ 3 ?_;refine q1 (bB.mulW rfl rfl rfl rfl) ?_;refine gQ 2 ?_;refine q1 (bB.indexS (k:=i22) rfl rfl rfl rfl z26 Tryz.underlying9) (q1 (bB.subU8 rfl rfl rfl rfl) ?_)
   refine q1 (bB.convI rfl rfl rfl ⟨_,Tryz.underlying5⟩ Tryz.underlying3 (by first|omega|(have:=UInt8.toNat_lt (I2 (((FF ps i22).toNat:Int)-48));omega)) (by first|omega|(have:=UInt8.toNat_lt (I2 (((FF ps i22).toNat:Int)-48));omega))) ?_;exact gE 8
  exact gE 0
 rintro v23 H
 refine gQ 11 ?_;refine bK H fun x30 z29 H=>(q1 (bE func255 (DO fu v23 _ z29)) ?_)
 refine gQ 3 ?_;refine bC H (fun h31 H=>gE 5) fun h31 H=>?_;exact gE 7
def CS(fu:Nat)(ps:ByteArray):Option (Int×Bool):=bd (R2 fu ps 12) fun(x2,x3)=>some (x2,x3)
theorem acM(fu:Nat)(ps:ByteArray)(r:Int×Bool)(H:CS fu ps=some r):bQ Tryz.prog 235 [pS ps] (.tup [pI r.1,pB r.2]):=by
 refine qJ func235 H (fun C hC H=>?_)
 refine gQ 8 ?_;refine dU H fun x2 x3 z1 H=>(q1 (bE func253 (ajO fu ps 12 _ z1)) ?_)
 exact gE 5
def uK(fu:Nat)(pn:Int):Option aL:=some (aL.mk 1 s_ s_ pn (aA.mk 0 s_ []) [] [])
theorem wS(fu:Nat)(pn:Int)(r:aL)(H:uK fu pn=some r):bQ Tryz.prog 192 [pI pn] ((aL.pv r)):=by
 refine qJ func192 H (fun C hC H=>?_)
 exact gE 10
def wU(fu:Nat)(ps:ByteArray):Option aL:=some (aL.mk 3 s_ ps 0 (aA.mk 0 s_ []) [] [])
theorem BT(fu:Nat)(ps:ByteArray)(r:aL)(H:wU fu ps=some r):bQ Tryz.prog 191 [pS ps] ((aL.pv r)):=by
 refine qJ func191 H (fun C hC H=>?_)
 exact gE 10
def r7(fu:Nat)(pa pb:Int):Option Int:=sw (decide (pa<pb)) (some pa) (some pb)
theorem sS(fu:Nat)(pa:Int)(pb:Int)(r:Int)(H:r7 fu pa pb=some r):bQ Tryz.prog 234 [pI pa,pI pb] (pI r):=by
 refine qJ func234 H (fun C hC H=>?_)
 refine gQ 11 ?_;refine bC H (fun h1 H=>gE 5) fun h1 H=>?_;exact gE 6
abbrev kC:=aB→Option aL
abbrev iT:=(List aB)→Option ((List aL))
abbrev lR:=aB→Option bU
def wV(m:kC):Prop:= ∀(p1:aB) (r:aL),m p1=some r→bQ Tryz.prog 220 [(aB.pv p1)] ((aL.pv r):PV)
def yA(m:iT):Prop:= ∀(p6:List aB) (r:(List aL)),m p6=some r→bQ Tryz.prog 236 [bG p6] (iS r:PV)
def EX(m:lR):Prop:= ∀(px:aB) (r:bU),m px=some r→bQ Tryz.prog 237 [(aB.pv px)] ((bU.pv r):PV)
def agQ(fu:Nat)(p3:kC)(p0:iT)(p4:lR)(p1 y15 y18:aB)(x67:Int)(x70:List aL):Nat→((List bU))→Option (LR ((List bU)) aL):=fun i71 v73=>bd (p4 (aR p1.aCc i71)) fun x77=>gd ((v73).length+(([x77]:List bU)).length≤68719476736) (some (.next (v73++([x77]:List bU))))
def MY(fu:Nat)(p3:kC)(p0:iT)(p4:lR)(p1:aB):Option aL:=sw (!decide (p1.aCf=s_)) (bd (CS fu p1.aCf) fun(x3,x4)=>sw x4 (bd (uK fu x3) fun x7=>some x7) (sw (decide (p1.aCf=qX)) (some (aL.mk 2 s_ s_ 1 (aA.mk 0 s_ []) [] [])) (sw (decide (p1.aCf=mA)) (some (aL.mk 2 s_ s_ 0 (aA.mk 0 s_ []) [] [])) (bd (wU fu p1.aCf) fun x11=>some x11)))) (gd (([]:List aB).length+(p1.aCc).length≤68719476736) (gd ((([])++p1.aCc).length+(([(aB.mk s_ []),(aB.mk s_ []),(aB.mk s_ [])]:List aB)).length≤68719476736) (gd (1<((([])++p1.aCc)++([(aB.mk s_ []),(aB.mk s_ []),(aB.mk s_ [])]:List aB)).length) (lt (aR ((([])++p1.aCc)++([(aB.mk s_ []),(aB.mk s_ []),(aB.mk s_ [])]:List aB)) 1) fun y15=>gd (0<((([])++p1.aCc)++([(aB.mk s_ []),(aB.mk s_ []),(aB.mk s_ [])]:List aB)).length) (lt (aR ((([])++p1.aCc)++([(aB.mk s_ []),(aB.mk s_ []),(aB.mk s_ [])]:List aB)) 0) fun y18=>sw (decide (y18.aCf=RQ)) (bd (r7 fu 2 (p1.aCc.length:Int)) fun x22=>gd ((0:Int)≤x22∧(x22:Int)≤(p1.aCc.length:Int)∧(p1.aCc.length:Int)≤(p1.aCc.length:Int)) (bd (p0 (List.drop (x22:Int).toNat (List.take (p1.aCc.length:Int).toNat p1.aCc))) fun x25=>some (aL.mk 4 s_ y15.aCf 0 (aA.mk 0 s_ []) x25 []))) (sw (decide (y18.aCf=pX)) (gd (2<((([])++p1.aCc)++([(aB.mk s_ []),(aB.mk s_ []),(aB.mk s_ [])]:List aB)).length) (lt (aR ((([])++p1.aCc)++([(aB.mk s_ []),(aB.mk s_ []),(aB.mk s_ [])]:List aB)) 2) fun y28=>bd (r7 fu 3 (p1.aCc.length:Int)) fun x31=>gd ((0:Int)≤x31∧(x31:Int)≤(p1.aCc.length:Int)∧(p1.aCc.length:Int)≤(p1.aCc.length:Int)) (bd (p0 (List.drop (x31:Int).toNat (List.take (p1.aCc.length:Int).toNat p1.aCc))) fun x34=>some (aL.mk 5 y15.aCf y28.aCf 0 (aA.mk 0 s_ []) x34 [])))) (sw (decide (y18.aCf=GY)) (bd (r7 fu 2 (p1.aCc.length:Int)) fun x37=>gd ((0:Int)≤x37∧(x37:Int)≤(p1.aCc.length:Int)∧(p1.aCc.length:Int)≤(p1.aCc.length:Int)) (bd (p0 (List.drop (x37:Int).toNat (List.take (p1.aCc.length:Int).toNat p1.aCc))) fun x40=>some (aL.mk 6 s_ y15.aCf 0 (aA.mk 0 s_ []) x40 []))) (sw (decide (y18.aCf=GX)) (bd (r7 fu 2 (p1.aCc.length:Int)) fun x43=>gd ((0:Int)≤x43∧(x43:Int)≤(p1.aCc.length:Int)∧(p1.aCc.length:Int)≤(p1.aCc.length:Int)) (bd (p0 (List.drop (x43:Int).toNat (List.take (p1.aCc.length:Int).toNat p1.aCc))) fun x46=>some (aL.mk 8 s_ y15.aCf 0 (aA.mk 0 s_ []) x46 []))) (sw (decide (y18.aCf=F4)) (gd ((0:Int)≤1∧(1:Int)≤(p1.aCc.length:Int)∧(p1.aCc.length:Int)≤(p1.aCc.length:Int)) (bd (p0 (List.drop (1:Int).toNat (List.take (p1.aCc.length:Int).toNat p1.aCc))) fun x50=>some (aL.mk 9 s_ s_ 0 (aA.mk 0 s_ []) x50 []))) (sw (decide (y18.aCf=zD)) (bd (r7 fu 2 (p1.aCc.length:Int)) fun x53=>gd ((0:Int)≤x53∧(x53:Int)≤(p1.aCc.length:Int)∧(p1.aCc.length:Int)≤(p1.aCc.length:Int)) (bd (p0 (List.drop (x53:Int).toNat (List.take (p1.aCc.length:Int).toNat p1.aCc))) fun x56=>some (aL.mk 11 y15.aCf s_ 0 (aA.mk 0 s_ []) x56 []))) (sw (decide (y18.aCf=aaR)) (bd (m9 fu y15) fun x59=>bd (r7 fu 2 (p1.aCc.length:Int)) fun x61=>gd ((0:Int)≤x61∧(x61:Int)≤(p1.aCc.length:Int)∧(p1.aCc.length:Int)≤(p1.aCc.length:Int)) (bd (p0 (List.drop (x61:Int).toNat (List.take (p1.aCc.length:Int).toNat p1.aCc))) fun x64=>some (aL.mk 12 s_ s_ 0 x59 x64 []))) (sw (decide (y18.aCf=zC)) (bd (r7 fu 2 (p1.aCc.length:Int)) fun x67=>gd ((0:Int)≤1∧(1:Int)≤x67∧(x67:Int)≤(p1.aCc.length:Int)) (bd (p0 (List.drop (1:Int).toNat (List.take (x67:Int).toNat p1.aCc))) fun x70=>so (loopN (agQ fu p3 p0 p4 p1 y15 y18 x67 x70) (p1.aCc.length-2) 2 ([])) fun v73=>some (aL.mk 7 s_ s_ 0 (aA.mk 0 s_ []) x70 v73))) (bd (r7 fu 1 (p1.aCc.length:Int)) fun x80=>gd ((0:Int)≤x80∧(x80:Int)≤(p1.aCc.length:Int)∧(p1.aCc.length:Int)≤(p1.aCc.length:Int)) (bd (p0 (List.drop (x80:Int).toNat (List.take (p1.aCc.length:Int).toNat p1.aCc))) fun x83=>some (aL.mk 10 s_ y18.aCf 0 (aA.mk 0 s_ []) x83 [])))))))))))))))
theorem ZA(fu:Nat)(p3:kC)(p0:iT)(p4:lR)(pC:wV p3)(p5:yA p0)(pD:EX p4):wV (MY fu p3 p0 p4):=by
 intro p1 r H
 refine qJ func220 H (fun C hC H=>?_)
 refine gQ 2 ?_;refine q1 (fD ([pS p1.aCf,bG p1.aCc])) ?_;refine gQ 9 ?_;refine bC H (fun h1 H=>?_) (fun h1 H=>?_)
 ·refine gQ 4 ?_;refine dU H fun x3 x4 z2 H=>(q1 (bE func235 (acM fu p1.aCf _ z2)) ?_)
  refine gQ 13 ?_;refine bC H (fun h5 H=>?_) (fun h5 H=>?_)
  ·refine gQ 3 ?_;refine bK H fun x7 z6 H=>(q1 (bE func192 (wS fu x3 _ z6)) ?_)
   exact gE 2
  refine gQ 7 ?_;refine bC H (fun h8 H=>gE 5) fun h8 H=>?_;refine gQ 7 ?_;refine bC H (fun h9 H=>gE 5) fun h9 H=>?_;refine gQ 5 ?_;refine bK H fun x11 z10 H=>(q1 (bE func191 (BT fu p1.aCf _ z10)) ?_)
  exact gE 2
 refine gQ 3 ?_;refine q1 (qP ([]:List aB)) ?_;refine gQ 2 ?_;refine cF H fun z12 H=>(q1 (lE z12) ?_)
 refine gQ 3 ?_;refine q1 (hH ([(aB.mk s_ []),(aB.mk s_ []),(aB.mk s_ [])]:List aB)) (cF H fun z13 H=>(q1 (lE z13) ?_))
 refine gQ 12 ?_;refine cF H fun z14 H=>(fV H fun y15 h16 H=>(q1 (yK h16 z14) ?_))
 refine gQ 8 ?_;refine cF H fun z17 H=>(fV H fun y18 h19 H=>(q1 (yK h19 z17) ?_))
 refine gQ 9 ?_;refine bC H (fun h20 H=>?_) (fun h20 H=>?_)
 ·refine qS (bK H fun x22 z21 H=>(cF H fun z23 H=>(bK H fun x25 z24 H=>(dW (dI [7] bF (dI [1] bW (dD [59] eE (dI [6] bF (dI [61] (bE func234 (sS fu 2 (p1.aCc.length:Int) _ z21)) ?_)))))))))
  refine dI [60,62] (bB.congrP (bB.sliceR (es:=aB.trs (p1.aCc)) (l:=x22) (k:=(p1.aCc.length:Int)) rfl rfl rfl rfl rfl (by rw [aB.trs_len];exact rfl) (by rw [aB.trs_len];exact z23) CF.h) (aB.trs_part _ _ _)) ?_;refine dI [63] (bE func236 (p5 (List.drop (x22:Int).toNat (List.take (p1.aCc.length:Int).toNat p1.aCc)) _ z24)) (dI [58,64] r9 (lB [2,65] kG (dN ?_)))
  exact gE 0
 refine gQ 5 ?_;refine bC H (fun h26 H=>?_) (fun h26 H=>?_)
 ·refine qS (cF H fun z27 H=>(fV H fun y28 h29 H=>(bK H fun x31 z30 H=>(cF H fun z32 H=>(bK H fun x34 z33 H=>(dW (dI [7] bF (dI [5] bF (dI [69] (yK h29 z27) (dI [70] w7 (dI [71] vQ (dI [1] bW (dD [73] eE ?_)))))))))))))
  refine dI [6] bF (dI [75] (bE func234 (sS fu 3 (p1.aCc.length:Int) _ z30)) ?_)
  refine dI [74,76] (bB.congrP (bB.sliceR (es:=aB.trs (p1.aCc)) (l:=x31) (k:=(p1.aCc.length:Int)) rfl rfl rfl rfl rfl (by rw [aB.trs_len];exact rfl) (by rw [aB.trs_len];exact z32) CF.h) (aB.trs_part _ _ _)) ?_;refine dI [77] (bE func236 (p5 (List.drop (x31:Int).toNat (List.take (p1.aCc.length:Int).toNat p1.aCc)) _ z33)) (dI [68,72,78] r9 (lB [2,79] kG (dN ?_)))
  exact gE 0
 refine gQ 5 ?_;refine bC H (fun h35 H=>?_) (fun h35 H=>?_)
 ·refine qS (bK H fun x37 z36 H=>(cF H fun z38 H=>(bK H fun x40 z39 H=>(dW (dI [7] bF (dI [1] bW (dD [83] eE (dI [6] bF (dI [85] (bE func234 (sS fu 2 (p1.aCc.length:Int) _ z36)) ?_)))))))))
  refine dI [84,86] (bB.congrP (bB.sliceR (es:=aB.trs (p1.aCc)) (l:=x37) (k:=(p1.aCc.length:Int)) rfl rfl rfl rfl rfl (by rw [aB.trs_len];exact rfl) (by rw [aB.trs_len];exact z38) CF.h) (aB.trs_part _ _ _)) ?_;refine dI [87] (bE func236 (p5 (List.drop (x37:Int).toNat (List.take (p1.aCc.length:Int).toNat p1.aCc)) _ z39)) (dI [82,88] r9 (lB [2,89] kG (dN ?_)))
  exact gE 0
 refine gQ 5 ?_;refine bC H (fun h41 H=>?_) (fun h41 H=>?_)
 ·refine qS (bK H fun x43 z42 H=>(cF H fun z44 H=>(bK H fun x46 z45 H=>(dW (dI [7] bF (dI [1] bW (dD [93] eE (dI [6] bF (dI [95] (bE func234 (sS fu 2 (p1.aCc.length:Int) _ z42)) ?_)))))))))
  refine dI [94,96] (bB.congrP (bB.sliceR (es:=aB.trs (p1.aCc)) (l:=x43) (k:=(p1.aCc.length:Int)) rfl rfl rfl rfl rfl (by rw [aB.trs_len];exact rfl) (by rw [aB.trs_len];exact z44) CF.h) (aB.trs_part _ _ _)) ?_;refine dI [97] (bE func236 (p5 (List.drop (x43:Int).toNat (List.take (p1.aCc.length:Int).toNat p1.aCc)) _ z45)) (dI [92,98] r9 (lB [2,99] kG (dN ?_)))
  exact gE 0
 refine gQ 5 ?_;refine bC H (fun h47 H=>?_) (fun h47 H=>?_)
 ·refine gQ 4 ?_;refine cF H fun z48 H=>?_;refine q1 (bB.congrP (bB.sliceR (es:=aB.trs (p1.aCc)) (l:=1) (k:=(p1.aCc.length:Int)) rfl rfl rfl rfl rfl (by rw [aB.trs_len];exact rfl) (by rw [aB.trs_len];exact z48) CF.h) (aB.trs_part _ _ _)) ?_;refine bK H fun x50 z49 H=>(q1 (bE func236 (p5 (List.drop (1:Int).toNat (List.take (p1.aCc.length:Int).toNat p1.aCc)) _ z49)) ?_)
  exact gE 3
 refine gQ 5 ?_;refine bC H (fun h51 H=>?_) (fun h51 H=>?_)
 ·refine qS (bK H fun x53 z52 H=>(cF H fun z54 H=>(bK H fun x56 z55 H=>(dW (dI [7] bF (dI [1] bW (dD [110] eE (dI [6] bF (dI [112] (bE func234 (sS fu 2 (p1.aCc.length:Int) _ z52)) ?_)))))))))
  refine dI [111,113] (bB.congrP (bB.sliceR (es:=aB.trs (p1.aCc)) (l:=x53) (k:=(p1.aCc.length:Int)) rfl rfl rfl rfl rfl (by rw [aB.trs_len];exact rfl) (by rw [aB.trs_len];exact z54) CF.h) (aB.trs_part _ _ _)) ?_;refine dI [114] (bE func236 (p5 (List.drop (x53:Int).toNat (List.take (p1.aCc.length:Int).toNat p1.aCc)) _ z55)) (dI [109,115] r9 (lB [2,116] kG (dN ?_)))
  exact gE 0
 refine gQ 5 ?_;refine bC H (fun h57 H=>?_) (fun h57 H=>?_)
 ·refine qS (bK H fun x59 z58 H=>(bK H fun x61 z60 H=>(cF H fun z62 H=>(bK H fun x64 z63 H=>(dW (dI [5] bF (dI [119] (yK h16 z14) (dI [120] (iK (aB.cs y15)) (dI [121] (bE func219 (yJ fu y15 _ z58)) (dI [1] bW (dD [123] eE (dI [6] bF (dI [125] (bE func234 (sS fu 2 (p1.aCc.length:Int) _ z60)) ?_)))))))))))))
  refine dI [124,126] (bB.congrP (bB.sliceR (es:=aB.trs (p1.aCc)) (l:=x61) (k:=(p1.aCc.length:Int)) rfl rfl rfl rfl rfl (by rw [aB.trs_len];exact rfl) (by rw [aB.trs_len];exact z62) CF.h) (aB.trs_part _ _ _)) ?_;refine dI [127] (bE func236 (p5 (List.drop (x61:Int).toNat (List.take (p1.aCc.length:Int).toNat p1.aCc)) _ z63)) (dI [122,128] r9 (lB [2,129] kG (dN ?_)))
  exact gE 0
 refine gQ 5 ?_;refine bC H (fun h65 H=>?_) (fun h65 H=>?_)
 ·refine qS (bK H fun x67 z66 H=>(cF H fun z68 H=>(bK H fun x70 z69 H=>(dW (dI [1] bW (dB [132] 0 1 uP (dI [6] bF (dI [134] (bE func234 (sS fu 2 (p1.aCc.length:Int) _ z66)) ?_))))))))
  refine dI [133,135] (bB.congrP (bB.sliceR (es:=aB.trs (p1.aCc)) (l:=1) (k:=x67) rfl rfl rfl rfl rfl (by rw [aB.trs_len];exact rfl) (by rw [aB.trs_len];exact z68) CF.h) (aB.trs_part _ _ _)) ?_;refine dI [136] (bE func236 (p5 (List.drop (1:Int).toNat (List.take (x67:Int).toNat p1.aCc)) _ z69)) (dI [137] r9 (dE [] tAl (lB [8,138] kG (dN ?_))))
  refine gQ 5 ?_;refine cV.wk (Wk.regBox (k:=2) (j:=8) 262 11 (by decide) rfl rfl) ?_;refine gP 38 (aB.trs_len _) (fun hl74=>?_)
  refine bS (σ:=(List bU)) (fun i71 v73=>⟨[(1,.ptr 0 0),(2,.ptr 1 0),(5,eF ((([])++p1.aCc)++([(aB.mk s_ []),(aB.mk s_ []),(aB.mk s_ [])]:List aB)) 0),(6,pN p1.aCc.length),(8,.ptr 2 0),(9,pN i71)],⟨[some ⟨189,[pS p1.aCf,bG p1.aCc]⟩,some ⟨211,[pI 0,pS s_,pS s_,pI 0,pI 0,pS s_,.nil,.nil,.nil]⟩,some ⟨211,[pI 7,pS s_,pS s_,pI 0,pI 0,pS s_,.nil,iS x70,aq0 v73 1]⟩],[⟨189,2,aB.trs ((([])++p1.aCc)++([(aB.mk s_ []),(aB.mk s_ []),(aB.mk s_ [])]:List aB)),false⟩,⟨262,11,bU.trs (v73),false⟩]⟩⟩) (fun v73=>⟨[(1,.ptr 0 0),(2,.ptr 1 0),(5,eF ((([])++p1.aCc)++([(aB.mk s_ []),(aB.mk s_ []),(aB.mk s_ [])]:List aB)) 0),(6,pN p1.aCc.length),(8,.ptr 2 0)],⟨[some ⟨189,[pS p1.aCf,bG p1.aCc]⟩,some ⟨211,[pI 0,pS s_,pS s_,pI 0,pI 0,pS s_,.nil,.nil,.nil]⟩,some ⟨211,[pI 7,pS s_,pS s_,pI 0,pI 0,pS s_,.nil,iS x70,aq0 v73 1]⟩],[⟨189,2,aB.trs ((([])++p1.aCc)++([(aB.mk s_ []),(aB.mk s_ []),(aB.mk s_ [])]:List aB)),false⟩,⟨262,11,bU.trs (v73),false⟩]⟩⟩) (eM H) ?_ ?_
  ·rintro i71 v73 H
   refine gQ 7 ?_;refine cS H (fun h75 h75l H=>?_) (fun h75 H=>?_)
   ·refine gQ 3 ?_;refine bK H fun x77 z76 H=>(cF H fun z78 H=>(dW (dI [8] bW (dD [144] eE (dI [1] bW (dD [146] eE (dI [9] bF (dI [147,148] qQ (dI [149] (iK (aB.cs (aR p1.aCc i71))) (dI [150] (bE func237 (pD (aR p1.aCc i71) _ z76)) (dI [151] (hH ([x77]:List bU)) (dE [145,152] (lE z78) (dI [8] bW ?_)))))))))))))
    refine lB [154,153] kG (dN ?_)
    exact gE 5
   exact gE 0
  rintro v73 H
  refine gQ 2 ?_;refine q1 (bZ [pI 7,pS s_,pS s_,pI 0,pI 0,pS s_,.nil,iS x70,aq0 v73 1]) ?_;exact gE 2
 refine gQ 2 ?_;refine bK H fun x80 z79 H=>(cF H fun z81 H=>(bK H fun x83 z82 H=>(dW (dI [5] bF (dI [156] (yK h19 z17) (dI [157] w7 (dI [158] vQ (dI [1] bW (dD [160] eE (dI [6] bF (dI [162] (bE func234 (sS fu 1 (p1.aCc.length:Int) _ z79)) ?_)))))))))))
 refine dI [161,163] (bB.congrP (bB.sliceR (es:=aB.trs (p1.aCc)) (l:=x80) (k:=(p1.aCc.length:Int)) rfl rfl rfl rfl rfl (by rw [aB.trs_len];exact rfl) (by rw [aB.trs_len];exact z81) CF.h) (aB.trs_part _ _ _)) ?_;refine dI [164] (bE func236 (p5 (List.drop (x80:Int).toNat (List.take (p1.aCc.length:Int).toNat p1.aCc)) _ z82)) (dI [159,165] r9 (lB [2,166] kG (dN ?_)))
 exact gE 0
def acV(fu:Nat)(p3:kC)(p0:iT)(p4:lR)(p6:List aB):Nat→((List aL))→Option (LR ((List aL)) ((List aL))):=fun i1 v3=>bd (p3 (aR p6 i1)) fun x7=>gd ((v3).length+(([x7]:List aL)).length≤68719476736) (some (.next (v3++([x7]:List aL))))
def IP(fu:Nat)(p3:kC)(p0:iT)(p4:lR)(p6:List aB):Option ((List aL)):=so (loopN (acV fu p3 p0 p4 p6) (p6.length-0) 0 ([])) fun v3=>some v3
theorem WX(fu:Nat)(p3:kC)(p0:iT)(p4:lR)(pC:wV p3)(p5:yA p0)(pD:EX p4):yA (IP fu p3 p0 p4):=by
 intro p6 r H
 refine qJ func236 H (fun C hC H=>?_)
 refine gQ 6 ?_;refine q1 (qP ([]:List aL)) ?_;refine gQ 7 ?_;refine gP 0 (aB.trs_len _) (fun hl4=>?_)
 refine bS (σ:=(List aL)) (fun i1 v3=>⟨[(0,bG p6),(2,.nil),(3,aqH v3 0),(4,pN i1)],⟨[],[⟨211,9,aL.trs (v3),false⟩]⟩⟩) (fun v3=>⟨[(2,.nil),(3,aqH v3 0)],⟨[],[⟨211,9,aL.trs (v3),false⟩]⟩⟩) (eM H) ?_ ?_
 ·rintro i1 v3 H
  refine gQ 8 ?_;refine cS H (fun h5 h5l H=>?_) (fun h5 H=>?_)
  ·refine gQ 8 ?_;refine q1 (iK (aB.cs (aR p6 i1))) (bK H fun x7 z6 H=>(q1 (bE func220 (pC (aR p6 i1) _ z6)) (q1 (hH ([x7]:List aL)) (cF H fun z8 H=>(q1 (lE z8) ?_)))))
   exact gE 7
  exact gE 0
 rintro v3 H
 exact gE 5
def RW(fu:Nat)(p3:kC)(p0:iT)(p4:lR)(px:aB):Option bU:=sw (decide ((px.aCc.length:Int)<2)) (some (bU.mk s_ [] (aL.mk 0 s_ s_ 0 (aA.mk 0 s_ []) [] []))) (gd ((0:Int)≤1∧(1:Int)≤aX ((px.aCc.length:Int)-1)∧(aX ((px.aCc.length:Int)-1):Int)≤(px.aCc.length:Int)) (bd (B3 fu (List.drop (1:Int).toNat (List.take (aX ((px.aCc.length:Int)-1):Int).toNat px.aCc))) fun(x4,x5)=>gd (0<(px.aCc).length) (gd (0≤aX ((px.aCc.length:Int)-1)∧(aX ((px.aCc.length:Int)-1)).toNat<(px.aCc).length) (lt (aR px.aCc ((aX ((px.aCc.length:Int)-1)).toNat)) fun y8=>bd (p3 y8) fun x11=>some (bU.mk ((aR px.aCc 0).aCf) x4 x11)))))
theorem acT(fu:Nat)(p3:kC)(p0:iT)(p4:lR)(pC:wV p3)(p5:yA p0)(pD:EX p4):EX (RW fu p3 p0 p4):=by
 intro px r H
 refine qJ func237 H (fun C hC H=>?_)
 refine gQ 2 ?_;refine q1 (fD ([pS px.aCf,bG px.aCc])) ?_;refine gQ 15 ?_;refine bC H (fun h1 H=>?_) (fun h1 H=>?_)
 ·have h1n:px.aCc.length<2:=by have:=of_decide_eq_true h1;omega
  exact gE 5
 refine gQ 7 ?_;refine cF H fun z2 H=>?_;refine q1 (bB.congrP (bB.sliceR (es:=aB.trs (px.aCc)) (l:=1) (k:=aX ((px.aCc.length:Int)-1)) rfl rfl rfl rfl rfl (by rw [aB.trs_len];exact rfl) (by rw [aB.trs_len];exact z2) CF.h) (aB.trs_part _ _ _)) ?_;refine dU H fun x4 x5 z3 H=>(q1 (bE func174 (IZ fu (List.drop (1:Int).toNat (List.take (aX ((px.aCc.length:Int)-1):Int).toNat px.aCc)) _ z3)) ?_)
 refine gQ 7 ?_;refine cF H fun z6 H=>(cF H fun z7 H=>(fV H fun y8 h9 H=>(bK H fun x11 z10 H=>(dW (dI [1] bW (dD [21] eE (dI [22] qQ (dI [23] w7 (dI [24] vQ (dI [4] bF (dI [1] bW (dD [27] eE (dI [3] bF ?_)))))))))))))
 refine dI [29] rSw (dI [28,30] (rIm h9 z7 CF.h) (dI [31] (iK (aB.cs y8)) (dI [32] (bE func220 (pC y8 _ z10)) (dI [25,26,33] r9 (lB [2,34] kG (dN ?_))))))
 exact gE 0
mutual
def gZ:Nat→aB→Option aL
 |0,_=>none
 |fu+1,p1=>MY fu (gZ fu) (kV fu) (nV fu) p1
def kV:Nat→(List aB)→Option ((List aL))
 |0,_=>none
 |fu+1,p6=>IP fu (gZ fu) (kV fu) (nV fu) p6
def nV:Nat→aB→Option bU
 |0,_=>none
 |fu+1,px=>RW fu (gZ fu) (kV fu) (nV fu) px
end
theorem acU(fu:Nat):wV (gZ fu)∧yA (kV fu)∧EX (nV fu):=by
 induction fu with
 |zero=>exact⟨(fun p1 r H=>by simp only [gZ] at H;cases H),(fun p6 r H=>by simp only [kV] at H;cases H),(fun px r H=>by simp only [nV] at H;cases H)⟩
 |succ fu ih=>exact⟨(fun p1 r H=>by simp only [gZ] at H;exact ZA fu (gZ fu) (kV fu) (nV fu) ih.1 ih.2.1 ih.2.2 p1 r H),(fun p6 r H=>by simp only [kV] at H;exact WX fu (gZ fu) (kV fu) (nV fu) ih.1 ih.2.1 ih.2.2 p6 r H),(fun px r H=>by simp only [nV] at H;exact acT fu (gZ fu) (kV fu) (nV fu) ih.1 ih.2.1 ih.2.2 px r H)⟩
theorem IN(fu:Nat):wV (gZ fu):=(acU fu).1
abbrev tJ:=aL→Option aB
abbrev nG:=(List aB)→(List aL)→Option aB
def IQ(m:tJ):Prop:= ∀(p1:aL) (r:aB),m p1=some r→bQ Tryz.prog 243 [(aL.pv p1)] ((aB.pv r):PV)
def F9(m:nG):Prop:= ∀(pA:List aB) (p6:List aL) (r:aB),m pA p6=some r→b6 Tryz.prog 256 [eF pA 0,iS p6] ⟨[],[⟨189,2,aB.trs (pA),false⟩]⟩ (fun q t=>q=(.agg [pS r.aCf,eF r.aCc 0]:PV)∧t=⟨[],[⟨189,2,aB.trs (r.aCc),false⟩]⟩)
def amV(fu:Nat)(p8:tJ)(p2:nG)(p1:aL)(x68 x70:aB):Nat→((List aB))→Option (LR ((List aB)) aB):=fun i71 v73=>lt (aR p1.aCu i71) fun y76=>bd (cB fu y76.aCy) fun x79=>bd (GH fu y76.aCm) fun x81=>gd ((([x79]:List aB)).length+x81.length≤68719476736) (bd (p8 y76.aCj) fun x84=>gd ((([x79]:List aB)++x81).length+(([x84]:List aB)).length≤68719476736) (gd ((v73).length+(([(aB.mk s_ ((([x79]:List aB)++x81)++([x84]:List aB)))]:List aB)).length≤68719476736) (some (.next (v73++([(aB.mk s_ ((([x79]:List aB)++x81)++([x84]:List aB)))]:List aB))))))
def WY(fu:Nat)(p8:tJ)(p2:nG)(p1:aL):Option aB:=sw (decide (p1.aCb=1)) (bd (oJ fu p1.aCR) fun x3=>bd (cB fu x3) fun x5=>some x5) (sw (decide (p1.aCb=2)) (gd (0≤p1.aCR∧(p1.aCR).toNat<(([mA,qX]:LB)).length) (bd (cB fu (aR ([mA,qX]:LB) ((p1.aCR).toNat))) fun x9=>some x9)) (sw (decide (p1.aCb=3)) (bd (cB fu p1.aB9) fun x12=>some x12) (sw (decide (p1.aCb=4)) (bd (cB fu RQ) fun x15=>bd (cB fu p1.aB9) fun x17=>bd (p2 ([x15,x17]:List aB) p1.aCa) fun x19=>some (aB.mk x19.aCf x19.aCc)) (sw (decide (p1.aCb=5)) (bd (cB fu pX) fun x22=>bd (cB fu p1.aCg) fun x24=>bd (cB fu p1.aB9) fun x26=>bd (p2 ([x22,x24,x26]:List aB) p1.aCa) fun x28=>some (aB.mk x28.aCf x28.aCc)) (sw (decide (p1.aCb=6)) (bd (cB fu GY) fun x31=>bd (cB fu p1.aB9) fun x33=>bd (p2 ([x31,x33]:List aB) p1.aCa) fun x35=>some (aB.mk x35.aCf x35.aCc)) (sw (decide (p1.aCb=8)) (bd (cB fu GX) fun x38=>bd (cB fu p1.aB9) fun x40=>bd (p2 ([x38,x40]:List aB) p1.aCa) fun x42=>some (aB.mk x42.aCf x42.aCc)) (sw (decide (p1.aCb=9)) (bd (cB fu F4) fun x45=>bd (p2 ([x45]:List aB) p1.aCa) fun x47=>some (aB.mk x47.aCf x47.aCc)) (sw (decide (p1.aCb=10)) (bd (cB fu p1.aB9) fun x50=>bd (p2 ([x50]:List aB) p1.aCa) fun x52=>some (aB.mk x52.aCf x52.aCc)) (sw (decide (p1.aCb=11)) (bd (cB fu zD) fun x55=>bd (cB fu p1.aCg) fun x57=>bd (p2 ([x55,x57]:List aB) p1.aCa) fun x59=>some (aB.mk x59.aCf x59.aCc)) (sw (decide (p1.aCb=12)) (bd (cB fu aaR) fun x62=>bd (m8 fu p1.aCd) fun x64=>bd (p2 ([x62,x64]:List aB) p1.aCa) fun x66=>some (aB.mk x66.aCf x66.aCc)) (bd (cB fu zC) fun x68=>bd (p2 ([x68]:List aB) p1.aCa) fun x70=>so (loopN (amV fu p8 p2 p1 x68 x70) (p1.aCu.length-0) 0 x70.aCc) fun v73=>some (aB.mk x70.aCf v73))))))))))))
theorem agS(fu:Nat)(p8:tJ)(p2:nG)(pE:IQ p8)(p7:F9 p2):IQ (WY fu p8 p2):=by
 intro p1 r H
 refine qJ func243 H (fun C hC H=>?_)
 refine gQ 2 ?_;refine q1 (fD (jE p1)) ?_;refine gQ 14 ?_;refine bC H (fun h1 H=>?_) (fun h1 H=>?_)
 ·refine gQ 4 ?_;refine bK H fun x3 z2 H=>(q1 (bE func255 (DO fu p1.aCR _ z2)) (bK H fun x5 z4 H=>(q1 (bE func239 (b4 fu x3 _ z4)) ?_)))
  exact gE 2
 refine gQ 5 ?_;refine bC H (fun h6 H=>?_) (fun h6 H=>?_)
 ·refine gQ 2 ?_;refine q1 (hH ([mA,qX]:LB)) ?_;refine gQ 2 ?_;refine cF H fun z7 H=>(q1 (rIy z7 aiC.h) (q1 vQ (bK H fun x9 z8 H=>(q1 (bE func239 (b4 fu (aR ([mA,qX]:LB) ((p1.aCR).toNat)) _ z8)) ?_))))
  exact gE 2
 refine gQ 5 ?_;refine bC H (fun h10 H=>?_) (fun h10 H=>?_)
 ·refine gQ 4 ?_;refine bK H fun x12 z11 H=>(q1 (bE func239 (b4 fu p1.aB9 _ z11)) ?_)
  exact gE 2
 refine gQ 5 ?_;refine bC H (fun h13 H=>?_) (fun h13 H=>?_)
 ·refine qS (bK H fun x15 z14 H=>(bK H fun x17 z16 H=>(bK H fun x19 z18 H=>(dW (dI [] (bE func239 (b4 fu RQ _ z14)) (dI [1] bW (dD [31] eE (dI [32] (bE func239 (b4 fu p1.aB9 _ z16)) (dE [30,33] (qP ([x15,x17]:List aB)) (dI [1] bW (dB [35] 0 1 uP (dE [34,36] (eW [] [0] func256 (p7 ([x15,x17]:List aB) p1.aCa _ z18)) (lB [2,37] kG ?_)))))))))))))
  refine dN ?_;exact gE 0
 refine gQ 5 ?_;refine bC H (fun h20 H=>?_) (fun h20 H=>?_)
 ·refine qS (bK H fun x22 z21 H=>(bK H fun x24 z23 H=>(bK H fun x26 z25 H=>(bK H fun x28 z27 H=>(dW (dI [] (bE func239 (b4 fu pX _ z21)) (dI [1] bW (dD [41] eE (dI [42] (bE func239 (b4 fu p1.aCg _ z23)) (dI [1] bW (dD [44] eE (dI [45] (bE func239 (b4 fu p1.aB9 _ z25)) (dE [40,43,46] (qP ([x22,x24,x26]:List aB)) ?_)))))))))))))
  refine dI [1] bW (dB [48] 0 1 uP (dE [47,49] (eW [] [0] func256 (p7 ([x22,x24,x26]:List aB) p1.aCa _ z27)) (lB [2,50] kG (dN ?_))))
  exact gE 0
 refine gQ 5 ?_;refine bC H (fun h29 H=>?_) (fun h29 H=>?_)
 ·refine qS (bK H fun x31 z30 H=>(bK H fun x33 z32 H=>(bK H fun x35 z34 H=>(dW (dI [] (bE func239 (b4 fu GY _ z30)) (dI [1] bW (dD [54] eE (dI [55] (bE func239 (b4 fu p1.aB9 _ z32)) (dE [53,56] (qP ([x31,x33]:List aB)) (dI [1] bW (dB [58] 0 1 uP (dE [57,59] (eW [] [0] func256 (p7 ([x31,x33]:List aB) p1.aCa _ z34)) (lB [2,60] kG ?_)))))))))))))
  refine dN ?_;exact gE 0
 refine gQ 5 ?_;refine bC H (fun h36 H=>?_) (fun h36 H=>?_)
 ·refine qS (bK H fun x38 z37 H=>(bK H fun x40 z39 H=>(bK H fun x42 z41 H=>(dW (dI [] (bE func239 (b4 fu GX _ z37)) (dI [1] bW (dD [64] eE (dI [65] (bE func239 (b4 fu p1.aB9 _ z39)) (dE [63,66] (qP ([x38,x40]:List aB)) (dI [1] bW (dB [68] 0 1 uP (dE [67,69] (eW [] [0] func256 (p7 ([x38,x40]:List aB) p1.aCa _ z41)) (lB [2,70] kG ?_)))))))))))))
  refine dN ?_;exact gE 0
 refine gQ 5 ?_;refine bC H (fun h43 H=>?_) (fun h43 H=>?_)
 ·refine qS (bK H fun x45 z44 H=>(bK H fun x47 z46 H=>(dW (dI [] (bE func239 (b4 fu F4 _ z44)) (dE [73] (qP ([x45]:List aB)) (dI [1] bW (dB [75] 0 1 uP (dE [74,76] (eW [] [0] func256 (p7 ([x45]:List aB) p1.aCa _ z46)) (lB [2,77] kG (dN ?_))))))))))
  exact gE 0
 refine gQ 5 ?_;refine bC H (fun h48 H=>?_) (fun h48 H=>?_)
 ·refine qS (bK H fun x50 z49 H=>(bK H fun x52 z51 H=>(dW (dI [1] bW (dD [80] eE (dI [81] (bE func239 (b4 fu p1.aB9 _ z49)) (dE [82] (qP ([x50]:List aB)) (dI [1] bW (dB [84] 0 1 uP (dE [83,85] (eW [] [0] func256 (p7 ([x50]:List aB) p1.aCa _ z51)) (lB [2,86] kG (dN ?_))))))))))))
  exact gE 0
 refine gQ 5 ?_;refine bC H (fun h53 H=>?_) (fun h53 H=>?_)
 ·refine qS (bK H fun x55 z54 H=>(bK H fun x57 z56 H=>(bK H fun x59 z58 H=>(dW (dI [] (bE func239 (b4 fu zD _ z54)) (dI [1] bW (dD [90] eE (dI [91] (bE func239 (b4 fu p1.aCg _ z56)) (dE [89,92] (qP ([x55,x57]:List aB)) (dI [1] bW (dB [94] 0 1 uP (dE [93,95] (eW [] [0] func256 (p7 ([x55,x57]:List aB) p1.aCa _ z58)) (lB [2,96] kG ?_)))))))))))))
  refine dN ?_;exact gE 0
 refine gQ 5 ?_;refine bC H (fun h60 H=>?_) (fun h60 H=>?_)
 ·refine qS (bK H fun x62 z61 H=>(bK H fun x64 z63 H=>(bK H fun x66 z65 H=>(dW (dI [] (bE func239 (b4 fu aaR _ z61)) (dI [1] bW (dD [100] (bZ [pI p1.aCd.aCb,pS p1.aCd.aB9,aT p1.aCd.aCa]) (dI [101] (bE func242 (yI fu p1.aCd _ z63)) (dE [99,102] (qP ([x62,x64]:List aB)) (dI [1] bW (dB [104] 0 1 uP (dE [103,105] (eW [] [0] func256 (p7 ([x62,x64]:List aB) p1.aCa _ z65)) (lB [2,106] kG ?_)))))))))))))
  refine dN ?_;exact gE 0
 refine gQ 2 ?_;refine bK H fun x68 z67 H=>(bK H fun x70 z69 H=>(dWa (dI [] (bE func239 (b4 fu zC _ z67)) ?_)))
 refine dEz [107] (fun _ z=>by cases z<;>exact rBa ([x68]:List aB) CF.h aa7.h) ?_;refine dI [1] bW (dBz [109] 0 1 uP ?_)
 refine dEz [108,110] (fun _ z=>by cases z<;>exact eW [] [0] func256 (p7 ([x68]:List aB) p1.aCa _ z69)) ?_;refine dA (fun _ st h=>vAl h aa7.h) (dZ 3 [3,111] kG (dN ?_))
 refine gQ 5 ?_;refine cV.fact (cI 0 8 rfl rfl rfl (bU.trs_len _)) (fun hl74=>?_)
 refine bS (σ:=(List aB)) (fun i71 v73=>⟨[(1,.ptr 0 0),(2,.ptr 1 0),(3,.ptr 2 0),(4,pN i71)],⟨[some ⟨211,jE p1⟩,some ⟨189,[pS s_,.nil]⟩,some ⟨189,[pS x70.aCf,eF v73 0]⟩],[⟨189,2,aB.trs (v73),false⟩]⟩⟩) (fun v73=>⟨[(2,.ptr 1 0),(3,.ptr 2 0)],⟨[some ⟨211,jE p1⟩,some ⟨189,[pS s_,.nil]⟩,some ⟨189,[pS x70.aCf,eF v73 0]⟩],[⟨189,2,aB.trs (v73),false⟩]⟩⟩) (eM H) ?_ ?_
 ·rintro i71 v73 H
  refine gQ 9 ?_;refine cS H (fun h75 h75l H=>?_) (fun h75 H=>?_)
  ·refine gQ 8 ?_;refine fV H fun y76 h77 H=>(q1 (yK h77 h75l) (q1 (iK (bU.cs y76)) ?_))
   refine gQ 4 ?_;refine bK H fun x79 z78 H=>(bK H fun x81 z80 H=>(cF H fun z82 H=>(dW (dI [5] bW (dD [124] eE (dI [125] (bE func239 (b4 fu y76.aCy _ z78)) (dE [126] (qP ([x79]:List aB)) (dI [5] bW (dB [128] 0 1 uP (dI [129] (bE func254 (S2 fu y76.aCm _ z80)) (dE [127,130] (lE z82) (dI [131] bF (dN ?_)))))))))))))
   refine bK H fun x84 z83 H=>(cF H fun z85 H=>(cF H fun z86 H=>(dW (dI [3] bW (dB [132] 0 1 uP (dI [6] bF (dI [5] bW (dD [135] (bZ [pI y76.aCj.aCb,pS y76.aCj.aCg,pS y76.aCj.aB9,pI y76.aCj.aCR,pI y76.aCj.aCd.aCb,pS y76.aCj.aCd.aB9,aT y76.aCj.aCd.aCa,iS y76.aCj.aCa,sL y76.aCj.aCu]) (dI [136] (bE func243 (pE y76.aCj _ z83)) (dI [137] (hH ([x84]:List aB)) (dE [134,138] (lE z85) (dI [139] r9 (dI [140] (hH ([(aB.mk s_ ((([x79]:List aB)++x81)++([x84]:List aB)))]:List aB)) ?_)))))))))))))
   refine dE [133,141] (lE z86) (dI [3] bW (lB [143,142] kG (dN ?_)))
   exact gE 5
  exact gE 0
 rintro v73 H
 refine gQ 2 ?_;refine q1 (bZ [pS x70.aCf,eF v73 0]) ?_;exact gE 2
def agO(fu:Nat)(p8:tJ)(p2:nG)(pA:List aB)(p6:List aL):Nat→((List aB))→Option (LR ((List aB)) aB):=fun i1 v3=>lt (aR p6 i1) fun y6=>bd (p8 y6) fun x9=>gd ((v3).length+(([x9]:List aB)).length≤68719476736) (some (.next (v3++([x9]:List aB))))
def MX(fu:Nat)(p8:tJ)(p2:nG)(pA:List aB)(p6:List aL):Option aB:=so (loopN (agO fu p8 p2 pA p6) (p6.length-0) 0 pA) fun v3=>some (aB.mk s_ v3)
theorem Y9(fu:Nat)(p8:tJ)(p2:nG)(pE:IQ p8)(p7:F9 p2):F9 (MX fu p8 p2):=by
 intro pA p6 r H
 refine qJ func256 H (fun C hC H=>?_)
 refine gQ 16 ?_;refine gP 1 (aL.trs_len _) (fun hl4=>?_)
 refine bS (σ:=(List aB)) (fun i1 v3=>⟨[(1,iS p6),(4,.ptr 0 0),(5,.ptr 1 0),(6,pN i1)],⟨[some ⟨189,[pS s_,.nil]⟩,some ⟨189,[pS s_,eF v3 0]⟩],[⟨189,2,aB.trs (v3),false⟩]⟩⟩) (fun v3=>⟨[(4,.ptr 0 0),(5,.ptr 1 0)],⟨[some ⟨189,[pS s_,.nil]⟩,some ⟨189,[pS s_,eF v3 0]⟩],[⟨189,2,aB.trs (v3),false⟩]⟩⟩) (eM H) ?_ ?_
 ·rintro i1 v3 H
  refine gQ 8 ?_;refine cS H (fun h5 h5l H=>?_) (fun h5 H=>?_)
  ·refine gQ 3 ?_;refine fV H fun y6 h7 H=>(bK H fun x9 z8 H=>(cF H fun z10 H=>(dW (dI [5] bW (dD [15] eE (dI [1] bF (dI [6] bF (dI [17,18] (yK h7 h5l) (dI [19] (iK (aL.cs y6)) (dI [20] (bE func243 (pE y6 _ z8)) (dI [21] (hH ([x9]:List aB)) (dE [16,22] (lE z10) (dI [5] bW ?_)))))))))))))
   refine lB [24,23] kG (dN ?_)
   exact gE 5
  exact gE 0
 rintro v3 H
 refine gQ 2 ?_;refine q1 (bZ [pS s_,eF v3 0]) ?_;exact gE 2
mutual
def m4:Nat→aL→Option aB
 |0,_=>none
 |fu+1,p1=>WY fu (m4 fu) (oP fu) p1
def oP:Nat→(List aB)→(List aL)→Option aB
 |0,_,_=>none
 |fu+1,pA,p6=>MX fu (m4 fu) (oP fu) pA p6
end
theorem ajF(fu:Nat):IQ (m4 fu)∧F9 (oP fu):=by
 induction fu with
 |zero=>exact⟨(fun p1 r H=>by simp only [m4] at H;cases H),(fun pA p6 r H=>by simp only [oP] at H;cases H)⟩
 |succ fu ih=>exact⟨(fun p1 r H=>by simp only [m4] at H;exact agS fu (m4 fu) (oP fu) ih.1 ih.2 p1 r H),(fun pA p6 r H=>by simp only [oP] at H;exact Y9 fu (m4 fu) (oP fu) ih.1 ih.2 pA p6 r H)⟩
theorem RX(fu:Nat):IQ (m4 fu):=(ajF fu).1
end
end Go.Proofs.YtfcoaagbccmahaaGreat.W
