/- Words, rules and walks of several kinds, laid together. No conditions but those that each theorem states. -/
import Derived.Test.YtfcoaagbccmahaaGreatQh1c6052c5
set_option linter.unusedSimpArgs false
set_option linter.unusedVariables false
namespace Go.Proofs.YtfcoaagbccmahaaGreat.W
set_option maxRecDepth 100000
set_option maxHeartbeats 40000000
noncomputable section
open Tryz Go.RowKit Go.Proofs
attribute [local irreducible] lt
def aaW(fu:Nat)(p3:LB)(ps:ByteArray):Nat→Unit→Option (LR Unit Bool):=fun i1 _=>sw (decide (aT p3 i1=ps)) (some (.ret true)) (some (.next ()))
def lA(fu:Nat)(p3:LB)(ps:ByteArray):Option Bool:=so (loopN (aaW fu p3 ps) (p3.length-0) 0 ()) fun _=>some false
theorem mH(fu:Nat)(p3:LB)(ps:ByteArray)(r:Bool)(H:lA fu p3 ps=some r):bR Tryz.prog 153 [rS p3,pS ps] (pB r):=by
 refine qJ func153 H (fun C hC H=>?_)
 refine gQ 9 ?_;refine gL 0 (bV _) (fun hl2=>?_)
 refine bU (σ:=Unit) (fun i1 _=>⟨[(0,rS p3),(1,pS ps),(4,pB false),(5,pN i1)],⟨[],[]⟩⟩) (fun _=>⟨[(4,pB false)],⟨[],[]⟩⟩) (eK H) ?_ ?_
 ·rintro i1 ⟨⟩ H
  refine gQ 8 ?_;refine cS H (fun h3 h3l H=>?_) (fun h3 H=>?_)
  ·refine gQ 12 ?_;refine bC H (fun h4 H=>gE 4) fun h4 H=>?_;exact gE 6
  exact gE 0
 rintro⟨⟩ H
 exact gE 4
def xB(fu:Nat)(ps:ByteArray):Option Bool:=bd (lA fu ([eG,eD,jD,zM,GC,G5,zA,G6,o7,zB,qM,l8]:LB) ps) fun x2=>some x2
theorem WJ(fu:Nat)(ps:ByteArray)(r:Bool)(H:xB fu ps=some r):bR Tryz.prog 227 [pS ps] (pB r):=by
 refine qJ func227 H (fun C hC H=>?_)
 refine gQ 6 ?_;refine q1 (iF ([eG,eD,jD,zM,GC,G5,zA,G6,o7,zB,qM,l8]:LB)) (q1 bF (bK H fun x2 z1 H=>(q1 (bE func153 (mH fu ([eG,eD,jD,zM,GC,G5,zA,G6,o7,zB,qM,l8]:LB) ps _ z1)) ?_)))
 exact gE 2
def TY(fu:Nat)(ps:ByteArray)(x2 x5:Bool):Nat→Unit→Option (LR Unit Bool):=fun i7 _=>gd (i7<(ps).size) (sw (decide ((((FL ps i7).toNat:Int):Int)≥97)) (sw (!(decide ((((FL ps i7).toNat:Int):Int)≤122))) (sw (decide ((i7:Int)=0)) (some (.ret false)) (sw (decide ((((FL ps i7).toNat:Int):Int)<48)) (some (.ret false)) (sw (decide ((((FL ps i7).toNat:Int):Int)>57)) (some (.ret false)) (some (.next ()))))) (some (.next ()))) (sw (decide ((i7:Int)=0)) (some (.ret false)) (sw (decide ((((FL ps i7).toNat:Int):Int)<48)) (some (.ret false)) (sw (decide ((((FL ps i7).toNat:Int):Int)>57)) (some (.ret false)) (some (.next ()))))))
def c6(fu:Nat)(ps:ByteArray):Option Bool:=bd (sK fu (ps.size:Int) 1 8) fun x2=>sw (!(x2)) (some false) (bd (xB fu ps) fun x5=>sw x5 (some false) (so (loopN (TY fu ps x2 x5) (ps.size-0) 0 ()) fun _=>some true))
theorem eC(fu:Nat)(ps:ByteArray)(r:Bool)(H:c6 fu ps=some r):bR Tryz.prog 205 [pS ps] (pB r):=by
 refine qJ func205 H (fun C hC H=>?_)
 refine gQ 8 ?_;refine q1 (bB.lenS rfl rfl rfl Tryz.underlying9) (bK H fun x2 z1 H=>(q1 (bE func64 (yD fu (ps.size:Int) 1 8 _ z1)) ?_))
 refine gQ 2 ?_;refine dH 9 H (fun g3 H=>gE 9) fun g3 H=>?_;refine qg g3 bF (bK H fun x5 z4 H=>(qg g3 (bE func227 (WJ fu ps _ z4)) ?_))
 refine gQ 2 ?_;refine bC H (fun h6 H=>gE 4) fun h6 H=>?_;refine gQ 6 ?_;refine szF 0 (fun hl8=>?_)
 refine bU (σ:=Unit) (fun i7 _=>⟨[(0,pS ps),(2,pB false),(3,pN i7)],⟨[],[]⟩⟩) (fun _=>⟨[(2,pB false)],⟨[],[]⟩⟩) (eK H) ?_ ?_
 ·rintro i7 ⟨⟩ H
  refine gQ 5 ?_;refine q1 (bB.lenS rfl rfl rfl Tryz.underlying9) ?_;refine gQ 2 ?_;refine cS H (fun h9 h9l H=>?_) (fun h9 H=>?_)
  ·have h9n:i7<ps.size:=by have:=of_decide_eq_true h9;omega
   refine gQ 7 ?_;refine cC H fun z10 H=>(q1 (bB.indexS (k:=i7) rfl rfl rfl rfl z10 Tryz.underlying9) ?_)
   refine gQ 2 ?_;refine dH 23 H (fun g11 H=>?_) fun g11 H=>?_
   ·refine gQ 2 ?_;refine qg g11 (bB.indexS (k:=i7) rfl rfl rfl rfl z10 Tryz.underlying9) ?_;refine gQ 9 ?_;refine dH 31 H (fun g12 H=>?_) fun g12 H=>?_
    ·refine gQ 3 ?_;refine dH 34 H (fun g13 H=>gE 18) fun g13 H=>?_;refine gQ 2 ?_;refine qg g13 (bB.indexS (k:=i7) rfl rfl rfl rfl z10 Tryz.underlying9) ?_;refine gQ 3 ?_;refine dH 40 H (fun g14 H=>gE 12) fun g14 H=>?_;refine gQ 2 ?_;refine qg g14 (bB.indexS (k:=i7) rfl rfl rfl rfl z10 Tryz.underlying9) ?_;refine gQ 4 ?_;refine bC H (fun h15 H=>gE 4) fun h15 H=>?_;exact gE 6
    exact gE 23
   refine gQ 12 ?_;refine qg (congrArg (fun b=> !b) (rfl:false=false)) bF (qg (congrArg (fun b=> !b) (rfl:false=false)) rEq (qg (congrArg (fun b=> !b) (rfl:false=false)) bF ?_))
   refine dH 34 H (fun g16 H=>?_) fun g16 H=>?_
   ·refine gQ 4 ?_;refine qg (congrArg (fun b=> !b) (rfl:false=false)) (DV g16) (qg (congrArg (fun b=> !b) (rfl:false=false)) bF ?_)
    refine gQ 4 ?_;refine qg (congrArg (fun b=> !b) (rfl:false=false)) (DV rfl) (q1 (DV (congrArg (fun b=> !b) (rfl:false=false))) ?_)
    exact gE 6
   refine gQ 2 ?_;refine qg g16 (bB.indexS (k:=i7) rfl rfl rfl rfl z10 Tryz.underlying9) (qg g16 rLt (qg (congrArg (fun b=> !b) (rfl:false=false)) (F5 g16) (qg (congrArg (fun b=> !b) (rfl:false=false)) bF ?_)))
   refine dH 40 H (fun g17 H=>?_) fun g17 H=>?_
   ·refine gQ 4 ?_;refine qg (congrArg (fun b=> !b) (rfl:false=false)) (DV g17) (q1 (DV (congrArg (fun b=> !b) (rfl:false=false))) ?_)
    exact gE 6
   refine gQ 2 ?_;refine qg g17 (bB.indexS (k:=i7) rfl rfl rfl rfl z10 Tryz.underlying9) (qg g17 rGt (qg (congrArg (fun b=> !b) (rfl:false=false)) (F5 g17) (q1 (DV (congrArg (fun b=> !b) (rfl:false=false))) (qN ?_))))
   refine bC H (fun h18 H=>gE 4) fun h18 H=>?_;exact gE 6
  exact gE 0
 rintro⟨⟩ H
 exact gE 4
def ag8(fu:Nat)(p3:LB):Nat→Unit→Option (LR Unit Bool):=fun i1 _=>bd (c6 fu (aT p3 i1)) fun x5=>sw (!(x5)) (some (.ret false)) (some (.next ()))
def GQ(fu:Nat)(p3:LB):Option Bool:=so (loopN (ag8 fu p3) (p3.length-0) 0 ()) fun _=>some true
theorem S7(fu:Nat)(p3:LB)(r:Bool)(H:GQ fu p3=some r):bR Tryz.prog 228 [rS p3] (pB r):=by
 refine qJ func228 H (fun C hC H=>?_)
 refine gQ 9 ?_;refine gL 0 (bV _) (fun hl2=>?_)
 refine bU (σ:=Unit) (fun i1 _=>⟨[(0,rS p3),(2,pB false),(3,pN i1)],⟨[],[]⟩⟩) (fun _=>⟨[(2,pB false)],⟨[],[]⟩⟩) (eK H) ?_ ?_
 ·rintro i1 ⟨⟩ H
  refine gQ 8 ?_;refine cS H (fun h3 h3l H=>?_) (fun h3 H=>?_)
  ·refine gQ 9 ?_;refine bK H fun x5 z4 H=>(q1 (bE func205 (eC fu (aT p3 i1) _ z4)) ?_)
   refine gQ 2 ?_;refine bC H (fun h6 H=>gE 4) fun h6 H=>?_;exact gE 6
  exact gE 0
 rintro⟨⟩ H
 exact gE 4
def TP(fu:Nat)(p3:LB):Nat→Unit→Option (LR Unit Bool):=fun i1 _=>gd ((0:Int)≤0∧(0:Int)≤(i1:Int)∧(i1:Int)≤(p3.length:Int)) (bd (lA fu (List.drop (0:Int).toNat (List.take (i1:Int).toNat p3)) (aT p3 i1)) fun x6=>sw x6 (some (.ret false)) (some (.next ())))
def kQ(fu:Nat)(p3:LB):Option Bool:=so (loopN (TP fu p3) (p3.length-0) 0 ()) fun _=>some true
theorem mF(fu:Nat)(p3:LB)(r:Bool)(H:kQ fu p3=some r):bR Tryz.prog 207 [rS p3] (pB r):=by
 refine qJ func207 H (fun C hC H=>?_)
 refine gQ 9 ?_;refine gL 0 (bV _) (fun hl2=>?_)
 refine bU (σ:=Unit) (fun i1 _=>⟨[(0,rS p3),(2,pB false),(3,pN i1)],⟨[],[]⟩⟩) (fun _=>⟨[(2,pB false)],⟨[],[]⟩⟩) (eK H) ?_ ?_
 ·rintro i1 ⟨⟩ H
  refine gQ 8 ?_;refine cS H (fun h3 h3l H=>?_) (fun h3 H=>?_)
  ·refine gQ 4 ?_;refine cC H fun z4 H=>(bK H fun x6 z5 H=>(dW (dI [0] bF (dI [3] bF ?_))))
   refine dI [10,11] (bB.congrP (bB.sliceR (es:=aY (p3)) (l:=0) (k:=(i1:Int)) rfl rfl rfl rfl rfl (by rw [bV];exact rfl) (by rw [bV];exact z4) aiD.h) (ahL _ _ _)) ?_;refine dI [0] bF (dI [3] bF (dI [13,14] qF (dI [15] vM (dI [12,16] (bE func153 (mH fu (List.drop (0:Int).toNat (List.take (i1:Int).toNat p3)) (aT p3 i1) _ z5)) (dN ?_)))))
   refine bC H (fun h7 H=>gE 4) fun h7 H=>?_;exact gE 6
  exact gE 0
 rintro⟨⟩ H
 exact gE 4
def ahE(m:ByteArray→Option aA):Prop:= ∀(ps:ByteArray) (r:aA),m ps=some r→AY Tryz.prog 137 [pS ps] ⟨[],[]⟩ [] 30 3 (aA.trs (r.aB4)) (fun k=> .agg [pI r.aB5,pS r.aB3,gM r.aB4 k])
theorem kD{m:ByteArray→Option aA}(h:ahE m)(ps:ByteArray)(r:aA)(H:m ps=some r):bR Tryz.prog 137 [pS ps] ((aA.pv r):PV):=(h ps r H).plain (fun _=>jN) (hp:=VX)
def l4(fu:Nat)(ps:ByteArray):Option aA:=some (aA.mk 1 ps [])
theorem jH(fu:Nat):ahE (l4 fu):=by
 intro ps r H
 unfold AY
 refine qJ func137 H (fun C hC H=>?_)
 refine gQ 10 ?_;refine cQ.wk (Wk.regBox (k:=0) (j:=2) 30 3 (by decide) rfl rfl) (cQ.ret ?_)
 obtain rfl:_=r:=(vI H:)
 exact V6 (st':=⟨[],[⟨30,3,aA.trs ([]),false⟩]⟩) ⟨0,rfl,rfl,rfl⟩ (hr:=⟨⟨_,_,_,rfl,rfl,CC.h,rfl,rfl⟩,trivial⟩)
def ag9(m:ByteArray→(List aA)→Option aA):Prop:= ∀(ps:ByteArray) (pE:List aA) (r:aA),m ps pE=some r→AY Tryz.prog 47 [pS ps,aR pE] ⟨[],[]⟩ [] 30 3 (aA.trs (r.aB4)) (fun k=> .agg [pI r.aB5,pS r.aB3,gM r.aB4 k])
theorem mJ{m:ByteArray→(List aA)→Option aA}(h:ag9 m)(ps:ByteArray)(pE:List aA)(r:aA)(H:m ps pE=some r):bR Tryz.prog 47 [pS ps,aR pE] ((aA.pv r):PV):=(h ps pE r H).plain (fun _=>jN) (hp:=VX)
def eY(fu:Nat)(ps:ByteArray)(pE:List aA):Option aA:=gd (([]:List aA).length+(pE).length≤68719476736) (some (aA.mk 2 ps (([])++pE)))
theorem fO(fu:Nat):ag9 (eY fu):=by
 intro ps pE r H
 unfold AY
 refine qJ func47 H (fun C hC H=>?_)
 refine gQ 7 ?_;refine q1 (qE ([]:List aA)) (q1 bF (cC H fun z1 H=>(q1 (lG z1) ?_)))
 refine gQ 3 ?_;refine cQ.ret ?_
 obtain rfl:_=r:=(vI H:)
 exact V6 (st':=⟨[],[⟨30,3,aA.trs (([])++pE),false⟩]⟩) ⟨0,rfl,rfl,rfl⟩ (hr:=⟨⟨_,_,_,rfl,rfl,CC.h,rfl,rfl⟩,trivial⟩)
abbrev KC:=aB→Option aA
def UN(m:KC):Prop:= ∀(p1:aB) (r:aA),m p1=some r→bR Tryz.prog 219 [(aB.pv p1)] ((aA.pv r):PV)
def aoN(fu:Nat)(pG:KC)(p1:aB):Nat→((List aA))→Option (LR ((List aA)) aA):=fun i11 v13=>bd (pG (aT p1.aB6 i11)) fun x17=>gd ((v13).length+(([x17]:List aA)).length≤68719476736) (some (.next (v13++([x17]:List aA))))
def adX(fu:Nat)(pG:KC)(p1:aB):Option aA:=sw (!decide (p1.aB9=s_)) (gd (0<(p1.aB9).size) (sw (decide ((((FL p1.aB9 0).toNat:Int):Int)=39)) (gd ((0:Int)≤1∧(1:Int)≤(p1.aB9.size:Int)∧(p1.aB9.size:Int)≤(p1.aB9.size:Int)) (bd (l4 fu (p1.aB9.extract (1:Int).toNat (p1.aB9.size:Int).toNat)) fun x6=>some x6)) (bd (eY fu p1.aB9 ([])) fun x8=>some x8))) (sw (decide ((p1.aB6.length:Int)<2)) (some (aA.mk 0 s_ [])) (gd (0<(p1.aB6).length) (so (loopN (aoN fu pG p1) (p1.aB6.length-1) 1 ([])) fun v13=>sw (decide ((aT p1.aB6 0).aB9=jD)) (sw (decide ((v13.length:Int)=2)) (gd (1<(p1.aB6).length) (sw (!decide ((aT p1.aB6 1).aB9=s_)) (gd ((0:Int)≤1∧(1:Int)≤(v13.length:Int)∧(v13.length:Int)≤(v13.length:Int)) (some (aA.mk 3 ((aT p1.aB6 1).aB9) (List.drop (1:Int).toNat (List.take (v13.length:Int).toNat v13))))) (sw (decide ((aT p1.aB6 0).aB9=zM)) (some (aA.mk 2 ((aT p1.aB6 0).aB9) v13)) (some (aA.mk 2 ((aT p1.aB6 0).aB9) v13))))) (sw (decide ((aT p1.aB6 0).aB9=zM)) (sw (decide ((v13.length:Int)=1)) (gd (1<(p1.aB6).length) (sw (!decide ((aT p1.aB6 1).aB9=s_)) (some (aA.mk 4 ((aT p1.aB6 1).aB9) [])) (some (aA.mk 2 ((aT p1.aB6 0).aB9) v13)))) (some (aA.mk 2 ((aT p1.aB6 0).aB9) v13))) (some (aA.mk 2 ((aT p1.aB6 0).aB9) v13)))) (sw (decide ((aT p1.aB6 0).aB9=zM)) (sw (decide ((v13.length:Int)=1)) (gd (1<(p1.aB6).length) (sw (!decide ((aT p1.aB6 1).aB9=s_)) (some (aA.mk 4 ((aT p1.aB6 1).aB9) [])) (some (aA.mk 2 ((aT p1.aB6 0).aB9) v13)))) (some (aA.mk 2 ((aT p1.aB6 0).aB9) v13))) (some (aA.mk 2 ((aT p1.aB6 0).aB9) v13))))))
theorem akC(fu:Nat)(pG:KC)(pQ:UN pG):UN (adX fu pG):=by
 intro p1 r H
 refine qJ func219 H (fun C hC H=>?_)
 refine gQ 2 ?_;refine q1 (eX ([pS p1.aB9,bH p1.aB6])) ?_;refine gQ 9 ?_;refine bC H (fun h1 H=>?_) (fun h1 H=>?_)
 ·refine gQ 5 ?_;refine cC H fun z2 H=>(q1 (bB.indexS (k:=0) rfl rfl rfl rfl z2 Tryz.underlying9) ?_)
  refine gQ 2 ?_;refine bC H (fun h3 H=>?_) (fun h3 H=>?_)
  ·refine gQ 4 ?_;refine cC H fun z4 H=>(q1 (bB.sliceS (l:=1) (k:=(p1.aB9.size:Int)) rfl rfl rfl rfl rfl z4 Tryz.underlying9) (bK H fun x6 z5 H=>(q1 (bE func137 (kD (jH fu) (p1.aB9.extract (1:Int).toNat (p1.aB9.size:Int).toNat) _ z5)) ?_)))
   exact gE 2
  refine gQ 5 ?_;refine bK H fun x8 z7 H=>(q1 (bE func47 (mJ (fO fu) p1.aB9 ([]) _ z7)) ?_)
  exact gE 2
 refine gQ 9 ?_;refine bC H (fun h9 H=>?_) (fun h9 H=>?_)
 ·have h9n:p1.aB6.length<2:=by have:=of_decide_eq_true h9;omega
  exact gE 5
 refine gQ 5 ?_;refine cC H fun z10 H=>?_;refine gQ 7 ?_;refine q1 (qE ([]:List aA)) ?_;refine gQ 7 ?_;refine gL 21 (aB.trs_len _) (fun hl14=>?_)
 refine bU (σ:=(List aA)) (fun i11 v13=>⟨[(1,.ptr 0 0),(2,.ptr 1 0),(3,pS ((aT p1.aB6 0).aB9)),(4,gM v13 0),(5,pN i11)],⟨[some ⟨189,[pS p1.aB9,bH p1.aB6]⟩,some ⟨30,[pI 0,pS s_,.nil]⟩],[⟨30,3,aA.trs (v13),false⟩]⟩⟩) (fun v13=>⟨[(1,.ptr 0 0),(2,.ptr 1 0),(3,pS ((aT p1.aB6 0).aB9)),(4,gM v13 0)],⟨[some ⟨189,[pS p1.aB9,bH p1.aB6]⟩,some ⟨30,[pI 0,pS s_,.nil]⟩],[⟨30,3,aA.trs (v13),false⟩]⟩⟩) (eK H) ?_ ?_
 ·rintro i11 v13 H
  refine gQ 9 ?_;refine cS H (fun h15 h15l H=>?_) (fun h15 H=>?_)
  ·refine gQ 9 ?_;refine q1 (iI (aB.cs (aT p1.aB6 i11))) (bK H fun x17 z16 H=>(q1 (bE func219 (pQ (aT p1.aB6 i11) _ z16)) (q1 (iF ([x17]:List aA)) (cC H fun z18 H=>(q1 (lG z18) ?_)))))
   exact gE 7
  exact gE 0
 rintro v13 H
 refine gQ 7 ?_;refine dH 50 H (fun g19 H=>?_) fun g19 H=>?_
 ·refine gQ 5 ?_;refine dH 55 H (fun g20 H=>?_) fun g20 H=>?_
  ·refine gQ 2 ?_;refine cC H fun z21 H=>?_;refine gQ 7 ?_;refine bC H (fun h22 H=>?_) (fun h22 H=>?_)
   ·refine qS (cC H fun z23 H=>(dW (dI [1] bZ (dD [63] eE (dI [64] qF (dI [65] wZ (dI [66] vM (dI [4] bF ?_))))))))
    refine dI [68] (bB.congrP (bB.sliceR (es:=aA.trs (v13)) (l:=1) (k:=(v13.length:Int)) rfl rfl rfl rfl rfl (by rw [aA.trs_len];exact rfl) (by rw [aA.trs_len];exact z23) anO.h) (aA.trs_part _ _ _)) ?_;refine dI [67,69] rW (kU [2,70] jO (dN ?_))
    exact gE 0
   refine gQ 5 ?_;refine dH 74 H (fun g24 H=>?_) fun g24 H=>?_
   ·refine gQ 5 ?_
    iterate 6 refine qk (dne (b:=1) g20 (by decide)) ?_
    refine q1 (F5 (dne (b:=1) g20 (by decide))) ?_;exact gE 11
   exact gE 23
  refine gQ 15 ?_;refine dH 74 H (fun g25 H=>?_) fun g25 H=>?_
  ·refine gQ 5 ?_;refine dH 79 H (fun g26 H=>?_) fun g26 H=>?_
   ·refine gQ 2 ?_;refine cC H fun z27 H=>?_;refine gQ 7 ?_;refine bC H (fun h28 H=>gE 10) fun h28 H=>?_;exact gE 8
   exact gE 18
  exact gE 23
 refine gQ 20 ?_;refine dH 74 H (fun g29 H=>?_) fun g29 H=>?_
 ·refine gQ 5 ?_;refine dH 79 H (fun g30 H=>?_) fun g30 H=>?_
  ·refine gQ 2 ?_;refine cC H fun z31 H=>?_;refine gQ 7 ?_;refine bC H (fun h32 H=>gE 10) fun h32 H=>?_;exact gE 8
  exact gE 18
 exact gE 23
def m7:Nat→aB→Option aA
 |0,_=>none
 |fu+1,p1=>adX fu (m7 fu) p1
theorem am0(fu:Nat):UN (m7 fu):=by
 induction fu with
 |zero=>exact(fun p1 r H=>by simp only [m7] at H;cases H)
 |succ fu ih=>exact(fun p1 r H=>by simp only [m7] at H;exact akC fu (m7 fu) ih p1 r H)
theorem yH(fu:Nat):UN (m7 fu):=(am0 fu)
abbrev C8:=aA→Option aB
def UM(m:C8):Prop:= ∀(p1:aA) (r:aB),m p1=some r→bR Tryz.prog 242 [(aA.pv p1)] ((aB.pv r):PV)
def aoJ(fu:Nat)(p9:C8)(p1:aA):Option (aB⊕Unit):=sw (decide (p1.aB5=1)) (gd ((am5).size+(p1.aB3).size≤1099511627776) (bd (cB fu (am5++p1.aB3)) fun x4=>some (.inl x4))) (sw (decide (p1.aB5=4)) (bd (cB fu zM) fun x7=>bd (cB fu p1.aB3) fun x9=>bd (mI fu ([x7,x9]:List aB)) fun x11=>some (.inl x11)) (sw (decide (p1.aB5=2)) (sw (decide ((p1.aB4.length:Int)=0)) (bd (cB fu p1.aB3) fun x15=>some (.inl x15)) (some (.inr ()))) (some (.inr ()))))
def aoK(fu:Nat)(p9:C8)(p1:aA):Option (aB⊕((List aB))):=sw (decide (p1.aB5=3)) (bd (cB fu jD) fun x20=>gd (([]:List aB).length+(([x20]:List aB)).length≤68719476736) (some (.inr (([])++([x20]:List aB))))) (some (.inr ([])))
def aoL(fu:Nat)(p9:C8)(p1:aA)(v17:List aB)(x23:aB):Nat→((List aB))→Option (LR ((List aB)) aB):=fun i25 v27=>bd (p9 (aT p1.aB4 i25)) fun x31=>gd ((v27).length+(([x31]:List aB)).length≤68719476736) (some (.next (v27++([x31]:List aB))))
def adW(fu:Nat)(p9:C8)(p1:aA):Option aB:=so (aoJ fu p9 p1) fun _=>so (aoK fu p9 p1) fun v17=>bd (cB fu p1.aB3) fun x23=>gd ((v17).length+(([x23]:List aB)).length≤68719476736) (so (loopN (aoL fu p9 p1 v17 x23) (p1.aB4.length-0) 0 (v17++([x23]:List aB))) fun v27=>some (aB.mk s_ v27))
theorem akB(fu:Nat)(p9:C8)(pR:UM p9):UM (adW fu p9):=by
 intro p1 r H
 refine qJ func242 H (fun C hC H=>?_)
 refine gQ 2 ?_;refine q1 (eX (bM p1)) ?_;refine gQ 3 ?_;refine nV (σ:=Unit) (fun _=>⟨[(1,.ptr 0 0),(2,.ptr 1 0)],⟨[some ⟨30,bM p1⟩,some ⟨189,[pS s_,.nil]⟩],[]⟩⟩) (eK H) (fun H=>?_) ?_
 ·refine gQ 8 ?_;refine bC H (fun h1 H=>?_) (fun h1 H=>?_)
  ·refine gQ 4 ?_;refine cC H fun z2 H=>(q1 (bB.addS rfl rfl rfl rfl (Nat.le_trans z2 (by decide))) (bK H fun x4 z3 H=>(q1 (bE func239 (b5 fu (am5++p1.aB3) _ z3)) ?_)))
   exact gE 2
  refine gQ 7 ?_;refine bC H (fun h5 H=>?_) (fun h5 H=>?_)
  ·refine qS (bK H fun x7 z6 H=>(bK H fun x9 z8 H=>(bK H fun x11 z10 H=>(dW (dI [] (bE func239 (b5 fu zM _ z6)) (dI [1] bZ (dD [18] eE (dI [19] (bE func239 (b5 fu p1.aB3 _ z8)) (dI [17,20] (iF ([x7,x9]:List aB)) (dI [21] (bE func238 (GO (nE fu) ([x7,x9]:List aB) _ z10)) (kU [2,22] jO (dN ?_))))))))))))
   exact gE 0
  refine gQ 6 ?_;refine dH 27 H (fun g12 H=>?_) fun g12 H=>?_
  ·refine gQ 7 ?_;refine bC H (fun h13 H=>?_) (fun h13 H=>?_)
   ·refine gQ 4 ?_;refine bK H fun x15 z14 H=>(q1 (bE func239 (b5 fu p1.aB3 _ z14)) ?_)
    exact gE 2
   exact gE 1
  exact gE 9
 rintro⟨⟩ H
 refine gQ 7 ?_;refine cQ.wk (Wk.regBox (k:=2) (j:=1) 189 2 (by decide) rfl rfl) ?_;refine nV (σ:=(List aB)) (fun v17=>⟨[(1,.ptr 0 0),(2,.ptr 1 0),(3,.ptr 2 0)],⟨[some ⟨30,bM p1⟩,some ⟨189,[pS s_,.nil]⟩,some ⟨189,[pS s_,eF v17 0]⟩],[⟨189,2,aB.trs (v17),false⟩]⟩⟩) (eK H) (fun H=>?_) ?_
 ·refine gQ 6 ?_;refine bC H (fun h18 H=>?_) (fun h18 H=>?_)
  ·refine bK H fun x20 z19 H=>(cC H fun z21 H=>(dW (dI [3] bZ (dD [40] eE (dI [] (bE func239 (b5 fu jD _ z19)) (dI [42] (iF ([x20]:List aB)) (dE [41,43] (lG z21) (dI [3] bZ (kU [45,44] jO (dN ?_))))))))))
   exact gE 0
  exact gE 1
 rintro v17 H
 refine qS (bK H fun x23 z22 H=>(cC H fun z24 H=>(dW (dI [3] bZ (dD [46] eE (dI [1] bZ (dD [48] eE (dI [49] (bE func239 (b5 fu p1.aB3 _ z22)) (dI [50] (iF ([x23]:List aB)) (dE [47,51] (lG z24) (dI [3] bZ (kU [53,52] jO (dN ?_)))))))))))))
 refine gQ 5 ?_;refine cQ.fact (cI 0 2 rfl rfl rfl (aA.trs_len _)) (fun hl28=>?_)
 refine bU (σ:=(List aB)) (fun i25 v27=>⟨[(1,.ptr 0 0),(2,.ptr 1 0),(3,.ptr 2 0),(4,pN i25)],⟨[some ⟨30,bM p1⟩,some ⟨189,[pS s_,.nil]⟩,some ⟨189,[pS s_,eF v27 0]⟩],[⟨189,2,aB.trs (v27),false⟩]⟩⟩) (fun v27=>⟨[(2,.ptr 1 0),(3,.ptr 2 0)],⟨[some ⟨30,bM p1⟩,some ⟨189,[pS s_,.nil]⟩,some ⟨189,[pS s_,eF v27 0]⟩],[⟨189,2,aB.trs (v27),false⟩]⟩⟩) (eK H) ?_ ?_
 ·rintro i25 v27 H
  refine gQ 9 ?_;refine cS H (fun h29 h29l H=>?_) (fun h29 H=>?_)
  ·refine gQ 3 ?_;refine bK H fun x31 z30 H=>(cC H fun z32 H=>(dW (dI [3] bZ (dD [61] eE (dI [1] bZ (dD [63] eE (dI [4] bF (dI [64,65] qF (dI [66] (iI (aA.cs (aT p1.aB4 i25))) (dI [67] (bE func242 (pR (aT p1.aB4 i25) _ z30)) (dI [68] (iF ([x31]:List aB)) (dE [62,69] (lG z32) (dI [3] bZ ?_)))))))))))))
   refine kU [71,70] jO (dN ?_)
   exact gE 5
  exact gE 0
 rintro v27 H
 refine gQ 2 ?_;refine q1 (bW [pS s_,eF v27 0]) ?_;exact gE 2
def m6:Nat→aA→Option aB
 |0,_=>none
 |fu+1,p1=>adW fu (m6 fu) p1
theorem amZ(fu:Nat):UM (m6 fu):=by
 induction fu with
 |zero=>exact(fun p1 r H=>by simp only [m6] at H;cases H)
 |succ fu ih=>exact(fun p1 r H=>by simp only [m6] at H;exact akB fu (m6 fu) ih p1 r H)
theorem yG(fu:Nat):UM (m6 fu):=(amZ fu)
abbrev AX:=aA→Int→Option Int
def J7(m:AX):Prop:= ∀(pt:aA) (pD:Int) (r:Int),m pt pD=some r→bR Tryz.prog 264 [(aA.pv pt),pI pD] (pI r:PV)
def aj2(fu:Nat)(pA:AX)(pt:aA)(pD:Int):Nat→Int→Option (LR Int Int):=fun i1 v2=>sw (decide (v2≥0)) (bd (pA (aT pt.aB4 i1) v2) fun x7=>some (.next x7)) (some (.brk v2))
def SC(fu:Nat)(pA:AX)(pt:aA)(pD:Int):Option Int:=so (loopN (aj2 fu pA pt pD) (pt.aB4.length-0) 0 (aX (pD-1))) fun v2=>some v2
theorem adT(fu:Nat)(pA:AX)(pM:J7 pA):J7 (SC fu pA):=by
 intro pt pD r H
 refine qJ func264 H (fun C hC H=>?_)
 refine gQ 2 ?_;refine q1 (eX (bM pt)) ?_;refine gQ 13 ?_;refine cQ.fact (cI 0 2 rfl rfl rfl (aA.trs_len _)) (fun hl3=>?_)
 refine bU (σ:=Int) (fun i1 v2=>⟨[(1,pI v2),(2,.ptr 0 0),(4,pI 0),(5,pN i1)],⟨[some ⟨30,bM pt⟩],[]⟩⟩) (fun v2=>⟨[(1,pI v2),(4,pI 0)],⟨[some ⟨30,bM pt⟩],[]⟩⟩) (eK H) ?_ ?_
 ·rintro i1 v2 H
  refine gQ 9 ?_;refine AL.splitB 13 rfl (fun g4=>?_) (fun g4=>?_)
  ·have g4l:=wK g4
   have H:=lnT g4l H
   have g4n:=AO g4
   refine gQ 4 ?_;refine bC H (fun h5 H=>?_) (fun h5 H=>?_)
   ·refine gQ 8 ?_;refine q1 (iI (aA.cs (aT pt.aB4 i1))) (q1 bF (bK H fun x7 z6 H=>(q1 (bE func264 (pM (aT pt.aB4 i1) v2 _ z6)) ?_)))
    exact gE 7
   exact gE 0
  have H:=lnE (wJ g4) H
  exact gE 5
 rintro v2 H
 exact gE 5
def qC:Nat→aA→Int→Option Int
 |0,_,_=>none
 |fu+1,pt,pD=>SC fu (qC fu) pt pD
theorem ahC(fu:Nat):J7 (qC fu):=by
 induction fu with
 |zero=>exact(fun pt pD r H=>by simp only [qC] at H;cases H)
 |succ fu ih=>exact(fun pt pD r H=>by simp only [qC] at H;exact adT fu (qC fu) ih pt pD r H)
theorem aj4(fu:Nat):J7 (qC fu):=(ahC fu)
abbrev sI:=aA→Option Int
def zZ(m:sI):Prop:= ∀(pt:aA) (r:Int),m pt=some r→bR Tryz.prog 265 [(aA.pv pt)] (pI r:PV)
def Y5(fu:Nat)(p7:sI)(pt:aA):Nat→Int→Option (LR Int Int):=fun i1 v2=>bd (p7 (aT pt.aB4 i1)) fun x6=>bd (PF fu v2 (aX (1+x6))) fun x8=>some (.next x8)
def GA(fu:Nat)(p7:sI)(pt:aA):Option Int:=so (loopN (Y5 fu p7 pt) (pt.aB4.length-0) 0 0) fun v2=>some v2
theorem T4(fu:Nat)(p7:sI)(pL:zZ p7):zZ (GA fu p7):=by
 intro pt r H
 refine qJ func265 H (fun C hC H=>?_)
 refine gQ 2 ?_;refine q1 (eX (bM pt)) ?_;refine gQ 11 ?_;refine cQ.fact (cI 0 2 rfl rfl rfl (aA.trs_len _)) (fun hl3=>?_)
 refine bU (σ:=Int) (fun i1 v2=>⟨[(1,.ptr 0 0),(2,pI 0),(3,pI v2),(4,pN i1)],⟨[some ⟨30,bM pt⟩],[]⟩⟩) (fun v2=>⟨[(2,pI 0),(3,pI v2)],⟨[some ⟨30,bM pt⟩],[]⟩⟩) (eK H) ?_ ?_
 ·rintro i1 v2 H
  refine gQ 9 ?_;refine cS H (fun h4 h4l H=>?_) (fun h4 H=>?_)
  ·refine gQ 9 ?_;refine q1 (iI (aA.cs (aT pt.aB4 i1))) (bK H fun x6 z5 H=>(q1 (bE func265 (pL (aT pt.aB4 i1) _ z5)) (q1 rAw (bK H fun x8 z7 H=>(q1 (bE func215 (aaX fu v2 (aX (1+x6)) _ z7)) ?_)))))
   exact gE 7
  exact gE 0
 rintro v2 H
 exact gE 5
def kH:Nat→aA→Option Int
 |0,_=>none
 |fu+1,pt=>GA fu (kH fu) pt
theorem WW(fu:Nat):zZ (kH fu):=by
 induction fu with
 |zero=>exact(fun pt r H=>by simp only [kH] at H;cases H)
 |succ fu ih=>exact(fun pt r H=>by simp only [kH] at H;exact T4 fu (kH fu) ih pt r H)
theorem Y7(fu:Nat):zZ (kH fu):=(WW fu)
def AW(fu:Nat)(ps:ByteArray):Option Bool:=sw (decide (ps=eG)) (some true) (some (decide (ps=eD)))
theorem M7(fu:Nat)(ps:ByteArray)(r:Bool)(H:AW fu ps=some r):bR Tryz.prog 108 [pS ps] (pB r):=by
 refine qJ func108 H (fun C hC H=>?_)
 refine gQ 9 ?_;refine dH 5 H (fun g1 H=>gE 5) fun g1 H=>?_;exact gE 5
abbrev uI:=aA→Option Bool
def J6(m:uI):Prop:= ∀(p1:aA) (r:Bool),m p1=some r→bR Tryz.prog 266 [(aA.pv p1)] (pB r:PV)
def XM(fu:Nat)(p6:uI)(p1:aA)(x2:Bool):Option ((Bool⊕Bool)⊕Bool):=sw (decide (p1.aB5=1)) (some (.inr (decide (p1.aB5=1)))) (some (.inr (decide (p1.aB5=4))))
def XL(fu:Nat)(p6:uI)(p1:aA)(x2:Bool):Option (Bool⊕Bool):=so (XM fu p6 p1 x2) fun v4=>sw (v4) (sw x2 (some (.inr (decide ((p1.aB4.length:Int)=0)))) (some (.inr false))) (sw (decide (p1.aB5=3)) (sw x2 (some (.inr (decide ((p1.aB4.length:Int)=1)))) (some (.inr false))) (sw (decide (p1.aB5=2)) (sw x2 (sw (decide ((p1.aB4.length:Int)≤3)) (some (.inr true)) (bd (AW fu p1.aB3) fun x14=>sw x14 (some (.inr (decide ((p1.aB4.length:Int)=0)))) (some (.inr false)))) (bd (AW fu p1.aB3) fun x17=>sw x17 (some (.inr (decide ((p1.aB4.length:Int)=0)))) (some (.inr false)))) (some (.inl false))))
def XN(fu:Nat)(p6:uI)(p1:aA)(x2 v3:Bool):Nat→Bool→Option (LR Bool Bool):=fun i19 v20=>sw (v20) (bd (p6 (aT p1.aB4 i19)) fun x25=>some (.next x25)) (some (.next false))
def J5(fu:Nat)(p6:uI)(p1:aA):Option Bool:=bd (c6 fu p1.aB3) fun x2=>so (XL fu p6 p1 x2) fun v3=>so (loopN (XN fu p6 p1 x2 v3) (p1.aB4.length-0) 0 v3) fun v20=>some v20
theorem adS(fu:Nat)(p6:uI)(pO:J6 p6):J6 (J5 fu p6):=by
 intro p1 r H
 refine qJ func266 H (fun C hC H=>?_)
 refine gQ 2 ?_;refine q1 (eX (bM p1)) ?_;refine gQ 6 ?_;refine bK H fun x2 z1 H=>(q1 (bE func205 (eC fu p1.aB3 _ z1)) ?_)
 refine gQ 3 ?_;refine nV (σ:=Bool) (fun v3=>⟨[(1,.ptr 0 0),(2,pB false),(3,pB v3)],⟨[some ⟨30,bM p1⟩],[]⟩⟩) (eK H) (fun H=>?_) ?_
 ·refine gQ 7 ?_;refine nV (σ:=Bool) (fun v4=>⟨[(1,.ptr 0 0),(2,pB false),(3,pB x2),(9,pI p1.aB5),(10,pB v4)],⟨[some ⟨30,bM p1⟩],[]⟩⟩) (eK H) (fun H=>?_) ?_
  ·refine gQ 5 ?_;refine bC H (fun h5 H=>gE 1) fun h5 H=>?_;exact gE 4
  rintro v4 H
  refine bC H (fun h6 H=>?_) (fun h6 H=>?_)
  ·refine gQ 3 ?_;refine dH 14 H (fun g7 H=>gE 7) fun g7 H=>?_;exact gE 7
  refine gQ 5 ?_;refine bC H (fun h8 H=>?_) (fun h8 H=>?_)
  ·refine gQ 3 ?_;refine dH 23 H (fun g9 H=>gE 7) fun g9 H=>?_;exact gE 7
  refine gQ 5 ?_;refine bC H (fun h10 H=>?_) (fun h10 H=>?_)
  ·refine gQ 3 ?_;refine dH 32 H (fun g11 H=>?_) fun g11 H=>?_
   ·refine gQ 6 ?_;refine dH 38 H (fun g12 H=>gE 12) fun g12 H=>?_;refine gQ 2 ?_;refine bK H fun x14 z13 H=>(qg g12 (bE func108 (M7 fu p1.aB3 _ z13)) (qg g12 bF ?_))
    refine dH 42 H (fun g15 H=>gE 8) fun g15 H=>?_;exact gE 8
   refine gQ 8 ?_;refine bK H fun x17 z16 H=>(qg rfl (bE func108 (M7 fu p1.aB3 _ z16)) (qg rfl bF ?_))
   refine dH 42 H (fun g18 H=>gE 8) fun g18 H=>?_;exact gE 8
  exact gE 4
 rintro v3 H
 refine gQ 5 ?_;refine cQ.fact (cI 0 2 rfl rfl rfl (aA.trs_len _)) (fun hl21=>?_)
 refine bU (σ:=Bool) (fun i19 v20=>⟨[(1,.ptr 0 0),(2,pB false),(3,pB v20),(4,pN i19)],⟨[some ⟨30,bM p1⟩],[]⟩⟩) (fun v20=>⟨[(2,pB false),(3,pB v20)],⟨[some ⟨30,bM p1⟩],[]⟩⟩) (eK H) ?_ ?_
 ·rintro i19 v20 H
  refine gQ 9 ?_;refine cS H (fun h22 h22l H=>?_) (fun h22 H=>?_)
  ·refine gQ 6 ?_;refine dH 57 H (fun g23 H=>?_) fun g23 H=>?_
   ·refine gQ 4 ?_;refine qg g23 (iI (aA.cs (aT p1.aB4 i19))) (bK H fun x25 z24 H=>(qg g23 (bE func266 (pO (aT p1.aB4 i19) _ z24)) ?_))
    exact gE 8
   exact gE 14
  exact gE 0
 rintro v20 H
 exact gE 5
def lQ:Nat→aA→Option Bool
 |0,_=>none
 |fu+1,p1=>J5 fu (lQ fu) p1
theorem ahB(fu:Nat):J6 (lQ fu):=by
 induction fu with
 |zero=>exact(fun p1 r H=>by simp only [lQ] at H;cases H)
 |succ fu ih=>exact(fun p1 r H=>by simp only [lQ] at H;exact adS fu (lQ fu) ih p1 r H)
theorem aj1(fu:Nat):J6 (lQ fu):=(ahB fu)
def iH(fu:Nat)(pt:aA):Option Bool:=bd (qC fu pt 60) fun x2=>sw (decide (x2≥0)) (bd (kH fu pt) fun x5=>sw (decide (x5≤6)) (bd (lQ fu pt) fun x8=>some x8) (some false)) (some false)
theorem mG(fu:Nat)(pt:aA)(r:Bool)(H:iH fu pt=some r):bR Tryz.prog 258 [(aA.pv pt)] (pB r):=by
 refine qJ func258 H (fun C hC H=>?_)
 refine gQ 2 ?_;refine q1 (eX (bM pt)) ?_;refine gQ 4 ?_;refine q1 (bW [pI pt.aB5,pS pt.aB3,aR pt.aB4]) (bK H fun x2 z1 H=>(q1 (bE func264 (aj4 fu pt 60 _ z1)) ?_))
 refine gQ 2 ?_;refine dH 6 H (fun g3 H=>?_) fun g3 H=>?_
 ·refine qg g3 (bW [pI pt.aB5,pS pt.aB3,aR pt.aB4]) (bK H fun x5 z4 H=>(qg g3 (bE func265 (Y7 fu pt _ z4)) ?_))
  refine gQ 3 ?_;refine dH 11 H (fun g6 H=>?_) fun g6 H=>?_
  ·refine qg g6 (bW [pI pt.aB5,pS pt.aB3,aR pt.aB4]) (bK H fun x8 z7 H=>(qg g6 (bE func266 (aj1 fu pt _ z7)) ?_))
   exact gE 3
  exact gE 5
 exact gE 10
abbrev kG:=aA→aA→Option Bool
abbrev qD:=(List aA)→(List aA)→Option Bool
def vA(m:kG):Prop:= ∀(pa:aA) (pb:aA) (r:Bool),m pa pb=some r→bR Tryz.prog 38 [(aA.pv pa),(aA.pv pb)] (pB r:PV)
def J8(m:qD):Prop:= ∀(pa:List aA) (pb:List aA) (r:Bool),m pa pb=some r→bR Tryz.prog 92 [aR pa,aR pb] (pB r:PV)
def zY(fu:Nat)(p2:kG)(p5:qD)(pa pb:aA):Option Bool:=sw (decide (pa.aB5=pb.aB5)) (sw (decide (pa.aB3=pb.aB3)) (bd (p5 pa.aB4 pb.aB4) fun x4=>some x4) (some false)) (some false)
theorem TU(fu:Nat)(p2:kG)(p5:qD)(pH:vA p2)(pK:J8 p5):vA (zY fu p2 p5):=by
 intro pa pb r H
 refine qJ func38 H (fun C hC H=>?_)
 refine gQ 2 ?_;refine q1 (eX (bM pa)) (q1 (eX (bM pb)) ?_)
 refine gQ 10 ?_;refine dH 10 H (fun g1 H=>?_) fun g1 H=>?_
 ·refine gQ 7 ?_;refine dH 17 H (fun g2 H=>?_) fun g2 H=>?_
  ·refine gQ 4 ?_;refine bK H fun x4 z3 H=>(qg g2 (bE func92 (pK pa.aB4 pb.aB4 _ z3)) ?_)
   exact gE 3
  exact gE 8
 exact gE 15
def M9(fu:Nat)(p2:kG)(p5:qD)(pa pb:List aA):Nat→Unit→Option (LR Unit Bool):=fun i2 _=>gd (i2<(pb).length) (bd (p2 (aT pa i2) (aT pb i2)) fun x7=>sw (!(x7)) (some (.ret false)) (some (.next ())))
def NA(fu:Nat)(p2:kG)(p5:qD)(pa pb:List aA):Option (Bool⊕Unit):=loopN (M9 fu p2 p5 pa pb) (pa.length-0) 0 ()
def FC(fu:Nat)(p2:kG)(p5:qD)(pa pb:List aA):Option Bool:=sw (!decide ((pa.length:Int)=(pb.length:Int))) (some false) (so (NA fu p2 p5 pa pb) fun _=>some true)
theorem adU(fu:Nat)(p2:kG)(p5:qD)(pH:vA p2)(pK:J8 p5):J8 (FC fu p2 p5):=by
 intro pa pb r H
 refine qJ func92 H (fun C hC H=>?_)
 refine gQ 13 ?_;refine bC H (fun h1 H=>gE 4) fun h1 H=>?_;refine gQ 6 ?_;refine gL 0 (aA.trs_len _) (fun hl3=>?_)
 refine bU (σ:=Unit) (fun i2 _=>⟨[(0,aR pa),(1,aR pb),(4,pB false),(5,pN i2)],⟨[],[]⟩⟩) (fun _=>⟨[(4,pB false)],⟨[],[]⟩⟩) (eK H) ?_ ?_
 ·rintro i2 ⟨⟩ H
  refine gQ 8 ?_;refine cS H (fun h4 h4l H=>?_) (fun h4 H=>?_)
  ·refine gQ 4 ?_;refine cC H fun z5 H=>(bK H fun x7 z6 H=>(dW (dI [0] bF (dI [5] bF (dI [17,18] qF (dI [19] (iI (aA.cs (aT pa i2))) (dI [1] bF (dI [5] bF (dI [21,22] qF (dI [23] (iI (aA.cs (aT pb i2))) (dI [20,24] (bE func38 (pH (aT pa i2) (aT pb i2) _ z6)) (dI [25] JS (dN ?_)))))))))))))
   refine bC H (fun h8 H=>gE 4) fun h8 H=>?_;exact gE 6
  exact gE 0
 rintro⟨⟩ H
 exact gE 4
mutual
def fG:Nat→aA→aA→Option Bool
 |0,_,_=>none
 |fu+1,pa,pb=>zY fu (fG fu) (kY fu) pa pb
def kY:Nat→(List aA)→(List aA)→Option Bool
 |0,_,_=>none
 |fu+1,pa,pb=>FC fu (fG fu) (kY fu) pa pb
end
theorem WI(fu:Nat):vA (fG fu)∧J8 (kY fu):=by
 induction fu with
 |zero=>exact⟨(fun pa pb r H=>by simp only [fG] at H;cases H),(fun pa pb r H=>by simp only [kY] at H;cases H)⟩
 |succ fu ih=>exact⟨(fun pa pb r H=>by simp only [fG] at H;exact TU fu (fG fu) (kY fu) ih.1 ih.2 pa pb r H),(fun pa pb r H=>by simp only [kY] at H;exact adU fu (fG fu) (kY fu) ih.1 ih.2 pa pb r H)⟩
theorem K8(fu:Nat):vA (fG fu):=(WI fu).1
abbrev wX:=aA→(LB)→Option ((LB))
def KB(m:wX):Prop:= ∀(pt:aA) (pC:LB) (r:(LB)),m pt pC=some r→b7 Tryz.prog 136 [(aA.pv pt),aS pC 0] ⟨[],[⟨9,1,aY (pC),false⟩]⟩ (fun q t=>q=(aS r 0:PV)∧t=⟨[],[⟨9,1,aY (r),false⟩]⟩)
def NB(fu:Nat)(p8:wX)(pt:aA)(pC:LB):Option (((LB))⊕((LB))):=sw (decide (pt.aB5=1)) (bd (lA fu pC pt.aB3) fun x5=>sw (!(x5)) (gd ((pC).length+(([pt.aB3]:LB)).length≤68719476736) (some (.inr (pC++([pt.aB3]:LB))))) (some (.inr pC))) (some (.inr pC))
def XP(fu:Nat)(p8:wX)(pt:aA)(pC v2:LB):Nat→((LB))→Option (LR ((LB)) ((LB))):=fun i8 v10=>bd (p8 (aT pt.aB4 i8) v10) fun x14=>some (.next x14)
def KA(fu:Nat)(p8:wX)(pt:aA)(pC:LB):Option ((LB)):=so (NB fu p8 pt pC) fun v2=>so (loopN (XP fu p8 pt pC v2) (pt.aB4.length-0) 0 v2) fun v10=>some v10
theorem adV(fu:Nat)(p8:wX)(pP:KB p8):KB (KA fu p8):=by
 intro pt pC r H
 refine qJ func136 H (fun C hC H=>?_)
 refine gQ 2 ?_;refine q1 (eX (bM pt)) ?_;refine gQ 3 ?_;refine nV (σ:=(LB)) (fun v2=>⟨[(1,aS v2 0),(2,.ptr 0 0),(4,.nil)],⟨[some ⟨30,bM pt⟩],[⟨9,1,aY (v2),false⟩]⟩⟩) (eK H) (fun H=>?_) ?_
 ·refine gQ 6 ?_;refine dH 9 H (fun g3 H=>?_) fun g3 H=>?_
  ·refine gQ 3 ?_;refine bK H fun x5 z4 H=>(qg g3 (bE func153 (mH fu pC pt.aB3 _ z4)) ?_)
   refine gQ 3 ?_;refine bC H (fun h6 H=>?_) (fun h6 H=>?_)
   ·refine gQ 4 ?_;refine q1 (iF ([pt.aB3]:LB)) (cC H fun z7 H=>(q1 (lG z7) ?_))
    exact gE 2
   exact gE 1
  exact gE 9
 rintro v2 H
 refine gQ 5 ?_;refine cQ.fact (cI 0 2 rfl rfl rfl (aA.trs_len _)) (fun hl11=>?_)
 refine bU (σ:=(LB)) (fun i8 v10=>⟨[(1,aS v10 0),(2,.ptr 0 0),(4,.nil),(5,pN i8)],⟨[some ⟨30,bM pt⟩],[⟨9,1,aY (v10),false⟩]⟩⟩) (fun v10=>⟨[(1,aS v10 0),(4,.nil)],⟨[some ⟨30,bM pt⟩],[⟨9,1,aY (v10),false⟩]⟩⟩) (eK H) ?_ ?_
 ·rintro i8 v10 H
  refine gQ 9 ?_;refine cS H (fun h12 h12l H=>?_) (fun h12 H=>?_)
  ·refine gQ 8 ?_;refine q1 (iI (aA.cs (aT pt.aB4 i8))) (q1 bF (bK H fun x14 z13 H=>(q1 (eU [] [0] func136 (pP (aT pt.aB4 i8) v10 _ z13)) ?_)))
   exact gE 7
  exact gE 0
 rintro v10 H
 exact gE 5
def lR:Nat→aA→(LB)→Option ((LB))
 |0,_,_=>none
 |fu+1,pt,pC=>KA fu (lR fu) pt pC
theorem ahF(fu:Nat):KB (lR fu):=by
 induction fu with
 |zero=>exact(fun pt pC r H=>by simp only [lR] at H;cases H)
 |succ fu ih=>exact(fun pt pC r H=>by simp only [lR] at H;exact adV fu (lR fu) ih pt pC r H)
theorem akA(fu:Nat):KB (lR fu):=(ahF fu)
def nP(fu:Nat)(pt:aA):Option ((LB)):=bd (lR fu pt ([])) fun x2=>some x2
theorem CY(fu:Nat)(pt:aA)(r:(LB))(H:nP fu pt=some r):bR Tryz.prog 85 [(aA.pv pt)] (rS r):=by
 refine qJ func85 H (fun C hC H=>?_)
 refine gQ 2 ?_;refine q1 (eX (bM pt)) ?_;refine gQ 4 ?_;refine q1 (bW [pI pt.aB5,pS pt.aB3,aR pt.aB4]) (q1 (qE ([]:LB)) (bK H fun x2 z1 H=>(q1 (eU [] [0] func136 (akA fu pt ([]) _ z1)) ?_)))
 exact gE 2
abbrev lO:=aA→Option Bool
def sH(m:lO):Prop:= ∀(pt:aA) (r:Bool),m pt=some r→bR Tryz.prog 86 [(aA.pv pt)] (pB r:PV)
def CS(fu:Nat)(p4:lO)(pt:aA):Nat→Unit→Option (LR Unit Bool):=fun i1 _=>bd (p4 (aT pt.aB4 i1)) fun x5=>sw x5 (some (.ret true)) (some (.next ()))
def sG(fu:Nat)(p4:lO)(pt:aA):Option Bool:=so (loopN (CS fu p4 pt) (pt.aB4.length-0) 0 ()) fun _=>some (decide (pt.aB5=3))
theorem KQ(fu:Nat)(p4:lO)(pJ:sH p4):sH (sG fu p4):=by
 intro pt r H
 refine qJ func86 H (fun C hC H=>?_)
 refine gQ 2 ?_;refine q1 (eX (bM pt)) ?_;refine gQ 7 ?_;refine cQ.fact (cI 0 2 rfl rfl rfl (aA.trs_len _)) (fun hl2=>?_)
 refine bU (σ:=Unit) (fun i1 _=>⟨[(1,.ptr 0 0),(2,pB false),(3,pN i1)],⟨[some ⟨30,bM pt⟩],[]⟩⟩) (fun _=>⟨[(1,.ptr 0 0),(2,pB false)],⟨[some ⟨30,bM pt⟩],[]⟩⟩) (eK H) ?_ ?_
 ·rintro i1 ⟨⟩ H
  refine gQ 9 ?_;refine cS H (fun h3 h3l H=>?_) (fun h3 H=>?_)
  ·refine gQ 9 ?_;refine q1 (iI (aA.cs (aT pt.aB4 i1))) (bK H fun x5 z4 H=>(q1 (bE func86 (pJ (aT pt.aB4 i1) _ z4)) (qN ?_)))
   refine bC H (fun h6 H=>gE 4) fun h6 H=>?_;exact gE 6
  exact gE 0
 rintro⟨⟩ H
 exact gE 7
def dM:Nat→aA→Option Bool
 |0,_=>none
 |fu+1,pt=>sG fu (dM fu) pt
theorem MQ(fu:Nat):sH (dM fu):=by
 induction fu with
 |zero=>exact(fun pt r H=>by simp only [dM] at H;cases H)
 |succ fu ih=>exact(fun pt r H=>by simp only [dM] at H;exact KQ fu (dM fu) ih pt r H)
theorem vB(fu:Nat):sH (dM fu):=(MQ fu)
abbrev gD:=aA→ByteArray→Option Int
def mV(m:gD):Prop:= ∀(pt:aA) (pv:ByteArray) (r:Int),m pt pv=some r→bR Tryz.prog 260 [(aA.pv pt),pS pv] (pI r:PV)
def G9(fu:Nat)(p0:gD)(pt:aA)(pv:ByteArray):Option (Int⊕Int):=sw (decide (pt.aB5=1)) (sw (decide (pt.aB3=pv)) (some (.inr 1)) (some (.inr 0))) (some (.inr 0))
def HB(fu:Nat)(p0:gD)(pt:aA)(pv:ByteArray)(v1:Int):Nat→Int→Option (LR Int Int):=fun i4 v5=>bd (p0 (aT pt.aB4 i4) pv) fun x9=>some (.next (aX (v5+x9)))
def rP(fu:Nat)(p0:gD)(pt:aA)(pv:ByteArray):Option Int:=so (G9 fu p0 pt pv) fun v1=>so (loopN (HB fu p0 pt pv v1) (pt.aB4.length-0) 0 v1) fun v5=>some v5
theorem EY(fu:Nat)(p0:gD)(pF:mV p0):mV (rP fu p0):=by
 intro pt pv r H
 refine qJ func260 H (fun C hC H=>?_)
 refine gQ 2 ?_;refine q1 (eX (bM pt)) ?_;refine gQ 7 ?_;refine nV (σ:=Int) (fun v1=>⟨[(1,pS pv),(2,.ptr 0 0),(4,pI 0),(5,pI v1)],⟨[some ⟨30,bM pt⟩],[]⟩⟩) (eK H) (fun H=>?_) ?_
 ·refine gQ 6 ?_;refine dH 10 H (fun g2 H=>?_) fun g2 H=>?_
  ·refine gQ 6 ?_;refine bC H (fun h3 H=>gE 3) fun h3 H=>?_;exact gE 1
  exact gE 8
 rintro v1 H
 refine gQ 5 ?_;refine cQ.fact (cI 0 2 rfl rfl rfl (aA.trs_len _)) (fun hl6=>?_)
 refine bU (σ:=Int) (fun i4 v5=>⟨[(1,pS pv),(2,.ptr 0 0),(4,pI 0),(5,pI v5),(6,pN i4)],⟨[some ⟨30,bM pt⟩],[]⟩⟩) (fun v5=>⟨[(4,pI 0),(5,pI v5)],⟨[some ⟨30,bM pt⟩],[]⟩⟩) (eK H) ?_ ?_
 ·rintro i4 v5 H
  refine gQ 9 ?_;refine cS H (fun h7 h7l H=>?_) (fun h7 H=>?_)
  ·refine gQ 9 ?_;refine q1 (iI (aA.cs (aT pt.aB4 i4))) (q1 bF (bK H fun x9 z8 H=>(q1 (bE func260 (pF (aT pt.aB4 i4) pv _ z8)) ?_)))
   exact gE 8
  exact gE 0
 rintro v5 H
 exact gE 5
def eA:Nat→aA→ByteArray→Option Int
 |0,_,_=>none
 |fu+1,pt,pv=>rP fu (eA fu) pt pv
theorem F7(fu:Nat):mV (eA fu):=by
 induction fu with
 |zero=>exact(fun pt pv r H=>by simp only [eA] at H;cases H)
 |succ fu ih=>exact(fun pt pv r H=>by simp only [eA] at H;exact EY fu (eA fu) ih pt pv r H)
theorem HJ(fu:Nat):mV (eA fu):=(F7 fu)
def IQ(fu:Nat)(pv:ByteArray)(pt:aA):Option Bool:=bd (eA fu pt pv) fun x2=>some (decide (x2>0))
theorem acN(fu:Nat)(pv:ByteArray)(pt:aA)(r:Bool)(H:IQ fu pv pt=some r):bR Tryz.prog 250 [pS pv,(aA.pv pt)] (pB r):=by
 refine qJ func250 H (fun C hC H=>?_)
 refine gQ 2 ?_;refine q1 (eX (bM pt)) ?_;refine gQ 4 ?_;refine q1 (bW [pI pt.aB5,pS pt.aB3,aR pt.aB4]) (q1 bF (bK H fun x2 z1 H=>(q1 (bE func260 (HJ fu pt pv _ z1)) ?_)))
 exact gE 3
end
end Go.Proofs.YtfcoaagbccmahaaGreat.W

namespace Go.Proofs.YtfcoaagbccmahaaGreat.W
set_option maxRecDepth 100000
set_option maxHeartbeats 40000000
noncomputable section
open Tryz Go.RowKit Go.Proofs
attribute [local irreducible] lt
def K9(fu:Nat)(pn:Int):(Int×ByteArray)→Option (LR (Int×ByteArray) ByteArray):=fun(v2,v3)=>sw (!decide (v2=0)) (sw (decide (((v2).tmod 10:Int)<0)) (gd ((bytesStr ([(I6 (aX (48+(aX (0-((v2).tmod 10))))))]:List UInt8)).size+(v3).size≤1099511627776) (some (.next ((aX ((v2).tdiv 10)),((bytesStr ([(I6 (aX (48+(aX (0-((v2).tmod 10))))))]:List UInt8))++v3))))) (gd ((bytesStr ([(I6 (aX (48+((v2).tmod 10))))]:List UInt8)).size+(v3).size≤1099511627776) (some (.next ((aX ((v2).tdiv 10)),((bytesStr ([(I6 (aX (48+((v2).tmod 10))))]:List UInt8))++v3)))))) (some (.brk (v2,v3)))
def n7(fu:Nat)(pn:Int):Option ByteArray:=sw (decide (pn=0)) (some s_0) (so (loopW (K9 fu pn) fu (pn,s_)) fun(v2,v3)=>sw (decide (pn<0)) (gd ((HK).size+(v3).size≤1099511627776) (some (HK++v3))) (some v3))
theorem DP(fu:Nat)(pn:Int)(r:ByteArray)(H:n7 fu pn=some r):bR Tryz.prog 255 [pI pn] (pS r):=by
 refine qJ func255 H (fun C hC H=>?_)
 refine gQ 10 ?_;refine bC H (fun h1 H=>gE 4) fun h1 H=>?_;refine gQ 12 ?_;refine SR (σ:=Int×ByteArray) (fun(v2,v3)=>⟨[(0,pI v2),(2,pS s_),(3,pB (decide (pn<0))),(4,pS v3)],⟨[],[]⟩⟩) (fun(v2,v3)=>⟨[(2,pS s_),(3,pB (decide (pn<0))),(4,pS v3)],⟨[],[]⟩⟩) (eK H) ?_ ?_
 ·rintro k4 ⟨v2,v3⟩ H
  refine gQ 6 ?_;refine bC H (fun h5 H=>?_) (fun h5 H=>?_)
  ·refine gQ 5 ?_;refine q1 (bB.remI (a:=v2) (b:=10) rfl rfl rfl rfl (by decide)) ?_;refine gQ 8 ?_;refine bC H (fun h6 H=>?_) (fun h6 H=>?_)
   ·refine gQ 9 ?_;refine q1 (bB.convU8 (a:=aX (48+(aX (0-((v2).tmod 10))))) rfl rfl rfl ⟨_,Tryz.underlying3⟩ Tryz.underlying5) (q1 (iF ([(I6 (aX (48+(aX (0-((v2).tmod 10))))))]:List UInt8)) (q1 (bB.bytesStr rfl rfl rfl rfl Tryz.underlying22 Tryz.underlying5 Tryz.underlying9) (q1 bF (cC H fun z7 H=>(q1 (bB.addS rfl rfl rfl rfl (Nat.le_trans z7 (by decide))) ?_)))))
    refine gQ 4 ?_;refine q1 (bB.quoI (a:=v2) (b:=10) rfl rfl rfl rfl (by decide)) ?_;exact gE 2
   refine gQ 5 ?_;refine q1 (bB.convU8 (a:=aX (48+((v2).tmod 10))) rfl rfl rfl ⟨_,Tryz.underlying3⟩ Tryz.underlying5) (q1 (iF ([(I6 (aX (48+((v2).tmod 10))))]:List UInt8)) (q1 (bB.bytesStr rfl rfl rfl rfl Tryz.underlying22 Tryz.underlying5 Tryz.underlying9) (q1 bF (cC H fun z8 H=>(q1 (bB.addS rfl rfl rfl rfl (Nat.le_trans z8 (by decide))) ?_)))))
   refine gQ 4 ?_;refine q1 (bB.quoI (a:=v2) (b:=10) rfl rfl rfl rfl (by decide)) ?_;exact gE 2
  exact gE 0
 rintro⟨v2,v3⟩ H
 refine gQ 5 ?_;refine bC H (fun h9 H=>?_) (fun h9 H=>?_)
 ·refine gQ 3 ?_;refine cC H fun z10 H=>(q1 (bB.addS rfl rfl rfl rfl (Nat.le_trans z10 (by decide))) ?_)
  exact gE 2
 exact gE 6
def W8(fu:Nat)(ps:ByteArray)(p9:Int):Option ((Int×Bool)⊕ByteArray):=sw (decide ((((FL ps 0).toNat:Int):Int)=45)) (gd ((0:Int)≤1∧(1:Int)≤(ps.size:Int)∧(ps.size:Int)≤(ps.size:Int)) (some (.inr (ps.extract (1:Int).toNat (ps.size:Int).toNat)))) (some (.inr ps))
def XA(fu:Nat)(ps:ByteArray)(p9:Int)(v3:ByteArray):Nat→Int→Option (LR Int (Int×Bool)):=fun i8 v9=>gd (i8<(v3).size) (sw (decide ((((FL v3 i8).toNat:Int):Int)<48)) (some (.ret (0,false))) (sw (decide ((((FL v3 i8).toNat:Int):Int)>57)) (some (.ret (0,false))) (some (.next (aX ((aX (10*v9))+((I6 (((FL v3 i8).toNat:Int)-48)).toNat:Int)))))))
def W9(fu:Nat)(ps:ByteArray)(p9:Int)(v3:ByteArray)(v9:Int):Option ((Int×Bool)⊕Int):=sw (decide ((((FL ps 0).toNat:Int):Int)=45)) (some (.inr (aX (0-v9)))) (some (.inr v9))
def XB(fu:Nat)(ps:ByteArray)(p9:Int):Nat→Int→Option (LR Int (Int×Bool)):=fun i22 v23=>gd (i22<(ps).size) (sw (decide ((((FL ps i22).toNat:Int):Int)<48)) (some (.ret (0,false))) (sw (decide ((((FL ps i22).toNat:Int):Int)>57)) (some (.ret (0,false))) (some (.next (aX ((aX (10*v23))+((I6 (((FL ps i22).toNat:Int)-48)).toNat:Int)))))))
def R8(fu:Nat)(ps:ByteArray)(p9:Int):Option (Int×Bool):=sw (decide ((ps.size:Int)>0)) (gd (0<(ps).size) (so (W8 fu ps p9) fun v3=>sw (decide ((v3.size:Int)<1)) (some (0,false)) (sw (decide ((v3.size:Int)>p9)) (some (0,false)) (so (loopN (XA fu ps p9 v3) (v3.size-0) 0 0) fun v9=>so (W9 fu ps p9 v3 v9) fun v15=>bd (n7 fu v15) fun x18=>sw (!decide (x18=ps)) (some (0,false)) (some (v15,true)))))) (sw (decide ((ps.size:Int)<1)) (some (0,false)) (sw (decide ((ps.size:Int)>p9)) (some (0,false)) (so (loopN (XB fu ps p9) (ps.size-0) 0 0) fun v23=>bd (n7 fu v23) fun x30=>sw (!decide (x30=ps)) (some (0,false)) (some (v23,true)))))
theorem ajP(fu:Nat)(ps:ByteArray)(p9:Int)(r:Int×Bool)(H:R8 fu ps p9=some r):bR Tryz.prog 253 [pS ps,pI p9] (.tup [pI r.1,pB r.2]):=by
 refine qJ func253 H (fun C hC H=>?_)
 refine gQ 8 ?_;refine q1 (bB.lenS rfl rfl rfl Tryz.underlying9) ?_;refine gQ 2 ?_;refine dH 13 H (fun g1 H=>?_) fun g1 H=>?_
 ·refine qg g1 bF (cC H fun z2 H=>(qg g1 (bB.indexS (k:=0) rfl rfl rfl rfl z2 Tryz.underlying9) ?_))
  refine gQ 10 ?_;refine nV (σ:=ByteArray) (fun v3=>⟨[(0,pS ps),(1,pI p9),(4,pI 0),(5,pB false),(6,pB (decide ((((FL ps 0).toNat:Int):Int)=45))),(7,pS v3)],⟨[],[]⟩⟩) (eK H) (fun H=>?_) ?_
  ·refine gQ 4 ?_;refine bC H (fun h4 H=>?_) (fun h4 H=>?_)
   ·refine gQ 2 ?_;refine cC H fun z5 H=>(q1 (bB.sliceS (l:=1) (k:=(ps.size:Int)) rfl rfl rfl rfl rfl z5 Tryz.underlying9) ?_)
    exact gE 2
   exact gE 1
  rintro v3 H
  refine gQ 4 ?_;refine q1 (bB.lenS rfl rfl rfl Tryz.underlying9) ?_;refine gQ 2 ?_;refine dH 25 H (fun g6 H=>?_) fun g6 H=>?_
  ·have g6n:v3.size<1:=by have:=of_decide_eq_true g6;omega
   exact gE 12
  refine qg g6 bF (qg g6 (bB.lenS rfl rfl rfl Tryz.underlying9) ?_)
  refine gQ 4 ?_;refine bC H (fun h7 H=>gE 5) fun h7 H=>?_;refine gQ 10 ?_;refine szF 7 (fun hl10=>?_)
  refine bU (σ:=Int) (fun i8 v9=>⟨[(0,pS ps),(4,pI 0),(5,pB false),(6,pB (decide ((((FL ps 0).toNat:Int):Int)=45))),(7,pS v3),(8,pI v9),(9,pN i8)],⟨[],[]⟩⟩) (fun v9=>⟨[(0,pS ps),(4,pI 0),(5,pB false),(6,pB (decide ((((FL ps 0).toNat:Int):Int)=45))),(8,pI v9)],⟨[],[]⟩⟩) (eK H) ?_ ?_
  ·rintro i8 v9 H
   refine gQ 5 ?_;refine q1 (bB.lenS rfl rfl rfl Tryz.underlying9) ?_;refine gQ 2 ?_;refine cS H (fun h11 h11l H=>?_) (fun h11 H=>?_)
   ·have h11n:i8<v3.size:=by have:=of_decide_eq_true h11;omega
    refine gQ 8 ?_;refine cC H fun z12 H=>(q1 (bB.indexS (k:=i8) rfl rfl rfl rfl z12 Tryz.underlying9) ?_)
    refine gQ 2 ?_;refine dH 41 H (fun g13 H=>gE 12) fun g13 H=>?_;refine gQ 2 ?_;refine qg g13 (bB.indexS (k:=i8) rfl rfl rfl rfl z12 Tryz.underlying9) ?_;refine gQ 3 ?_;refine bC H (fun h14 H=>gE 5) fun h14 H=>?_;refine gQ 3 ?_;refine q1 (bB.mulW rfl rfl rfl rfl) ?_;refine gQ 2 ?_;refine q1 (bB.indexS (k:=i8) rfl rfl rfl rfl z12 Tryz.underlying9) (q1 (bB.subU8 rfl rfl rfl rfl) ?_)
    refine q1 (bB.convI rfl rfl rfl ⟨_,Tryz.underlying5⟩ Tryz.underlying3 (by first|omega|(have:=UInt8.toNat_lt (I6 (((FL v3 i8).toNat:Int)-48));omega)) (by first|omega|(have:=UInt8.toNat_lt (I6 (((FL v3 i8).toNat:Int)-48));omega))) ?_;exact gE 8
   exact gE 0
  rintro v9 H
  refine qS ?_;refine nV (σ:=Int) (fun v15=>⟨[(0,pS ps),(4,pI 0),(5,pB false),(8,pI v15)],⟨[],[]⟩⟩) (eK H) (fun H=>?_) ?_
  ·refine gQ 4 ?_;refine bC H (fun h16 H=>gE 5) fun h16 H=>?_;exact gE 1
  rintro v15 H
  refine gQ 4 ?_;refine bK H fun x18 z17 H=>(q1 (bE func255 (DP fu v15 _ z17)) ?_)
  refine gQ 3 ?_;refine bC H (fun h19 H=>gE 5) fun h19 H=>?_;exact gE 7
 refine gQ 22 ?_;refine q1 (bB.lenS rfl rfl rfl Tryz.underlying9) ?_;refine gQ 2 ?_;refine dH 25 H (fun g20 H=>?_) fun g20 H=>?_
 ·have g20n:ps.size<1:=by have:=of_decide_eq_true g20;omega
  exact gE 12
 refine qg g20 bF (qg g20 (bB.lenS rfl rfl rfl Tryz.underlying9) ?_)
 refine gQ 4 ?_;refine bC H (fun h21 H=>gE 5) fun h21 H=>?_;refine gQ 10 ?_;refine szF 0 (fun hl24=>?_)
 refine bU (σ:=Int) (fun i22 v23=>⟨[(0,pS ps),(4,pI 0),(5,pB false),(6,pB false),(7,pS ps),(8,pI v23),(9,pN i22)],⟨[],[]⟩⟩) (fun v23=>⟨[(0,pS ps),(4,pI 0),(5,pB false),(6,pB false),(8,pI v23)],⟨[],[]⟩⟩) (eK H) ?_ ?_
 ·rintro i22 v23 H
  refine gQ 5 ?_;refine q1 (bB.lenS rfl rfl rfl Tryz.underlying9) ?_;refine gQ 2 ?_;refine cS H (fun h25 h25l H=>?_) (fun h25 H=>?_)
  ·have h25n:i22<ps.size:=by have:=of_decide_eq_true h25;omega
   refine gQ 8 ?_;refine cC H fun z26 H=>(q1 (bB.indexS (k:=i22) rfl rfl rfl rfl z26 Tryz.underlying9) ?_)
   refine gQ 2 ?_;refine dH 41 H (fun g27 H=>gE 12) fun g27 H=>?_;refine gQ 2 ?_;refine qg g27 (bB.indexS (k:=i22) rfl rfl rfl rfl z26 Tryz.underlying9) ?_;refine gQ 3 ?_;refine bC H (fun h28 H=>gE 5) fun h28 H=>?_;refine gQ 3 ?_;refine q1 (bB.mulW rfl rfl rfl rfl) ?_;refine gQ 2 ?_;refine q1 (bB.indexS (k:=i22) rfl rfl rfl rfl z26 Tryz.underlying9) (q1 (bB.subU8 rfl rfl rfl rfl) ?_)
   refine q1 (bB.convI rfl rfl rfl ⟨_,Tryz.underlying5⟩ Tryz.underlying3 (by first|omega|(have:=UInt8.toNat_lt (I6 (((FL ps i22).toNat:Int)-48));omega)) (by first|omega|(have:=UInt8.toNat_lt (I6 (((FL ps i22).toNat:Int)-48));omega))) ?_;exact gE 8
  exact gE 0
 rintro v23 H
 refine gQ 11 ?_;refine bK H fun x30 z29 H=>(q1 (bE func255 (DP fu v23 _ z29)) ?_)
 refine gQ 3 ?_;refine bC H (fun h31 H=>gE 5) fun h31 H=>?_;exact gE 7
def CU(fu:Nat)(ps:ByteArray):Option (Int×Bool):=bd (R8 fu ps 12) fun(x2,x3)=>some (x2,x3)
theorem acO(fu:Nat)(ps:ByteArray)(r:Int×Bool)(H:CU fu ps=some r):bR Tryz.prog 235 [pS ps] (.tup [pI r.1,pB r.2]):=by
 refine qJ func235 H (fun C hC H=>?_)
 refine gQ 8 ?_;refine dP H fun x2 x3 z1 H=>(q1 (bE func253 (ajP fu ps 12 _ z1)) ?_)
 exact gE 5
def uF(fu:Nat)(pn:Int):Option aL:=some (aL.mk 1 s_ s_ pn (aA.mk 0 s_ []) [] [])
theorem wP(fu:Nat)(pn:Int)(r:aL)(H:uF fu pn=some r):bR Tryz.prog 192 [pI pn] ((aL.pv r)):=by
 refine qJ func192 H (fun C hC H=>?_)
 exact gE 10
def wR(fu:Nat)(ps:ByteArray):Option aL:=some (aL.mk 3 s_ ps 0 (aA.mk 0 s_ []) [] [])
theorem BV(fu:Nat)(ps:ByteArray)(r:aL)(H:wR fu ps=some r):bR Tryz.prog 191 [pS ps] ((aL.pv r)):=by
 refine qJ func191 H (fun C hC H=>?_)
 exact gE 10
def rT(fu:Nat)(pa pb:Int):Option Int:=sw (decide (pa<pb)) (some pa) (some pb)
theorem sL(fu:Nat)(pa:Int)(pb:Int)(r:Int)(H:rT fu pa pb=some r):bR Tryz.prog 234 [pI pa,pI pb] (pI r):=by
 refine qJ func234 H (fun C hC H=>?_)
 refine gQ 11 ?_;refine bC H (fun h1 H=>gE 5) fun h1 H=>?_;exact gE 6
abbrev kA:=aB→Option aL
abbrev iQ:=(List aB)→Option ((List aL))
abbrev lP:=aB→Option bS
def wS(m:kA):Prop:= ∀(p1:aB) (r:aL),m p1=some r→bR Tryz.prog 220 [(aB.pv p1)] ((aL.pv r):PV)
def xZ(m:iQ):Prop:= ∀(p6:List aB) (r:(List aL)),m p6=some r→bR Tryz.prog 236 [bH p6] (iP r:PV)
def E6(m:lP):Prop:= ∀(px:aB) (r:bS),m px=some r→bR Tryz.prog 237 [(aB.pv px)] ((bS.pv r):PV)
def agR(fu:Nat)(p3:kA)(p0:iQ)(p4:lP)(p1 y15 y18:aB)(x67:Int)(x70:List aL):Nat→((List bS))→Option (LR ((List bS)) aL):=fun i71 v73=>bd (p4 (aT p1.aB6 i71)) fun x77=>gd ((v73).length+(([x77]:List bS)).length≤68719476736) (some (.next (v73++([x77]:List bS))))
def M0(fu:Nat)(p3:kA)(p0:iQ)(p4:lP)(p1:aB):Option aL:=sw (!decide (p1.aB9=s_)) (bd (CU fu p1.aB9) fun(x3,x4)=>sw x4 (bd (uF fu x3) fun x7=>some x7) (sw (decide (p1.aB9=qM)) (some (aL.mk 2 s_ s_ 1 (aA.mk 0 s_ []) [] [])) (sw (decide (p1.aB9=l8)) (some (aL.mk 2 s_ s_ 0 (aA.mk 0 s_ []) [] [])) (bd (wR fu p1.aB9) fun x11=>some x11)))) (gd (([]:List aB).length+(p1.aB6).length≤68719476736) (gd ((([])++p1.aB6).length+(([(aB.mk s_ []),(aB.mk s_ []),(aB.mk s_ [])]:List aB)).length≤68719476736) (gd (1<((([])++p1.aB6)++([(aB.mk s_ []),(aB.mk s_ []),(aB.mk s_ [])]:List aB)).length) (lt (aT ((([])++p1.aB6)++([(aB.mk s_ []),(aB.mk s_ []),(aB.mk s_ [])]:List aB)) 1) fun y15=>gd (0<((([])++p1.aB6)++([(aB.mk s_ []),(aB.mk s_ []),(aB.mk s_ [])]:List aB)).length) (lt (aT ((([])++p1.aB6)++([(aB.mk s_ []),(aB.mk s_ []),(aB.mk s_ [])]:List aB)) 0) fun y18=>sw (decide (y18.aB9=RY)) (bd (rT fu 2 (p1.aB6.length:Int)) fun x22=>gd ((0:Int)≤x22∧(x22:Int)≤(p1.aB6.length:Int)∧(p1.aB6.length:Int)≤(p1.aB6.length:Int)) (bd (p0 (List.drop (x22:Int).toNat (List.take (p1.aB6.length:Int).toNat p1.aB6))) fun x25=>some (aL.mk 4 s_ y15.aB9 0 (aA.mk 0 s_ []) x25 []))) (sw (decide (y18.aB9=o7)) (gd (2<((([])++p1.aB6)++([(aB.mk s_ []),(aB.mk s_ []),(aB.mk s_ [])]:List aB)).length) (lt (aT ((([])++p1.aB6)++([(aB.mk s_ []),(aB.mk s_ []),(aB.mk s_ [])]:List aB)) 2) fun y28=>bd (rT fu 3 (p1.aB6.length:Int)) fun x31=>gd ((0:Int)≤x31∧(x31:Int)≤(p1.aB6.length:Int)∧(p1.aB6.length:Int)≤(p1.aB6.length:Int)) (bd (p0 (List.drop (x31:Int).toNat (List.take (p1.aB6.length:Int).toNat p1.aB6))) fun x34=>some (aL.mk 5 y15.aB9 y28.aB9 0 (aA.mk 0 s_ []) x34 [])))) (sw (decide (y18.aB9=G6)) (bd (rT fu 2 (p1.aB6.length:Int)) fun x37=>gd ((0:Int)≤x37∧(x37:Int)≤(p1.aB6.length:Int)∧(p1.aB6.length:Int)≤(p1.aB6.length:Int)) (bd (p0 (List.drop (x37:Int).toNat (List.take (p1.aB6.length:Int).toNat p1.aB6))) fun x40=>some (aL.mk 6 s_ y15.aB9 0 (aA.mk 0 s_ []) x40 []))) (sw (decide (y18.aB9=G5)) (bd (rT fu 2 (p1.aB6.length:Int)) fun x43=>gd ((0:Int)≤x43∧(x43:Int)≤(p1.aB6.length:Int)∧(p1.aB6.length:Int)≤(p1.aB6.length:Int)) (bd (p0 (List.drop (x43:Int).toNat (List.take (p1.aB6.length:Int).toNat p1.aB6))) fun x46=>some (aL.mk 8 s_ y15.aB9 0 (aA.mk 0 s_ []) x46 []))) (sw (decide (y18.aB9=GC)) (gd ((0:Int)≤1∧(1:Int)≤(p1.aB6.length:Int)∧(p1.aB6.length:Int)≤(p1.aB6.length:Int)) (bd (p0 (List.drop (1:Int).toNat (List.take (p1.aB6.length:Int).toNat p1.aB6))) fun x50=>some (aL.mk 9 s_ s_ 0 (aA.mk 0 s_ []) x50 []))) (sw (decide (y18.aB9=zB)) (bd (rT fu 2 (p1.aB6.length:Int)) fun x53=>gd ((0:Int)≤x53∧(x53:Int)≤(p1.aB6.length:Int)∧(p1.aB6.length:Int)≤(p1.aB6.length:Int)) (bd (p0 (List.drop (x53:Int).toNat (List.take (p1.aB6.length:Int).toNat p1.aB6))) fun x56=>some (aL.mk 11 y15.aB9 s_ 0 (aA.mk 0 s_ []) x56 []))) (sw (decide (y18.aB9=aaV)) (bd (m7 fu y15) fun x59=>bd (rT fu 2 (p1.aB6.length:Int)) fun x61=>gd ((0:Int)≤x61∧(x61:Int)≤(p1.aB6.length:Int)∧(p1.aB6.length:Int)≤(p1.aB6.length:Int)) (bd (p0 (List.drop (x61:Int).toNat (List.take (p1.aB6.length:Int).toNat p1.aB6))) fun x64=>some (aL.mk 12 s_ s_ 0 x59 x64 []))) (sw (decide (y18.aB9=zA)) (bd (rT fu 2 (p1.aB6.length:Int)) fun x67=>gd ((0:Int)≤1∧(1:Int)≤x67∧(x67:Int)≤(p1.aB6.length:Int)) (bd (p0 (List.drop (1:Int).toNat (List.take (x67:Int).toNat p1.aB6))) fun x70=>so (loopN (agR fu p3 p0 p4 p1 y15 y18 x67 x70) (p1.aB6.length-2) 2 ([])) fun v73=>some (aL.mk 7 s_ s_ 0 (aA.mk 0 s_ []) x70 v73))) (bd (rT fu 1 (p1.aB6.length:Int)) fun x80=>gd ((0:Int)≤x80∧(x80:Int)≤(p1.aB6.length:Int)∧(p1.aB6.length:Int)≤(p1.aB6.length:Int)) (bd (p0 (List.drop (x80:Int).toNat (List.take (p1.aB6.length:Int).toNat p1.aB6))) fun x83=>some (aL.mk 10 s_ y18.aB9 0 (aA.mk 0 s_ []) x83 [])))))))))))))))
theorem ZF(fu:Nat)(p3:kA)(p0:iQ)(p4:lP)(pC:wS p3)(p5:xZ p0)(pD:E6 p4):wS (M0 fu p3 p0 p4):=by
 intro p1 r H
 refine qJ func220 H (fun C hC H=>?_)
 refine gQ 2 ?_;refine q1 (eX ([pS p1.aB9,bH p1.aB6])) ?_;refine gQ 9 ?_;refine bC H (fun h1 H=>?_) (fun h1 H=>?_)
 ·refine gQ 4 ?_;refine dP H fun x3 x4 z2 H=>(q1 (bE func235 (acO fu p1.aB9 _ z2)) ?_)
  refine gQ 13 ?_;refine bC H (fun h5 H=>?_) (fun h5 H=>?_)
  ·refine gQ 3 ?_;refine bK H fun x7 z6 H=>(q1 (bE func192 (wP fu x3 _ z6)) ?_)
   exact gE 2
  refine gQ 7 ?_;refine bC H (fun h8 H=>gE 5) fun h8 H=>?_;refine gQ 7 ?_;refine bC H (fun h9 H=>gE 5) fun h9 H=>?_;refine gQ 5 ?_;refine bK H fun x11 z10 H=>(q1 (bE func191 (BV fu p1.aB9 _ z10)) ?_)
  exact gE 2
 refine gQ 3 ?_;refine q1 (qE ([]:List aB)) ?_;refine gQ 2 ?_;refine cC H fun z12 H=>(q1 (lG z12) ?_)
 refine gQ 3 ?_;refine q1 (iF ([(aB.mk s_ []),(aB.mk s_ []),(aB.mk s_ [])]:List aB)) (cC H fun z13 H=>(q1 (lG z13) ?_))
 refine gQ 12 ?_;refine cC H fun z14 H=>(fZ H fun y15 h16 H=>(q1 (yI h16 z14) ?_))
 refine gQ 8 ?_;refine cC H fun z17 H=>(fZ H fun y18 h19 H=>(q1 (yI h19 z17) ?_))
 refine gQ 9 ?_;refine bC H (fun h20 H=>?_) (fun h20 H=>?_)
 ·refine qS (bK H fun x22 z21 H=>(cC H fun z23 H=>(bK H fun x25 z24 H=>(dW (dI [7] bF (dI [1] bZ (dD [59] eE (dI [6] bF (dI [61] (bE func234 (sL fu 2 (p1.aB6.length:Int) _ z21)) ?_)))))))))
  refine dI [60,62] (bB.congrP (bB.sliceR (es:=aB.trs (p1.aB6)) (l:=x22) (k:=(p1.aB6.length:Int)) rfl rfl rfl rfl rfl (by rw [aB.trs_len];exact rfl) (by rw [aB.trs_len];exact z23) CJ.h) (aB.trs_part _ _ _)) ?_;refine dI [63] (bE func236 (p5 (List.drop (x22:Int).toNat (List.take (p1.aB6.length:Int).toNat p1.aB6)) _ z24)) (dI [58,64] rW (kU [2,65] jO (dN ?_)))
  exact gE 0
 refine gQ 5 ?_;refine bC H (fun h26 H=>?_) (fun h26 H=>?_)
 ·refine qS (cC H fun z27 H=>(fZ H fun y28 h29 H=>(bK H fun x31 z30 H=>(cC H fun z32 H=>(bK H fun x34 z33 H=>(dW (dI [7] bF (dI [5] bF (dI [69] (yI h29 z27) (dI [70] wZ (dI [71] vM (dI [1] bZ (dD [73] eE ?_)))))))))))))
  refine dI [6] bF (dI [75] (bE func234 (sL fu 3 (p1.aB6.length:Int) _ z30)) ?_)
  refine dI [74,76] (bB.congrP (bB.sliceR (es:=aB.trs (p1.aB6)) (l:=x31) (k:=(p1.aB6.length:Int)) rfl rfl rfl rfl rfl (by rw [aB.trs_len];exact rfl) (by rw [aB.trs_len];exact z32) CJ.h) (aB.trs_part _ _ _)) ?_;refine dI [77] (bE func236 (p5 (List.drop (x31:Int).toNat (List.take (p1.aB6.length:Int).toNat p1.aB6)) _ z33)) (dI [68,72,78] rW (kU [2,79] jO (dN ?_)))
  exact gE 0
 refine gQ 5 ?_;refine bC H (fun h35 H=>?_) (fun h35 H=>?_)
 ·refine qS (bK H fun x37 z36 H=>(cC H fun z38 H=>(bK H fun x40 z39 H=>(dW (dI [7] bF (dI [1] bZ (dD [83] eE (dI [6] bF (dI [85] (bE func234 (sL fu 2 (p1.aB6.length:Int) _ z36)) ?_)))))))))
  refine dI [84,86] (bB.congrP (bB.sliceR (es:=aB.trs (p1.aB6)) (l:=x37) (k:=(p1.aB6.length:Int)) rfl rfl rfl rfl rfl (by rw [aB.trs_len];exact rfl) (by rw [aB.trs_len];exact z38) CJ.h) (aB.trs_part _ _ _)) ?_;refine dI [87] (bE func236 (p5 (List.drop (x37:Int).toNat (List.take (p1.aB6.length:Int).toNat p1.aB6)) _ z39)) (dI [82,88] rW (kU [2,89] jO (dN ?_)))
  exact gE 0
 refine gQ 5 ?_;refine bC H (fun h41 H=>?_) (fun h41 H=>?_)
 ·refine qS (bK H fun x43 z42 H=>(cC H fun z44 H=>(bK H fun x46 z45 H=>(dW (dI [7] bF (dI [1] bZ (dD [93] eE (dI [6] bF (dI [95] (bE func234 (sL fu 2 (p1.aB6.length:Int) _ z42)) ?_)))))))))
  refine dI [94,96] (bB.congrP (bB.sliceR (es:=aB.trs (p1.aB6)) (l:=x43) (k:=(p1.aB6.length:Int)) rfl rfl rfl rfl rfl (by rw [aB.trs_len];exact rfl) (by rw [aB.trs_len];exact z44) CJ.h) (aB.trs_part _ _ _)) ?_;refine dI [97] (bE func236 (p5 (List.drop (x43:Int).toNat (List.take (p1.aB6.length:Int).toNat p1.aB6)) _ z45)) (dI [92,98] rW (kU [2,99] jO (dN ?_)))
  exact gE 0
 refine gQ 5 ?_;refine bC H (fun h47 H=>?_) (fun h47 H=>?_)
 ·refine gQ 4 ?_;refine cC H fun z48 H=>?_;refine q1 (bB.congrP (bB.sliceR (es:=aB.trs (p1.aB6)) (l:=1) (k:=(p1.aB6.length:Int)) rfl rfl rfl rfl rfl (by rw [aB.trs_len];exact rfl) (by rw [aB.trs_len];exact z48) CJ.h) (aB.trs_part _ _ _)) ?_;refine bK H fun x50 z49 H=>(q1 (bE func236 (p5 (List.drop (1:Int).toNat (List.take (p1.aB6.length:Int).toNat p1.aB6)) _ z49)) ?_)
  exact gE 3
 refine gQ 5 ?_;refine bC H (fun h51 H=>?_) (fun h51 H=>?_)
 ·refine qS (bK H fun x53 z52 H=>(cC H fun z54 H=>(bK H fun x56 z55 H=>(dW (dI [7] bF (dI [1] bZ (dD [110] eE (dI [6] bF (dI [112] (bE func234 (sL fu 2 (p1.aB6.length:Int) _ z52)) ?_)))))))))
  refine dI [111,113] (bB.congrP (bB.sliceR (es:=aB.trs (p1.aB6)) (l:=x53) (k:=(p1.aB6.length:Int)) rfl rfl rfl rfl rfl (by rw [aB.trs_len];exact rfl) (by rw [aB.trs_len];exact z54) CJ.h) (aB.trs_part _ _ _)) ?_;refine dI [114] (bE func236 (p5 (List.drop (x53:Int).toNat (List.take (p1.aB6.length:Int).toNat p1.aB6)) _ z55)) (dI [109,115] rW (kU [2,116] jO (dN ?_)))
  exact gE 0
 refine gQ 5 ?_;refine bC H (fun h57 H=>?_) (fun h57 H=>?_)
 ·refine qS (bK H fun x59 z58 H=>(bK H fun x61 z60 H=>(cC H fun z62 H=>(bK H fun x64 z63 H=>(dW (dI [5] bF (dI [119] (yI h16 z14) (dI [120] (iI (aB.cs y15)) (dI [121] (bE func219 (yH fu y15 _ z58)) (dI [1] bZ (dD [123] eE (dI [6] bF (dI [125] (bE func234 (sL fu 2 (p1.aB6.length:Int) _ z60)) ?_)))))))))))))
  refine dI [124,126] (bB.congrP (bB.sliceR (es:=aB.trs (p1.aB6)) (l:=x61) (k:=(p1.aB6.length:Int)) rfl rfl rfl rfl rfl (by rw [aB.trs_len];exact rfl) (by rw [aB.trs_len];exact z62) CJ.h) (aB.trs_part _ _ _)) ?_;refine dI [127] (bE func236 (p5 (List.drop (x61:Int).toNat (List.take (p1.aB6.length:Int).toNat p1.aB6)) _ z63)) (dI [122,128] rW (kU [2,129] jO (dN ?_)))
  exact gE 0
 refine gQ 5 ?_;refine bC H (fun h65 H=>?_) (fun h65 H=>?_)
 ·refine qS (bK H fun x67 z66 H=>(cC H fun z68 H=>(bK H fun x70 z69 H=>(dW (dI [1] bZ (dB [132] 0 1 uK (dI [6] bF (dI [134] (bE func234 (sL fu 2 (p1.aB6.length:Int) _ z66)) ?_))))))))
  refine dI [133,135] (bB.congrP (bB.sliceR (es:=aB.trs (p1.aB6)) (l:=1) (k:=x67) rfl rfl rfl rfl rfl (by rw [aB.trs_len];exact rfl) (by rw [aB.trs_len];exact z68) CJ.h) (aB.trs_part _ _ _)) ?_;refine dI [136] (bE func236 (p5 (List.drop (1:Int).toNat (List.take (x67:Int).toNat p1.aB6)) _ z69)) (dI [137] rW (dE [] tAl (kU [8,138] jO (dN ?_))))
  refine gQ 5 ?_;refine cQ.wk (Wk.regBox (k:=2) (j:=8) 262 11 (by decide) rfl rfl) ?_;refine gL 38 (aB.trs_len _) (fun hl74=>?_)
  refine bU (σ:=(List bS)) (fun i71 v73=>⟨[(1,.ptr 0 0),(2,.ptr 1 0),(5,eF ((([])++p1.aB6)++([(aB.mk s_ []),(aB.mk s_ []),(aB.mk s_ [])]:List aB)) 0),(6,pN p1.aB6.length),(8,.ptr 2 0),(9,pN i71)],⟨[some ⟨189,[pS p1.aB9,bH p1.aB6]⟩,some ⟨211,[pI 0,pS s_,pS s_,pI 0,pI 0,pS s_,.nil,.nil,.nil]⟩,some ⟨211,[pI 7,pS s_,pS s_,pI 0,pI 0,pS s_,.nil,iP x70,aqX v73 1]⟩],[⟨189,2,aB.trs ((([])++p1.aB6)++([(aB.mk s_ []),(aB.mk s_ []),(aB.mk s_ [])]:List aB)),false⟩,⟨262,11,bS.trs (v73),false⟩]⟩⟩) (fun v73=>⟨[(1,.ptr 0 0),(2,.ptr 1 0),(5,eF ((([])++p1.aB6)++([(aB.mk s_ []),(aB.mk s_ []),(aB.mk s_ [])]:List aB)) 0),(6,pN p1.aB6.length),(8,.ptr 2 0)],⟨[some ⟨189,[pS p1.aB9,bH p1.aB6]⟩,some ⟨211,[pI 0,pS s_,pS s_,pI 0,pI 0,pS s_,.nil,.nil,.nil]⟩,some ⟨211,[pI 7,pS s_,pS s_,pI 0,pI 0,pS s_,.nil,iP x70,aqX v73 1]⟩],[⟨189,2,aB.trs ((([])++p1.aB6)++([(aB.mk s_ []),(aB.mk s_ []),(aB.mk s_ [])]:List aB)),false⟩,⟨262,11,bS.trs (v73),false⟩]⟩⟩) (eK H) ?_ ?_
  ·rintro i71 v73 H
   refine gQ 7 ?_;refine cS H (fun h75 h75l H=>?_) (fun h75 H=>?_)
   ·refine gQ 3 ?_;refine bK H fun x77 z76 H=>(cC H fun z78 H=>(dW (dI [8] bZ (dD [144] eE (dI [1] bZ (dD [146] eE (dI [9] bF (dI [147,148] qF (dI [149] (iI (aB.cs (aT p1.aB6 i71))) (dI [150] (bE func237 (pD (aT p1.aB6 i71) _ z76)) (dI [151] (iF ([x77]:List bS)) (dE [145,152] (lG z78) (dI [8] bZ ?_)))))))))))))
    refine kU [154,153] jO (dN ?_)
    exact gE 5
   exact gE 0
  rintro v73 H
  refine gQ 2 ?_;refine q1 (bW [pI 7,pS s_,pS s_,pI 0,pI 0,pS s_,.nil,iP x70,aqX v73 1]) ?_;exact gE 2
 refine gQ 2 ?_;refine bK H fun x80 z79 H=>(cC H fun z81 H=>(bK H fun x83 z82 H=>(dW (dI [5] bF (dI [156] (yI h19 z17) (dI [157] wZ (dI [158] vM (dI [1] bZ (dD [160] eE (dI [6] bF (dI [162] (bE func234 (sL fu 1 (p1.aB6.length:Int) _ z79)) ?_)))))))))))
 refine dI [161,163] (bB.congrP (bB.sliceR (es:=aB.trs (p1.aB6)) (l:=x80) (k:=(p1.aB6.length:Int)) rfl rfl rfl rfl rfl (by rw [aB.trs_len];exact rfl) (by rw [aB.trs_len];exact z81) CJ.h) (aB.trs_part _ _ _)) ?_;refine dI [164] (bE func236 (p5 (List.drop (x80:Int).toNat (List.take (p1.aB6.length:Int).toNat p1.aB6)) _ z82)) (dI [159,165] rW (kU [2,166] jO (dN ?_)))
 exact gE 0
def acX(fu:Nat)(p3:kA)(p0:iQ)(p4:lP)(p6:List aB):Nat→((List aL))→Option (LR ((List aL)) ((List aL))):=fun i1 v3=>bd (p3 (aT p6 i1)) fun x7=>gd ((v3).length+(([x7]:List aL)).length≤68719476736) (some (.next (v3++([x7]:List aL))))
def IU(fu:Nat)(p3:kA)(p0:iQ)(p4:lP)(p6:List aB):Option ((List aL)):=so (loopN (acX fu p3 p0 p4 p6) (p6.length-0) 0 ([])) fun v3=>some v3
theorem WZ(fu:Nat)(p3:kA)(p0:iQ)(p4:lP)(pC:wS p3)(p5:xZ p0)(pD:E6 p4):xZ (IU fu p3 p0 p4):=by
 intro p6 r H
 refine qJ func236 H (fun C hC H=>?_)
 refine gQ 6 ?_;refine q1 (qE ([]:List aL)) ?_;refine gQ 7 ?_;refine gL 0 (aB.trs_len _) (fun hl4=>?_)
 refine bU (σ:=(List aL)) (fun i1 v3=>⟨[(0,bH p6),(2,.nil),(3,aqC v3 0),(4,pN i1)],⟨[],[⟨211,9,aL.trs (v3),false⟩]⟩⟩) (fun v3=>⟨[(2,.nil),(3,aqC v3 0)],⟨[],[⟨211,9,aL.trs (v3),false⟩]⟩⟩) (eK H) ?_ ?_
 ·rintro i1 v3 H
  refine gQ 8 ?_;refine cS H (fun h5 h5l H=>?_) (fun h5 H=>?_)
  ·refine gQ 8 ?_;refine q1 (iI (aB.cs (aT p6 i1))) (bK H fun x7 z6 H=>(q1 (bE func220 (pC (aT p6 i1) _ z6)) (q1 (iF ([x7]:List aL)) (cC H fun z8 H=>(q1 (lG z8) ?_)))))
   exact gE 7
  exact gE 0
 rintro v3 H
 exact gE 5
def R2(fu:Nat)(p3:kA)(p0:iQ)(p4:lP)(px:aB):Option bS:=sw (decide ((px.aB6.length:Int)<2)) (some (bS.mk s_ [] (aL.mk 0 s_ s_ 0 (aA.mk 0 s_ []) [] []))) (gd ((0:Int)≤1∧(1:Int)≤aX ((px.aB6.length:Int)-1)∧(aX ((px.aB6.length:Int)-1):Int)≤(px.aB6.length:Int)) (bd (B5 fu (List.drop (1:Int).toNat (List.take (aX ((px.aB6.length:Int)-1):Int).toNat px.aB6))) fun(x4,x5)=>gd (0<(px.aB6).length) (gd (0≤aX ((px.aB6.length:Int)-1)∧(aX ((px.aB6.length:Int)-1)).toNat<(px.aB6).length) (lt (aT px.aB6 ((aX ((px.aB6.length:Int)-1)).toNat)) fun y8=>bd (p3 y8) fun x11=>some (bS.mk ((aT px.aB6 0).aB9) x4 x11)))))
theorem acV(fu:Nat)(p3:kA)(p0:iQ)(p4:lP)(pC:wS p3)(p5:xZ p0)(pD:E6 p4):E6 (R2 fu p3 p0 p4):=by
 intro px r H
 refine qJ func237 H (fun C hC H=>?_)
 refine gQ 2 ?_;refine q1 (eX ([pS px.aB9,bH px.aB6])) ?_;refine gQ 15 ?_;refine bC H (fun h1 H=>?_) (fun h1 H=>?_)
 ·have h1n:px.aB6.length<2:=by have:=of_decide_eq_true h1;omega
  exact gE 5
 refine gQ 7 ?_;refine cC H fun z2 H=>?_;refine q1 (bB.congrP (bB.sliceR (es:=aB.trs (px.aB6)) (l:=1) (k:=aX ((px.aB6.length:Int)-1)) rfl rfl rfl rfl rfl (by rw [aB.trs_len];exact rfl) (by rw [aB.trs_len];exact z2) CJ.h) (aB.trs_part _ _ _)) ?_;refine dP H fun x4 x5 z3 H=>(q1 (bE func174 (I3 fu (List.drop (1:Int).toNat (List.take (aX ((px.aB6.length:Int)-1):Int).toNat px.aB6)) _ z3)) ?_)
 refine gQ 7 ?_;refine cC H fun z6 H=>(cC H fun z7 H=>(fZ H fun y8 h9 H=>(bK H fun x11 z10 H=>(dW (dI [1] bZ (dD [21] eE (dI [22] qF (dI [23] wZ (dI [24] vM (dI [4] bF (dI [1] bZ (dD [27] eE (dI [3] bF ?_)))))))))))))
 refine dI [29] rSw (dI [28,30] (rIm h9 z7 CJ.h) (dI [31] (iI (aB.cs y8)) (dI [32] (bE func220 (pC y8 _ z10)) (dI [25,26,33] rW (kU [2,34] jO (dN ?_))))))
 exact gE 0
mutual
def gZ:Nat→aB→Option aL
 |0,_=>none
 |fu+1,p1=>M0 fu (gZ fu) (kR fu) (nQ fu) p1
def kR:Nat→(List aB)→Option ((List aL))
 |0,_=>none
 |fu+1,p6=>IU fu (gZ fu) (kR fu) (nQ fu) p6
def nQ:Nat→aB→Option bS
 |0,_=>none
 |fu+1,px=>R2 fu (gZ fu) (kR fu) (nQ fu) px
end
theorem acW(fu:Nat):wS (gZ fu)∧xZ (kR fu)∧E6 (nQ fu):=by
 induction fu with
 |zero=>exact⟨(fun p1 r H=>by simp only [gZ] at H;cases H),(fun p6 r H=>by simp only [kR] at H;cases H),(fun px r H=>by simp only [nQ] at H;cases H)⟩
 |succ fu ih=>exact⟨(fun p1 r H=>by simp only [gZ] at H;exact ZF fu (gZ fu) (kR fu) (nQ fu) ih.1 ih.2.1 ih.2.2 p1 r H),(fun p6 r H=>by simp only [kR] at H;exact WZ fu (gZ fu) (kR fu) (nQ fu) ih.1 ih.2.1 ih.2.2 p6 r H),(fun px r H=>by simp only [nQ] at H;exact acV fu (gZ fu) (kR fu) (nQ fu) ih.1 ih.2.1 ih.2.2 px r H)⟩
theorem IT(fu:Nat):wS (gZ fu):=(acW fu).1
abbrev tD:=aL→Option aB
abbrev nD:=(List aB)→(List aL)→Option aB
def IV(m:tD):Prop:= ∀(p1:aL) (r:aB),m p1=some r→bR Tryz.prog 243 [(aL.pv p1)] ((aB.pv r):PV)
def GH(m:nD):Prop:= ∀(pA:List aB) (p6:List aL) (r:aB),m pA p6=some r→b7 Tryz.prog 256 [eF pA 0,iP p6] ⟨[],[⟨189,2,aB.trs (pA),false⟩]⟩ (fun q t=>q=(.agg [pS r.aB9,eF r.aB6 0]:PV)∧t=⟨[],[⟨189,2,aB.trs (r.aB6),false⟩]⟩)
def amO(fu:Nat)(p8:tD)(p2:nD)(p1:aL)(x68 x70:aB):Nat→((List aB))→Option (LR ((List aB)) aB):=fun i71 v73=>lt (aT p1.aCo i71) fun y76=>bd (cB fu y76.aCs) fun x79=>bd (GP fu y76.aCg) fun x81=>gd ((([x79]:List aB)).length+x81.length≤68719476736) (bd (p8 y76.aCd) fun x84=>gd ((([x79]:List aB)++x81).length+(([x84]:List aB)).length≤68719476736) (gd ((v73).length+(([(aB.mk s_ ((([x79]:List aB)++x81)++([x84]:List aB)))]:List aB)).length≤68719476736) (some (.next (v73++([(aB.mk s_ ((([x79]:List aB)++x81)++([x84]:List aB)))]:List aB))))))
def W0(fu:Nat)(p8:tD)(p2:nD)(p1:aL):Option aB:=sw (decide (p1.aB5=1)) (bd (n7 fu p1.aCL) fun x3=>bd (cB fu x3) fun x5=>some x5) (sw (decide (p1.aB5=2)) (gd (0≤p1.aCL∧(p1.aCL).toNat<(([l8,qM]:LB)).length) (bd (cB fu (aT ([l8,qM]:LB) ((p1.aCL).toNat))) fun x9=>some x9)) (sw (decide (p1.aB5=3)) (bd (cB fu p1.aB3) fun x12=>some x12) (sw (decide (p1.aB5=4)) (bd (cB fu RY) fun x15=>bd (cB fu p1.aB3) fun x17=>bd (p2 ([x15,x17]:List aB) p1.aB4) fun x19=>some (aB.mk x19.aB9 x19.aB6)) (sw (decide (p1.aB5=5)) (bd (cB fu o7) fun x22=>bd (cB fu p1.aCa) fun x24=>bd (cB fu p1.aB3) fun x26=>bd (p2 ([x22,x24,x26]:List aB) p1.aB4) fun x28=>some (aB.mk x28.aB9 x28.aB6)) (sw (decide (p1.aB5=6)) (bd (cB fu G6) fun x31=>bd (cB fu p1.aB3) fun x33=>bd (p2 ([x31,x33]:List aB) p1.aB4) fun x35=>some (aB.mk x35.aB9 x35.aB6)) (sw (decide (p1.aB5=8)) (bd (cB fu G5) fun x38=>bd (cB fu p1.aB3) fun x40=>bd (p2 ([x38,x40]:List aB) p1.aB4) fun x42=>some (aB.mk x42.aB9 x42.aB6)) (sw (decide (p1.aB5=9)) (bd (cB fu GC) fun x45=>bd (p2 ([x45]:List aB) p1.aB4) fun x47=>some (aB.mk x47.aB9 x47.aB6)) (sw (decide (p1.aB5=10)) (bd (cB fu p1.aB3) fun x50=>bd (p2 ([x50]:List aB) p1.aB4) fun x52=>some (aB.mk x52.aB9 x52.aB6)) (sw (decide (p1.aB5=11)) (bd (cB fu zB) fun x55=>bd (cB fu p1.aCa) fun x57=>bd (p2 ([x55,x57]:List aB) p1.aB4) fun x59=>some (aB.mk x59.aB9 x59.aB6)) (sw (decide (p1.aB5=12)) (bd (cB fu aaV) fun x62=>bd (m6 fu p1.aB7) fun x64=>bd (p2 ([x62,x64]:List aB) p1.aB4) fun x66=>some (aB.mk x66.aB9 x66.aB6)) (bd (cB fu zA) fun x68=>bd (p2 ([x68]:List aB) p1.aB4) fun x70=>so (loopN (amO fu p8 p2 p1 x68 x70) (p1.aCo.length-0) 0 x70.aB6) fun v73=>some (aB.mk x70.aB9 v73))))))))))))
theorem agT(fu:Nat)(p8:tD)(p2:nD)(pE:IV p8)(p7:GH p2):IV (W0 fu p8 p2):=by
 intro p1 r H
 refine qJ func243 H (fun C hC H=>?_)
 refine gQ 2 ?_;refine q1 (eX (jB p1)) ?_;refine gQ 14 ?_;refine bC H (fun h1 H=>?_) (fun h1 H=>?_)
 ·refine gQ 4 ?_;refine bK H fun x3 z2 H=>(q1 (bE func255 (DP fu p1.aCL _ z2)) (bK H fun x5 z4 H=>(q1 (bE func239 (b5 fu x3 _ z4)) ?_)))
  exact gE 2
 refine gQ 5 ?_;refine bC H (fun h6 H=>?_) (fun h6 H=>?_)
 ·refine gQ 2 ?_;refine q1 (iF ([l8,qM]:LB)) ?_;refine gQ 2 ?_;refine cC H fun z7 H=>(q1 (rIy z7 aiD.h) (q1 vM (bK H fun x9 z8 H=>(q1 (bE func239 (b5 fu (aT ([l8,qM]:LB) ((p1.aCL).toNat)) _ z8)) ?_))))
  exact gE 2
 refine gQ 5 ?_;refine bC H (fun h10 H=>?_) (fun h10 H=>?_)
 ·refine gQ 4 ?_;refine bK H fun x12 z11 H=>(q1 (bE func239 (b5 fu p1.aB3 _ z11)) ?_)
  exact gE 2
 refine gQ 5 ?_;refine bC H (fun h13 H=>?_) (fun h13 H=>?_)
 ·refine qS (bK H fun x15 z14 H=>(bK H fun x17 z16 H=>(bK H fun x19 z18 H=>(dW (dI [] (bE func239 (b5 fu RY _ z14)) (dI [1] bZ (dD [31] eE (dI [32] (bE func239 (b5 fu p1.aB3 _ z16)) (dE [30,33] (qE ([x15,x17]:List aB)) (dI [1] bZ (dB [35] 0 1 uK (dE [34,36] (eU [] [0] func256 (p7 ([x15,x17]:List aB) p1.aB4 _ z18)) (kU [2,37] jO ?_)))))))))))))
  refine dN ?_;exact gE 0
 refine gQ 5 ?_;refine bC H (fun h20 H=>?_) (fun h20 H=>?_)
 ·refine qS (bK H fun x22 z21 H=>(bK H fun x24 z23 H=>(bK H fun x26 z25 H=>(bK H fun x28 z27 H=>(dW (dI [] (bE func239 (b5 fu o7 _ z21)) (dI [1] bZ (dD [41] eE (dI [42] (bE func239 (b5 fu p1.aCa _ z23)) (dI [1] bZ (dD [44] eE (dI [45] (bE func239 (b5 fu p1.aB3 _ z25)) (dE [40,43,46] (qE ([x22,x24,x26]:List aB)) ?_)))))))))))))
  refine dI [1] bZ (dB [48] 0 1 uK (dE [47,49] (eU [] [0] func256 (p7 ([x22,x24,x26]:List aB) p1.aB4 _ z27)) (kU [2,50] jO (dN ?_))))
  exact gE 0
 refine gQ 5 ?_;refine bC H (fun h29 H=>?_) (fun h29 H=>?_)
 ·refine qS (bK H fun x31 z30 H=>(bK H fun x33 z32 H=>(bK H fun x35 z34 H=>(dW (dI [] (bE func239 (b5 fu G6 _ z30)) (dI [1] bZ (dD [54] eE (dI [55] (bE func239 (b5 fu p1.aB3 _ z32)) (dE [53,56] (qE ([x31,x33]:List aB)) (dI [1] bZ (dB [58] 0 1 uK (dE [57,59] (eU [] [0] func256 (p7 ([x31,x33]:List aB) p1.aB4 _ z34)) (kU [2,60] jO ?_)))))))))))))
  refine dN ?_;exact gE 0
 refine gQ 5 ?_;refine bC H (fun h36 H=>?_) (fun h36 H=>?_)
 ·refine qS (bK H fun x38 z37 H=>(bK H fun x40 z39 H=>(bK H fun x42 z41 H=>(dW (dI [] (bE func239 (b5 fu G5 _ z37)) (dI [1] bZ (dD [64] eE (dI [65] (bE func239 (b5 fu p1.aB3 _ z39)) (dE [63,66] (qE ([x38,x40]:List aB)) (dI [1] bZ (dB [68] 0 1 uK (dE [67,69] (eU [] [0] func256 (p7 ([x38,x40]:List aB) p1.aB4 _ z41)) (kU [2,70] jO ?_)))))))))))))
  refine dN ?_;exact gE 0
 refine gQ 5 ?_;refine bC H (fun h43 H=>?_) (fun h43 H=>?_)
 ·refine qS (bK H fun x45 z44 H=>(bK H fun x47 z46 H=>(dW (dI [] (bE func239 (b5 fu GC _ z44)) (dE [73] (qE ([x45]:List aB)) (dI [1] bZ (dB [75] 0 1 uK (dE [74,76] (eU [] [0] func256 (p7 ([x45]:List aB) p1.aB4 _ z46)) (kU [2,77] jO (dN ?_))))))))))
  exact gE 0
 refine gQ 5 ?_;refine bC H (fun h48 H=>?_) (fun h48 H=>?_)
 ·refine qS (bK H fun x50 z49 H=>(bK H fun x52 z51 H=>(dW (dI [1] bZ (dD [80] eE (dI [81] (bE func239 (b5 fu p1.aB3 _ z49)) (dE [82] (qE ([x50]:List aB)) (dI [1] bZ (dB [84] 0 1 uK (dE [83,85] (eU [] [0] func256 (p7 ([x50]:List aB) p1.aB4 _ z51)) (kU [2,86] jO (dN ?_))))))))))))
  exact gE 0
 refine gQ 5 ?_;refine bC H (fun h53 H=>?_) (fun h53 H=>?_)
 ·refine qS (bK H fun x55 z54 H=>(bK H fun x57 z56 H=>(bK H fun x59 z58 H=>(dW (dI [] (bE func239 (b5 fu zB _ z54)) (dI [1] bZ (dD [90] eE (dI [91] (bE func239 (b5 fu p1.aCa _ z56)) (dE [89,92] (qE ([x55,x57]:List aB)) (dI [1] bZ (dB [94] 0 1 uK (dE [93,95] (eU [] [0] func256 (p7 ([x55,x57]:List aB) p1.aB4 _ z58)) (kU [2,96] jO ?_)))))))))))))
  refine dN ?_;exact gE 0
 refine gQ 5 ?_;refine bC H (fun h60 H=>?_) (fun h60 H=>?_)
 ·refine qS (bK H fun x62 z61 H=>(bK H fun x64 z63 H=>(bK H fun x66 z65 H=>(dW (dI [] (bE func239 (b5 fu aaV _ z61)) (dI [1] bZ (dD [100] (bW [pI p1.aB7.aB5,pS p1.aB7.aB3,aR p1.aB7.aB4]) (dI [101] (bE func242 (yG fu p1.aB7 _ z63)) (dE [99,102] (qE ([x62,x64]:List aB)) (dI [1] bZ (dB [104] 0 1 uK (dE [103,105] (eU [] [0] func256 (p7 ([x62,x64]:List aB) p1.aB4 _ z65)) (kU [2,106] jO ?_)))))))))))))
  refine dN ?_;exact gE 0
 refine gQ 2 ?_;refine bK H fun x68 z67 H=>(bK H fun x70 z69 H=>(dWa (dI [] (bE func239 (b5 fu zA _ z67)) ?_)))
 refine dEz [107] (fun _ z=>by cases z<;>exact rBa ([x68]:List aB) CJ.h abA.h) ?_;refine dI [1] bZ (dBz [109] 0 1 uK ?_)
 refine dEz [108,110] (fun _ z=>by cases z<;>exact eU [] [0] func256 (p7 ([x68]:List aB) p1.aB4 _ z69)) ?_;refine dA (fun _ st h=>vAl h abA.h) (dZ 3 [3,111] jO (dN ?_))
 refine gQ 5 ?_;refine cQ.fact (cI 0 8 rfl rfl rfl (bS.trs_len _)) (fun hl74=>?_)
 refine bU (σ:=(List aB)) (fun i71 v73=>⟨[(1,.ptr 0 0),(2,.ptr 1 0),(3,.ptr 2 0),(4,pN i71)],⟨[some ⟨211,jB p1⟩,some ⟨189,[pS s_,.nil]⟩,some ⟨189,[pS x70.aB9,eF v73 0]⟩],[⟨189,2,aB.trs (v73),false⟩]⟩⟩) (fun v73=>⟨[(2,.ptr 1 0),(3,.ptr 2 0)],⟨[some ⟨211,jB p1⟩,some ⟨189,[pS s_,.nil]⟩,some ⟨189,[pS x70.aB9,eF v73 0]⟩],[⟨189,2,aB.trs (v73),false⟩]⟩⟩) (eK H) ?_ ?_
 ·rintro i71 v73 H
  refine gQ 9 ?_;refine cS H (fun h75 h75l H=>?_) (fun h75 H=>?_)
  ·refine gQ 8 ?_;refine fZ H fun y76 h77 H=>(q1 (yI h77 h75l) (q1 (iI (bS.cs y76)) ?_))
   refine gQ 4 ?_;refine bK H fun x79 z78 H=>(bK H fun x81 z80 H=>(cC H fun z82 H=>(dW (dI [5] bZ (dD [124] eE (dI [125] (bE func239 (b5 fu y76.aCs _ z78)) (dE [126] (qE ([x79]:List aB)) (dI [5] bZ (dB [128] 0 1 uK (dI [129] (bE func254 (S6 fu y76.aCg _ z80)) (dE [127,130] (lG z82) (dI [131] bF (dN ?_)))))))))))))
   refine bK H fun x84 z83 H=>(cC H fun z85 H=>(cC H fun z86 H=>(dW (dI [3] bZ (dB [132] 0 1 uK (dI [6] bF (dI [5] bZ (dD [135] (bW [pI y76.aCd.aB5,pS y76.aCd.aCa,pS y76.aCd.aB3,pI y76.aCd.aCL,pI y76.aCd.aB7.aB5,pS y76.aCd.aB7.aB3,aR y76.aCd.aB7.aB4,iP y76.aCd.aB4,sE y76.aCd.aCo]) (dI [136] (bE func243 (pE y76.aCd _ z83)) (dI [137] (iF ([x84]:List aB)) (dE [134,138] (lG z85) (dI [139] rW (dI [140] (iF ([(aB.mk s_ ((([x79]:List aB)++x81)++([x84]:List aB)))]:List aB)) ?_)))))))))))))
   refine dE [133,141] (lG z86) (dI [3] bZ (kU [143,142] jO (dN ?_)))
   exact gE 5
  exact gE 0
 rintro v73 H
 refine gQ 2 ?_;refine q1 (bW [pS x70.aB9,eF v73 0]) ?_;exact gE 2
def agP(fu:Nat)(p8:tD)(p2:nD)(pA:List aB)(p6:List aL):Nat→((List aB))→Option (LR ((List aB)) aB):=fun i1 v3=>lt (aT p6 i1) fun y6=>bd (p8 y6) fun x9=>gd ((v3).length+(([x9]:List aB)).length≤68719476736) (some (.next (v3++([x9]:List aB))))
def MZ(fu:Nat)(p8:tD)(p2:nD)(pA:List aB)(p6:List aL):Option aB:=so (loopN (agP fu p8 p2 pA p6) (p6.length-0) 0 pA) fun v3=>some (aB.mk s_ v3)
theorem ZD(fu:Nat)(p8:tD)(p2:nD)(pE:IV p8)(p7:GH p2):GH (MZ fu p8 p2):=by
 intro pA p6 r H
 refine qJ func256 H (fun C hC H=>?_)
 refine gQ 16 ?_;refine gL 1 (aL.trs_len _) (fun hl4=>?_)
 refine bU (σ:=(List aB)) (fun i1 v3=>⟨[(1,iP p6),(4,.ptr 0 0),(5,.ptr 1 0),(6,pN i1)],⟨[some ⟨189,[pS s_,.nil]⟩,some ⟨189,[pS s_,eF v3 0]⟩],[⟨189,2,aB.trs (v3),false⟩]⟩⟩) (fun v3=>⟨[(4,.ptr 0 0),(5,.ptr 1 0)],⟨[some ⟨189,[pS s_,.nil]⟩,some ⟨189,[pS s_,eF v3 0]⟩],[⟨189,2,aB.trs (v3),false⟩]⟩⟩) (eK H) ?_ ?_
 ·rintro i1 v3 H
  refine gQ 8 ?_;refine cS H (fun h5 h5l H=>?_) (fun h5 H=>?_)
  ·refine gQ 3 ?_;refine fZ H fun y6 h7 H=>(bK H fun x9 z8 H=>(cC H fun z10 H=>(dW (dI [5] bZ (dD [15] eE (dI [1] bF (dI [6] bF (dI [17,18] (yI h7 h5l) (dI [19] (iI (aL.cs y6)) (dI [20] (bE func243 (pE y6 _ z8)) (dI [21] (iF ([x9]:List aB)) (dE [16,22] (lG z10) (dI [5] bZ ?_)))))))))))))
   refine kU [24,23] jO (dN ?_)
   exact gE 5
  exact gE 0
 rintro v3 H
 refine gQ 2 ?_;refine q1 (bW [pS s_,eF v3 0]) ?_;exact gE 2
mutual
def mZ:Nat→aL→Option aB
 |0,_=>none
 |fu+1,p1=>W0 fu (mZ fu) (oA fu) p1
def oA:Nat→(List aB)→(List aL)→Option aB
 |0,_,_=>none
 |fu+1,pA,p6=>MZ fu (mZ fu) (oA fu) pA p6
end
theorem ajG(fu:Nat):IV (mZ fu)∧GH (oA fu):=by
 induction fu with
 |zero=>exact⟨(fun p1 r H=>by simp only [mZ] at H;cases H),(fun pA p6 r H=>by simp only [oA] at H;cases H)⟩
 |succ fu ih=>exact⟨(fun p1 r H=>by simp only [mZ] at H;exact agT fu (mZ fu) (oA fu) ih.1 ih.2 p1 r H),(fun pA p6 r H=>by simp only [oA] at H;exact ZD fu (mZ fu) (oA fu) ih.1 ih.2 pA p6 r H)⟩
theorem R3(fu:Nat):IV (mZ fu):=(ajG fu).1
end
end Go.Proofs.YtfcoaagbccmahaaGreat.W
