/- Rules and walks. No conditions but those told. -/
import Derived.Test.YtfcoaagbccmahaaGreatQh27beb12c
set_option linter.unusedSimpArgs false
set_option linter.unusedVariables false
namespace Go.Proofs.YtfcoaagbccmahaaGreat.W
set_option maxRecDepth 100000
set_option maxHeartbeats 40000000
noncomputable section
open Tryz Go.RowKit Go.Proofs
attribute [local irreducible] lt
def aeM(fu:Nat)(p3:LB)(ps:Y):Nat→Unit→J (LR Unit Bool):=fun i1 _=>sw (decide (aR p3 i1=ps)) (some (.ret true)) (some (.next ()))
def mL(fu:Nat)(p3:LB)(ps:Y):J Bool:=so (loopN (aeM fu p3 ps) (p3.length-0) 0 ()) fun _=>some false
theorem nT(fu:Nat)(p3:LB)(ps:Y)(r:Bool)(H:mL fu p3 ps=some r):bU prog 153 [rS p3,pS ps] (pB r):=by
 refine qJ func153 H (fun C hC H=>?_)
 refine gQ 9 ?_;refine gV 0 (b6 _) (fun hl2=>?_)
 refine bV (σ:=Unit) (fun i1 _=>⟨[(0,rS p3),(1,pS ps),(4,pB false),(5,pN i1)],⟨[],[]⟩⟩) (fun _=>⟨[(4,pB false)],⟨[],[]⟩⟩) (fA H) ?_ ?_
 ·rintro i1 ⟨⟩ H
  refine gQ 8 ?_;refine cZ H (fun h3 h3l H=>?_) (fun h3 H=>?_)
  ·refine gQ 12 ?_;refine bG H (fun h4 H=>gE 4) fun h4 H=>?_;exact gE 6
  exact gE 0
 rintro⟨⟩ H
 exact gE 4
def zM(fu:Nat)(ps:Y):J Bool:=bd (mL fu ([fE,eU,kK,BP,IQ,JL,BC,JM,sA,BD,sQ,nL]:LB) ps) fun x2=>some x2
theorem aaI(fu:Nat)(ps:Y)(r:Bool)(H:zM fu ps=some r):bU prog 227 [pS ps] (pB r):=by
 refine qJ func227 H (fun C hC H=>?_)
 refine gQ 6 ?_;refine q1 (iL ([fE,eU,kK,BP,IQ,JL,BC,JM,sA,BD,sQ,nL]:LB)) (q1 bI (bN H fun x2 z1 H=>(q1 (bJ func153 (nT fu ([fE,eU,kK,BP,IQ,JL,BC,JM,sA,BD,sQ,nL]:LB) ps _ z1)) ?_)))
 exact gE 2
def W9(fu:Nat)(ps:Y)(x2 x5:Bool):Nat→Unit→J (LR Unit Bool):=fun i7 _=>gd (i7<(ps).size) (sw (decide ((((HX ps i7).toNat:Int):Int)≥97)) (sw (!(decide ((((HX ps i7).toNat:Int):Int)≤122))) (sw (decide ((i7:Int)=0)) (some (.ret false)) (sw (decide ((((HX ps i7).toNat:Int):Int)<48)) (some (.ret false)) (sw (decide ((((HX ps i7).toNat:Int):Int)>57)) (some (.ret false)) (some (.next ()))))) (some (.next ()))) (sw (decide ((i7:Int)=0)) (some (.ret false)) (sw (decide ((((HX ps i7).toNat:Int):Int)<48)) (some (.ret false)) (sw (decide ((((HX ps i7).toNat:Int):Int)>57)) (some (.ret false)) (some (.next ()))))))
def dX(fu:Nat)(ps:Y):J Bool:=bd (IZ fu (ps.size:Int) 1 8) fun x2=>sw (!(x2)) (some false) (bd (zM fu ps) fun x5=>sw x5 (some false) (so (loopN (W9 fu ps x2 x5) (ps.size-0) 0 ()) fun _=>some true))
theorem eT(fu:Nat)(ps:Y)(r:Bool)(H:dX fu ps=some r):bU prog 205 [pS ps] (pB r):=by
 refine qJ func205 H (fun C hC H=>?_)
 refine gQ 8 ?_;refine q1 (gP rfl rfl rfl underlying9) (bN H fun x2 z1 H=>(q1 (bJ func64 (LC fu (ps.size:Int) 1 8 _ z1)) ?_))
 refine gQ 2 ?_;refine dY 9 H (fun g3 H=>gE 9) fun g3 H=>?_;refine qg g3 bI (bN H fun x5 z4 H=>(qg g3 (bJ func227 (aaI fu ps _ z4)) ?_))
 refine gQ 2 ?_;refine bG H (fun h6 H=>gE 4) fun h6 H=>?_;refine gQ 6 ?_;refine szF 0 (fun hl8=>?_)
 refine bV (σ:=Unit) (fun i7 _=>⟨[(0,pS ps),(2,pB false),(3,pN i7)],⟨[],[]⟩⟩) (fun _=>⟨[(2,pB false)],⟨[],[]⟩⟩) (fA H) ?_ ?_
 ·rintro i7 ⟨⟩ H
  refine gQ 5 ?_;refine q1 (gP rfl rfl rfl underlying9) ?_;refine gQ 2 ?_;refine cZ H (fun h9 h9l H=>?_) (fun h9 H=>?_)
  ·have h9n:i7<ps.size:=by have:=of_decide_eq_true h9;omega
   refine gQ 7 ?_;refine cB H fun z10 H=>(q1 (hZ (k:=i7) rfl rfl rfl rfl z10 underlying9) ?_)
   refine gQ 2 ?_;refine dY 23 H (fun g11 H=>?_) fun g11 H=>?_
   ·refine gQ 2 ?_;refine qg g11 (hZ (k:=i7) rfl rfl rfl rfl z10 underlying9) ?_;refine gQ 9 ?_;refine dY 31 H (fun g12 H=>?_) fun g12 H=>?_
    ·refine gQ 3 ?_;refine dY 34 H (fun g13 H=>gE 18) fun g13 H=>?_;refine gQ 2 ?_;refine qg g13 (hZ (k:=i7) rfl rfl rfl rfl z10 underlying9) ?_;refine gQ 3 ?_;refine dY 40 H (fun g14 H=>gE 12) fun g14 H=>?_;refine gQ 2 ?_;refine qg g14 (hZ (k:=i7) rfl rfl rfl rfl z10 underlying9) ?_;refine gQ 4 ?_;refine bG H (fun h15 H=>gE 4) fun h15 H=>?_;exact gE 6
    exact gE 23
   refine gQ 12 ?_;refine qg (congrArg (fun b=> !b) (rfl:false=false)) bI (qg (congrArg (fun b=> !b) (rfl:false=false)) rEq (qg (congrArg (fun b=> !b) (rfl:false=false)) bI ?_))
   refine dY 34 H (fun g16 H=>?_) fun g16 H=>?_
   ·refine gQ 4 ?_;refine qg (congrArg (fun b=> !b) (rfl:false=false)) (CJ g16) (qg (congrArg (fun b=> !b) (rfl:false=false)) bI ?_)
    refine gQ 4 ?_;refine qg (congrArg (fun b=> !b) (rfl:false=false)) (CJ rfl) (q1 (CJ (congrArg (fun b=> !b) (rfl:false=false))) ?_)
    exact gE 6
   refine gQ 2 ?_;refine qg g16 (hZ (k:=i7) rfl rfl rfl rfl z10 underlying9) (qg g16 rLt (qg (congrArg (fun b=> !b) (rfl:false=false)) (D3 g16) (qg (congrArg (fun b=> !b) (rfl:false=false)) bI ?_)))
   refine dY 40 H (fun g17 H=>?_) fun g17 H=>?_
   ·refine gQ 4 ?_;refine qg (congrArg (fun b=> !b) (rfl:false=false)) (CJ g17) (q1 (CJ (congrArg (fun b=> !b) (rfl:false=false))) ?_)
    exact gE 6
   refine gQ 2 ?_;refine qg g17 (hZ (k:=i7) rfl rfl rfl rfl z10 underlying9) (qg g17 rGt (qg (congrArg (fun b=> !b) (rfl:false=false)) (D3 g17) (q1 (CJ (congrArg (fun b=> !b) (rfl:false=false))) (qN ?_))))
   refine bG H (fun h18 H=>gE 4) fun h18 H=>?_;exact gE 6
  exact gE 0
 rintro⟨⟩ H
 exact gE 4
def ak9(fu:Nat)(p3:LB):Nat→Unit→J (LR Unit Bool):=fun i1 _=>bd (dX fu (aR p3 i1)) fun x5=>sw (!(x5)) (some (.ret false)) (some (.next ()))
def I8(fu:Nat)(p3:LB):J Bool:=so (loopN (ak9 fu p3) (p3.length-0) 0 ()) fun _=>some true
theorem V8(fu:Nat)(p3:LB)(r:Bool)(H:I8 fu p3=some r):bU prog 228 [rS p3] (pB r):=by
 refine qJ func228 H (fun C hC H=>?_)
 refine gQ 9 ?_;refine gV 0 (b6 _) (fun hl2=>?_)
 refine bV (σ:=Unit) (fun i1 _=>⟨[(0,rS p3),(2,pB false),(3,pN i1)],⟨[],[]⟩⟩) (fun _=>⟨[(2,pB false)],⟨[],[]⟩⟩) (fA H) ?_ ?_
 ·rintro i1 ⟨⟩ H
  refine gQ 8 ?_;refine cZ H (fun h3 h3l H=>?_) (fun h3 H=>?_)
  ·refine gQ 9 ?_;refine bN H fun x5 z4 H=>(q1 (bJ func205 (eT fu (aR p3 i1) _ z4)) ?_)
   refine gQ 2 ?_;refine bG H (fun h6 H=>gE 4) fun h6 H=>?_;exact gE 6
  exact gE 0
 rintro⟨⟩ H
 exact gE 4
def W1(fu:Nat)(p3:LB):Nat→Unit→J (LR Unit Bool):=fun i1 _=>gd ((0:Int)≤0∧(0:Int)≤(i1:Int)∧(i1:Int)≤(p3.length:Int)) (bd (mL fu (List.drop (0:Int).toNat (List.take (i1:Int).toNat p3)) (aR p3 i1)) fun x6=>sw x6 (some (.ret false)) (some (.next ())))
def l0(fu:Nat)(p3:LB):J Bool:=so (loopN (W1 fu p3) (p3.length-0) 0 ()) fun _=>some true
theorem nR(fu:Nat)(p3:LB)(r:Bool)(H:l0 fu p3=some r):bU prog 207 [rS p3] (pB r):=by
 refine qJ func207 H (fun C hC H=>?_)
 refine gQ 9 ?_;refine gV 0 (b6 _) (fun hl2=>?_)
 refine bV (σ:=Unit) (fun i1 _=>⟨[(0,rS p3),(2,pB false),(3,pN i1)],⟨[],[]⟩⟩) (fun _=>⟨[(2,pB false)],⟨[],[]⟩⟩) (fA H) ?_ ?_
 ·rintro i1 ⟨⟩ H
  refine gQ 8 ?_;refine cZ H (fun h3 h3l H=>?_) (fun h3 H=>?_)
  ·refine gQ 4 ?_;refine cB H fun z4 H=>(bN H fun x6 z5 H=>(dW (dI [0] bI (dI [3] bI ?_))))
   refine dI [10,11] (jP (jQ (es:=bA (p3)) (l:=0) (k:=(i1:Int)) rfl rfl rfl rfl rfl (by rw [b6];exact rfl) (by rw [b6];exact z4) amO.h) (alL _ _ _)) ?_;refine dI [0] bI (dI [3] bI (dI [13,14] mU (dI [15] wH (dI [12,16] (bJ func153 (nT fu (List.drop (0:Int).toNat (List.take (i1:Int).toNat p3)) (aR p3 i1) _ z5)) (dN ?_)))))
   refine bG H (fun h7 H=>gE 4) fun h7 H=>?_;exact gE 6
  exact gE 0
 rintro⟨⟩ H
 exact gE 4
def alE(m:Y→J aA):Prop:= ∀(ps:Y) (r:aA),m ps=some r→xF prog 137 [pS ps] ⟨[],[]⟩ [] 30 3 (aA.trs (r.aFt)) (fun k=> .agg [pI r.aFw,pS r.aFs,jO r.aFt k])
theorem m6{m:Y→J aA}(h:alE m)(ps:Y)(r:aA)(H:m ps=some r):bU prog 137 [pS ps] ((aA.pv r):PV):=(h ps r H).plain (fun _=>mG) (hp:=af1)
def qO(fu:Nat)(ps:Y):J aA:=some (aA.mk 1 ps [])
theorem mC(fu:Nat):alE (qO fu):=by
 intro ps r H
 unfold xF
 refine qJ func137 H (fun C hC H=>?_)
 refine gQ 10 ?_;refine kC (eY (k:=0) (j:=2) 30 3 (by decide) rfl rfl) (dR.ret ?_)
 obtain rfl:_=r:=(tO H:)
 exact SX (st':=⟨[],[⟨30,3,aA.trs ([]),false⟩]⟩) ⟨0,rfl,rfl,rfl⟩ (hr:=⟨⟨_,_,_,rfl,rfl,NT.h,rfl,rfl⟩,trivial⟩)
def alA(m:Y→(Z aA)→J aA):Prop:= ∀(ps:Y) (pE:Z aA) (r:aA),m ps pE=some r→xF prog 47 [pS ps,aV pE] ⟨[],[]⟩ [] 30 3 (aA.trs (r.aFt)) (fun k=> .agg [pI r.aFw,pS r.aFs,jO r.aFt k])
theorem wE{m:Y→(Z aA)→J aA}(h:alA m)(ps:Y)(pE:Z aA)(r:aA)(H:m ps pE=some r):bU prog 47 [pS ps,aV pE] ((aA.pv r):PV):=(h ps pE r H).plain (fun _=>mG) (hp:=af1)
def iJ(fu:Nat)(ps:Y)(pE:Z aA):J aA:=gd (([]:Z aA).length+(pE).length≤68719476736) (some (aA.mk 2 ps (([])++pE)))
theorem jZ(fu:Nat):alA (iJ fu):=by
 intro ps pE r H
 unfold xF
 refine qJ func47 H (fun C hC H=>?_)
 refine gQ 7 ?_;refine q1 (sM ([]:Z aA)) (q1 bI (cB H fun z1 H=>(q1 (lO z1) ?_)))
 refine gQ 3 ?_;refine dR.ret ?_
 obtain rfl:_=r:=(tO H:)
 exact SX (st':=⟨[],[⟨30,3,aA.trs (([])++pE),false⟩]⟩) ⟨0,rfl,rfl,rfl⟩ (hr:=⟨⟨_,_,_,rfl,rfl,NT.h,rfl,rfl⟩,trivial⟩)
abbrev MZ:=aB→Option aA
def XY(m:MZ):Prop:= ∀(p1:aB) (r:aA),m p1=some r→bU prog 219 [(aB.pv p1)] ((aA.pv r):PV)
def auF(fu:Nat)(pG:MZ)(p1:aB):Nat→((Z aA))→J (LR ((Z aA)) aA):=fun i11 v13=>bd (pG (aR p1.aFv i11)) fun x17=>gd ((v13).length+(([x17]:Z aA)).length≤68719476736) (some (.next (v13++([x17]:Z aA))))
def ahP(fu:Nat)(pG:MZ)(p1:aB):J aA:=sw (!decide (p1.aFy=s_)) (gd (0<(p1.aFy).size) (sw (decide ((((HX p1.aFy 0).toNat:Int):Int)=39)) (gd ((0:Int)≤1∧(1:Int)≤(p1.aFy.size:Int)∧(p1.aFy.size:Int)≤(p1.aFy.size:Int)) (bd (qO fu (p1.aFy.extract (1:Int).toNat (p1.aFy.size:Int).toNat)) fun x6=>some x6)) (bd (iJ fu p1.aFy ([])) fun x8=>some x8))) (sw (decide ((p1.aFv.length:Int)<2)) (some (aA.mk 0 s_ [])) (gd (0<(p1.aFv).length) (so (loopN (auF fu pG p1) (p1.aFv.length-1) 1 ([])) fun v13=>sw (decide ((aR p1.aFv 0).aFy=kK)) (sw (decide ((v13.length:Int)=2)) (gd (1<(p1.aFv).length) (sw (!decide ((aR p1.aFv 1).aFy=s_)) (gd ((0:Int)≤1∧(1:Int)≤(v13.length:Int)∧(v13.length:Int)≤(v13.length:Int)) (some (aA.mk 3 ((aR p1.aFv 1).aFy) (List.drop (1:Int).toNat (List.take (v13.length:Int).toNat v13))))) (sw (decide ((aR p1.aFv 0).aFy=BP)) (some (aA.mk 2 ((aR p1.aFv 0).aFy) v13)) (some (aA.mk 2 ((aR p1.aFv 0).aFy) v13))))) (sw (decide ((aR p1.aFv 0).aFy=BP)) (sw (decide ((v13.length:Int)=1)) (gd (1<(p1.aFv).length) (sw (!decide ((aR p1.aFv 1).aFy=s_)) (some (aA.mk 4 ((aR p1.aFv 1).aFy) [])) (some (aA.mk 2 ((aR p1.aFv 0).aFy) v13)))) (some (aA.mk 2 ((aR p1.aFv 0).aFy) v13))) (some (aA.mk 2 ((aR p1.aFv 0).aFy) v13)))) (sw (decide ((aR p1.aFv 0).aFy=BP)) (sw (decide ((v13.length:Int)=1)) (gd (1<(p1.aFv).length) (sw (!decide ((aR p1.aFv 1).aFy=s_)) (some (aA.mk 4 ((aR p1.aFv 1).aFy) [])) (some (aA.mk 2 ((aR p1.aFv 0).aFy) v13)))) (some (aA.mk 2 ((aR p1.aFv 0).aFy) v13))) (some (aA.mk 2 ((aR p1.aFv 0).aFy) v13))))))
theorem aoT(fu:Nat)(pG:MZ)(pQ:XY pG):XY (ahP fu pG):=by
 intro p1 r H
 refine qJ func219 H (fun C hC H=>?_)
 refine gQ 2 ?_;refine q1 (fQ ([pS p1.aFy,bM p1.aFv])) ?_;refine gQ 9 ?_;refine bG H (fun h1 H=>?_) (fun h1 H=>?_)
 ·refine gQ 5 ?_;refine cB H fun z2 H=>(q1 (hZ (k:=0) rfl rfl rfl rfl z2 underlying9) ?_)
  refine gQ 2 ?_;refine bG H (fun h3 H=>?_) (fun h3 H=>?_)
  ·refine gQ 4 ?_;refine cB H fun z4 H=>(q1 (CV (l:=1) (k:=(p1.aFy.size:Int)) rfl rfl rfl rfl rfl z4 underlying9) (bN H fun x6 z5 H=>(q1 (bJ func137 (m6 (mC fu) (p1.aFy.extract (1:Int).toNat (p1.aFy.size:Int).toNat) _ z5)) ?_)))
   exact gE 2
  refine gQ 5 ?_;refine bN H fun x8 z7 H=>(q1 (bJ func47 (wE (jZ fu) p1.aFy ([]) _ z7)) ?_)
  exact gE 2
 refine gQ 9 ?_;refine bG H (fun h9 H=>?_) (fun h9 H=>?_)
 ·have h9n:p1.aFv.length<2:=by have:=of_decide_eq_true h9;omega
  exact gE 5
 refine gQ 5 ?_;refine cB H fun z10 H=>?_;refine gQ 7 ?_;refine q1 (sM ([]:Z aA)) ?_;refine gQ 7 ?_;refine gV 21 (aB.tl _) (fun hl14=>?_)
 refine bV (σ:=(Z aA)) (fun i11 v13=>⟨[(1,.ptr 0 0),(2,.ptr 1 0),(3,pS ((aR p1.aFv 0).aFy)),(4,jO v13 0),(5,pN i11)],⟨[some ⟨189,[pS p1.aFy,bM p1.aFv]⟩,some ⟨30,[pI 0,pS s_,.nil]⟩],[⟨30,3,aA.trs (v13),false⟩]⟩⟩) (fun v13=>⟨[(1,.ptr 0 0),(2,.ptr 1 0),(3,pS ((aR p1.aFv 0).aFy)),(4,jO v13 0)],⟨[some ⟨189,[pS p1.aFy,bM p1.aFv]⟩,some ⟨30,[pI 0,pS s_,.nil]⟩],[⟨30,3,aA.trs (v13),false⟩]⟩⟩) (fA H) ?_ ?_
 ·rintro i11 v13 H
  refine gQ 9 ?_;refine cZ H (fun h15 h15l H=>?_) (fun h15 H=>?_)
  ·refine gQ 9 ?_;refine q1 (gZ (aB.cs (aR p1.aFv i11))) (bN H fun x17 z16 H=>(q1 (bJ func219 (pQ (aR p1.aFv i11) _ z16)) (q1 (iL ([x17]:Z aA)) (cB H fun z18 H=>(q1 (lO z18) ?_)))))
   exact gE 7
  exact gE 0
 rintro v13 H
 refine gQ 7 ?_;refine dY 50 H (fun g19 H=>?_) fun g19 H=>?_
 ·refine gQ 5 ?_;refine dY 55 H (fun g20 H=>?_) fun g20 H=>?_
  ·refine gQ 2 ?_;refine cB H fun z21 H=>?_;refine gQ 7 ?_;refine bG H (fun h22 H=>?_) (fun h22 H=>?_)
   ·refine qS (cB H fun z23 H=>(dW (dI [1] bW (dD [63] eG (dI [64] mU (dI [65] xE (dI [66] wH (dI [4] bI ?_))))))))
    refine dI [68] (jP (jQ (es:=aA.trs (v13)) (l:=1) (k:=(v13.length:Int)) rfl rfl rfl rfl rfl (by rw [aA.tl];exact rfl) (by rw [aA.tl];exact z23) atC.h) (aA.tq _ _ _)) ?_;refine dI [67,69] rQ (iW [2,70] hY (dN ?_))
    exact gE 0
   refine gQ 5 ?_;refine dY 74 H (fun g24 H=>?_) fun g24 H=>?_
   ·refine gQ 5 ?_
    iterate 6 refine qk (dne (b:=1) g20 (by decide)) ?_
    refine q1 (D3 (dne (b:=1) g20 (by decide))) ?_;exact gE 11
   exact gE 23
  refine gQ 15 ?_;refine dY 74 H (fun g25 H=>?_) fun g25 H=>?_
  ·refine gQ 5 ?_;refine dY 79 H (fun g26 H=>?_) fun g26 H=>?_
   ·refine gQ 2 ?_;refine cB H fun z27 H=>?_;refine gQ 7 ?_;refine bG H (fun h28 H=>gE 10) fun h28 H=>?_;exact gE 8
   exact gE 18
  exact gE 23
 refine gQ 20 ?_;refine dY 74 H (fun g29 H=>?_) fun g29 H=>?_
 ·refine gQ 5 ?_;refine dY 79 H (fun g30 H=>?_) fun g30 H=>?_
  ·refine gQ 2 ?_;refine cB H fun z31 H=>?_;refine gQ 7 ?_;refine bG H (fun h32 H=>gE 10) fun h32 H=>?_;exact gE 8
  exact gE 18
 exact gE 23
def oV:Nat→aB→J aA
 |0,_=>none
 |fu+1,p1=>ahP fu (oV fu) p1
theorem ar5(fu:Nat):XY (oV fu):=by
 induction fu with
 |zero=>exact(fun p1 r H=>by simp only [oV] at H;cases H)
 |succ fu ih=>exact(fun p1 r H=>by simp only [oV] at H;exact aoT fu (oV fu) ih p1 r H)
theorem AQ(fu:Nat):XY (oV fu):=(ar5 fu)
abbrev E6:=aA→Option aB
def XX(m:E6):Prop:= ∀(p1:aA) (r:aB),m p1=some r→bU prog 242 [(aA.pv p1)] ((aB.pv r):PV)
def auB(fu:Nat)(p9:E6)(p1:aA):J (aB⊕Unit):=sw (decide (p1.aFw=1)) (gd ((asB).size+(p1.aFs).size≤1099511627776) (bd (cN fu (asB++p1.aFs)) fun x4=>some (.inl x4))) (sw (decide (p1.aFw=4)) (bd (cN fu BP) fun x7=>bd (cN fu p1.aFs) fun x9=>bd (nU fu ([x7,x9]:Z aB)) fun x11=>some (.inl x11)) (sw (decide (p1.aFw=2)) (sw (decide ((p1.aFt.length:Int)=0)) (bd (cN fu p1.aFs) fun x15=>some (.inl x15)) (some (.inr ()))) (some (.inr ()))))
def auC(fu:Nat)(p9:E6)(p1:aA):J (aB⊕((Z aB))):=sw (decide (p1.aFw=3)) (bd (cN fu kK) fun x20=>gd (([]:Z aB).length+(([x20]:Z aB)).length≤68719476736) (some (.inr (([])++([x20]:Z aB))))) (some (.inr ([])))
def auD(fu:Nat)(p9:E6)(p1:aA)(v17:Z aB)(x23:aB):Nat→((Z aB))→J (LR ((Z aB)) aB):=fun i25 v27=>bd (p9 (aR p1.aFt i25)) fun x31=>gd ((v27).length+(([x31]:Z aB)).length≤68719476736) (some (.next (v27++([x31]:Z aB))))
def ahO(fu:Nat)(p9:E6)(p1:aA):J aB:=so (auB fu p9 p1) fun _=>so (auC fu p9 p1) fun v17=>bd (cN fu p1.aFs) fun x23=>gd ((v17).length+(([x23]:Z aB)).length≤68719476736) (so (loopN (auD fu p9 p1 v17 x23) (p1.aFt.length-0) 0 (v17++([x23]:Z aB))) fun v27=>some (aB.mk s_ v27))
theorem aoS(fu:Nat)(p9:E6)(pR:XX p9):XX (ahO fu p9):=by
 intro p1 r H
 refine qJ func242 H (fun C hC H=>?_)
 refine gQ 2 ?_;refine q1 (fQ (cF p1)) ?_;refine gQ 3 ?_;refine qY (σ:=Unit) (fun _=>⟨[(1,.ptr 0 0),(2,.ptr 1 0)],⟨[some ⟨30,cF p1⟩,some ⟨189,[pS s_,.nil]⟩],[]⟩⟩) (fA H) (fun H=>?_) ?_
 ·refine gQ 8 ?_;refine bG H (fun h1 H=>?_) (fun h1 H=>?_)
  ·refine gQ 4 ?_;refine cB H fun z2 H=>(q1 (dF rfl rfl rfl rfl (Nat.le_trans z2 (by decide))) (bN H fun x4 z3 H=>(q1 (bJ func239 (cD fu (asB++p1.aFs) _ z3)) ?_)))
   exact gE 2
  refine gQ 7 ?_;refine bG H (fun h5 H=>?_) (fun h5 H=>?_)
  ·refine qS (bN H fun x7 z6 H=>(bN H fun x9 z8 H=>(bN H fun x11 z10 H=>(dW (dI [] (bJ func239 (cD fu BP _ z6)) (dI [1] bW (dD [18] eG (dI [19] (bJ func239 (cD fu p1.aFs _ z8)) (dI [17,20] (iL ([x7,x9]:Z aB)) (dI [21] (bJ func238 (I6 (o9 fu) ([x7,x9]:Z aB) _ z10)) (iW [2,22] hY (dN ?_))))))))))))
   exact gE 0
  refine gQ 6 ?_;refine dY 27 H (fun g12 H=>?_) fun g12 H=>?_
  ·refine gQ 7 ?_;refine bG H (fun h13 H=>?_) (fun h13 H=>?_)
   ·refine gQ 4 ?_;refine bN H fun x15 z14 H=>(q1 (bJ func239 (cD fu p1.aFs _ z14)) ?_)
    exact gE 2
   exact gE 1
  exact gE 9
 rintro⟨⟩ H
 refine gQ 7 ?_;refine kC (eY (k:=2) (j:=1) 189 2 (by decide) rfl rfl) ?_;refine qY (σ:=(Z aB)) (fun v17=>⟨[(1,.ptr 0 0),(2,.ptr 1 0),(3,.ptr 2 0)],⟨[some ⟨30,cF p1⟩,some ⟨189,[pS s_,.nil]⟩,some ⟨189,[pS s_,eW v17 0]⟩],[⟨189,2,aB.trs (v17),false⟩]⟩⟩) (fA H) (fun H=>?_) ?_
 ·refine gQ 6 ?_;refine bG H (fun h18 H=>?_) (fun h18 H=>?_)
  ·refine bN H fun x20 z19 H=>(cB H fun z21 H=>(dW (dI [3] bW (dD [40] eG (dI [] (bJ func239 (cD fu kK _ z19)) (dI [42] (iL ([x20]:Z aB)) (dE [41,43] (lO z21) (dI [3] bW (iW [45,44] hY (dN ?_))))))))))
   exact gE 0
  exact gE 1
 rintro v17 H
 refine qS (bN H fun x23 z22 H=>(cB H fun z24 H=>(dW (dI [3] bW (dD [46] eG (dI [1] bW (dD [48] eG (dI [49] (bJ func239 (cD fu p1.aFs _ z22)) (dI [50] (iL ([x23]:Z aB)) (dE [47,51] (lO z24) (dI [3] bW (iW [53,52] hY (dN ?_)))))))))))))
 refine gQ 5 ?_;refine dR.fact (cP 0 2 rfl rfl rfl (aA.tl _)) (fun hl28=>?_)
 refine bV (σ:=(Z aB)) (fun i25 v27=>⟨[(1,.ptr 0 0),(2,.ptr 1 0),(3,.ptr 2 0),(4,pN i25)],⟨[some ⟨30,cF p1⟩,some ⟨189,[pS s_,.nil]⟩,some ⟨189,[pS s_,eW v27 0]⟩],[⟨189,2,aB.trs (v27),false⟩]⟩⟩) (fun v27=>⟨[(2,.ptr 1 0),(3,.ptr 2 0)],⟨[some ⟨30,cF p1⟩,some ⟨189,[pS s_,.nil]⟩,some ⟨189,[pS s_,eW v27 0]⟩],[⟨189,2,aB.trs (v27),false⟩]⟩⟩) (fA H) ?_ ?_
 ·rintro i25 v27 H
  refine gQ 9 ?_;refine cZ H (fun h29 h29l H=>?_) (fun h29 H=>?_)
  ·refine gQ 3 ?_;refine bN H fun x31 z30 H=>(cB H fun z32 H=>(dW (dI [3] bW (dD [61] eG (dI [1] bW (dD [63] eG (dI [4] bI (dI [64,65] mU (dI [66] (gZ (aA.cs (aR p1.aFt i25))) (dI [67] (bJ func242 (pR (aR p1.aFt i25) _ z30)) (dI [68] (iL ([x31]:Z aB)) (dE [62,69] (lO z32) (dI [3] bW ?_)))))))))))))
   refine iW [71,70] hY (dN ?_)
   exact gE 5
  exact gE 0
 rintro v27 H
 refine gQ 2 ?_;refine q1 (b4 [pS s_,eW v27 0]) ?_;exact gE 2
def oU:Nat→aA→J aB
 |0,_=>none
 |fu+1,p1=>ahO fu (oU fu) p1
theorem ar4(fu:Nat):XX (oU fu):=by
 induction fu with
 |zero=>exact(fun p1 r H=>by simp only [oU] at H;cases H)
 |succ fu ih=>exact(fun p1 r H=>by simp only [oU] at H;exact aoS fu (oU fu) ih p1 r H)
theorem AP(fu:Nat):XX (oU fu):=(ar4 fu)
abbrev CQ:=aA→Int→Option Int
def MU(m:CQ):Prop:= ∀(pt:aA) (pD:Int) (r:Int),m pt pD=some r→bU prog 264 [(aA.pv pt),pI pD] (pI r:PV)
def aoJ(fu:Nat)(pA:CQ)(pt:aA)(pD:Int):Nat→Int→J (LR Int Int):=fun i1 v2=>sw (decide (v2≥0)) (bd (pA (aR pt.aFt i1) v2) fun x7=>some (.next x7)) (some (.brk v2))
def U7(fu:Nat)(pA:CQ)(pt:aA)(pD:Int):J Int:=so (loopN (aoJ fu pA pt pD) (pt.aFt.length-0) 0 (bB (pD-1))) fun v2=>some v2
theorem ahL(fu:Nat)(pA:CQ)(pM:MU pA):MU (U7 fu pA):=by
 intro pt pD r H
 refine qJ func264 H (fun C hC H=>?_)
 refine gQ 2 ?_;refine q1 (fQ (cF pt)) ?_;refine gQ 13 ?_;refine dR.fact (cP 0 2 rfl rfl rfl (aA.tl _)) (fun hl3=>?_)
 refine bV (σ:=Int) (fun i1 v2=>⟨[(1,pI v2),(2,.ptr 0 0),(4,pI 0),(5,pN i1)],⟨[some ⟨30,cF pt⟩],[]⟩⟩) (fun v2=>⟨[(1,pI v2),(4,pI 0)],⟨[some ⟨30,cF pt⟩],[]⟩⟩) (fA H) ?_ ?_
 ·rintro i1 v2 H
  refine gQ 9 ?_;refine xO 13 rfl (fun g4=>?_) (fun g4=>?_)
  ·have g4l:=yJ g4
   have H:=lnT g4l H
   have g4n:=yI g4
   refine gQ 4 ?_;refine bG H (fun h5 H=>?_) (fun h5 H=>?_)
   ·refine gQ 8 ?_;refine q1 (gZ (aA.cs (aR pt.aFt i1))) (q1 bI (bN H fun x7 z6 H=>(q1 (bJ func264 (pM (aR pt.aFt i1) v2 _ z6)) ?_)))
    exact gE 7
   exact gE 0
  have H:=lnE (yH g4) H
  exact gE 5
 rintro v2 H
 exact gE 5
def sK:Nat→aA→Int→J Int
 |0,_,_=>none
 |fu+1,pt,pD=>U7 fu (sK fu) pt pD
theorem alD(fu:Nat):MU (sK fu):=by
 induction fu with
 |zero=>exact(fun pt pD r H=>by simp only [sK] at H;cases H)
 |succ fu ih=>exact(fun pt pD r H=>by simp only [sK] at H;exact ahL fu (sK fu) ih pt pD r H)
theorem aoL(fu:Nat):MU (sK fu):=(alD fu)
abbrev t1:=aA→Option Int
def B7(m:t1):Prop:= ∀(pt:aA) (r:Int),m pt=some r→bU prog 265 [(aA.pv pt)] (pI r:PV)
def acW(fu:Nat)(p7:t1)(pt:aA):Nat→Int→J (LR Int Int):=fun i1 v2=>bd (p7 (aR pt.aFt i1)) fun x6=>bd (SI fu v2 (bB (1+x6))) fun x8=>some (.next x8)
def IP(fu:Nat)(p7:t1)(pt:aA):J Int:=so (loopN (acW fu p7 pt) (pt.aFt.length-0) 0 0) fun v2=>some v2
theorem XD(fu:Nat)(p7:t1)(pL:B7 p7):B7 (IP fu p7):=by
 intro pt r H
 refine qJ func265 H (fun C hC H=>?_)
 refine gQ 2 ?_;refine q1 (fQ (cF pt)) ?_;refine gQ 11 ?_;refine dR.fact (cP 0 2 rfl rfl rfl (aA.tl _)) (fun hl3=>?_)
 refine bV (σ:=Int) (fun i1 v2=>⟨[(1,.ptr 0 0),(2,pI 0),(3,pI v2),(4,pN i1)],⟨[some ⟨30,cF pt⟩],[]⟩⟩) (fun v2=>⟨[(2,pI 0),(3,pI v2)],⟨[some ⟨30,cF pt⟩],[]⟩⟩) (fA H) ?_ ?_
 ·rintro i1 v2 H
  refine gQ 9 ?_;refine cZ H (fun h4 h4l H=>?_) (fun h4 H=>?_)
  ·refine gQ 9 ?_;refine q1 (gZ (aA.cs (aR pt.aFt i1))) (bN H fun x6 z5 H=>(q1 (bJ func265 (pL (aR pt.aFt i1) _ z5)) (q1 rAw (bN H fun x8 z7 H=>(q1 (bJ func215 (aeN fu v2 (bB (1+x6)) _ z7)) ?_)))))
   exact gE 7
  exact gE 0
 rintro v2 H
 exact gE 5
def lT:Nat→aA→J Int
 |0,_=>none
 |fu+1,pt=>IP fu (lT fu) pt
theorem aaT(fu:Nat):B7 (lT fu):=by
 induction fu with
 |zero=>exact(fun pt r H=>by simp only [lT] at H;cases H)
 |succ fu ih=>exact(fun pt r H=>by simp only [lT] at H;exact XD fu (lT fu) ih pt r H)
theorem acY(fu:Nat):B7 (lT fu):=(aaT fu)
def CP(fu:Nat)(ps:Y):J Bool:=sw (decide (ps=fE)) (some true) (some (decide (ps=eU)))
theorem P6(fu:Nat)(ps:Y)(r:Bool)(H:CP fu ps=some r):bU prog 108 [pS ps] (pB r):=by
 refine qJ func108 H (fun C hC H=>?_)
 refine gQ 9 ?_;refine dY 5 H (fun g1 H=>gE 5) fun g1 H=>?_;exact gE 5
abbrev wF:=aA→Option Bool
def MT(m:wF):Prop:= ∀(p1:aA) (r:Bool),m p1=some r→bU prog 266 [(aA.pv p1)] (pB r:PV)
def abH(fu:Nat)(p6:wF)(p1:aA)(x2:Bool):J ((Bool⊕Bool)⊕Bool):=sw (decide (p1.aFw=1)) (some (.inr (decide (p1.aFw=1)))) (some (.inr (decide (p1.aFw=4))))
def abG(fu:Nat)(p6:wF)(p1:aA)(x2:Bool):J (Bool⊕Bool):=so (abH fu p6 p1 x2) fun v4=>sw (v4) (sw x2 (some (.inr (decide ((p1.aFt.length:Int)=0)))) (some (.inr false))) (sw (decide (p1.aFw=3)) (sw x2 (some (.inr (decide ((p1.aFt.length:Int)=1)))) (some (.inr false))) (sw (decide (p1.aFw=2)) (sw x2 (sw (decide ((p1.aFt.length:Int)≤3)) (some (.inr true)) (bd (CP fu p1.aFs) fun x14=>sw x14 (some (.inr (decide ((p1.aFt.length:Int)=0)))) (some (.inr false)))) (bd (CP fu p1.aFs) fun x17=>sw x17 (some (.inr (decide ((p1.aFt.length:Int)=0)))) (some (.inr false)))) (some (.inl false))))
def abI(fu:Nat)(p6:wF)(p1:aA)(x2 v3:Bool):Nat→Bool→J (LR Bool Bool):=fun i19 v20=>sw (v20) (bd (p6 (aR p1.aFt i19)) fun x25=>some (.next x25)) (some (.next false))
def MS(fu:Nat)(p6:wF)(p1:aA):J Bool:=bd (dX fu p1.aFs) fun x2=>so (abG fu p6 p1 x2) fun v3=>so (loopN (abI fu p6 p1 x2 v3) (p1.aFt.length-0) 0 v3) fun v20=>some v20
theorem ahK(fu:Nat)(p6:wF)(pO:MT p6):MT (MS fu p6):=by
 intro p1 r H
 refine qJ func266 H (fun C hC H=>?_)
 refine gQ 2 ?_;refine q1 (fQ (cF p1)) ?_;refine gQ 6 ?_;refine bN H fun x2 z1 H=>(q1 (bJ func205 (eT fu p1.aFs _ z1)) ?_)
 refine gQ 3 ?_;refine qY (σ:=Bool) (fun v3=>⟨[(1,.ptr 0 0),(2,pB false),(3,pB v3)],⟨[some ⟨30,cF p1⟩],[]⟩⟩) (fA H) (fun H=>?_) ?_
 ·refine gQ 7 ?_;refine qY (σ:=Bool) (fun v4=>⟨[(1,.ptr 0 0),(2,pB false),(3,pB x2),(9,pI p1.aFw),(10,pB v4)],⟨[some ⟨30,cF p1⟩],[]⟩⟩) (fA H) (fun H=>?_) ?_
  ·refine gQ 5 ?_;refine bG H (fun h5 H=>gE 1) fun h5 H=>?_;exact gE 4
  rintro v4 H
  refine bG H (fun h6 H=>?_) (fun h6 H=>?_)
  ·refine gQ 3 ?_;refine dY 14 H (fun g7 H=>gE 7) fun g7 H=>?_;exact gE 7
  refine gQ 5 ?_;refine bG H (fun h8 H=>?_) (fun h8 H=>?_)
  ·refine gQ 3 ?_;refine dY 23 H (fun g9 H=>gE 7) fun g9 H=>?_;exact gE 7
  refine gQ 5 ?_;refine bG H (fun h10 H=>?_) (fun h10 H=>?_)
  ·refine gQ 3 ?_;refine dY 32 H (fun g11 H=>?_) fun g11 H=>?_
   ·refine gQ 6 ?_;refine dY 38 H (fun g12 H=>gE 12) fun g12 H=>?_;refine gQ 2 ?_;refine bN H fun x14 z13 H=>(qg g12 (bJ func108 (P6 fu p1.aFs _ z13)) (qg g12 bI ?_))
    refine dY 42 H (fun g15 H=>gE 8) fun g15 H=>?_;exact gE 8
   refine gQ 8 ?_;refine bN H fun x17 z16 H=>(qg rfl (bJ func108 (P6 fu p1.aFs _ z16)) (qg rfl bI ?_))
   refine dY 42 H (fun g18 H=>gE 8) fun g18 H=>?_;exact gE 8
  exact gE 4
 rintro v3 H
 refine gQ 5 ?_;refine dR.fact (cP 0 2 rfl rfl rfl (aA.tl _)) (fun hl21=>?_)
 refine bV (σ:=Bool) (fun i19 v20=>⟨[(1,.ptr 0 0),(2,pB false),(3,pB v20),(4,pN i19)],⟨[some ⟨30,cF p1⟩],[]⟩⟩) (fun v20=>⟨[(2,pB false),(3,pB v20)],⟨[some ⟨30,cF p1⟩],[]⟩⟩) (fA H) ?_ ?_
 ·rintro i19 v20 H
  refine gQ 9 ?_;refine cZ H (fun h22 h22l H=>?_) (fun h22 H=>?_)
  ·refine gQ 6 ?_;refine dY 57 H (fun g23 H=>?_) fun g23 H=>?_
   ·refine gQ 4 ?_;refine qg g23 (gZ (aA.cs (aR p1.aFt i19))) (bN H fun x25 z24 H=>(qg g23 (bJ func266 (pO (aR p1.aFt i19) _ z24)) ?_))
    exact gE 8
   exact gE 14
  exact gE 0
 rintro v20 H
 exact gE 5
def m5:Nat→aA→J Bool
 |0,_=>none
 |fu+1,p1=>MS fu (m5 fu) p1
theorem alC(fu:Nat):MT (m5 fu):=by
 induction fu with
 |zero=>exact(fun p1 r H=>by simp only [m5] at H;cases H)
 |succ fu ih=>exact(fun p1 r H=>by simp only [m5] at H;exact ahK fu (m5 fu) ih p1 r H)
theorem aoI(fu:Nat):MT (m5 fu):=(alC fu)
def jK(fu:Nat)(pt:aA):J Bool:=bd (sK fu pt 60) fun x2=>sw (decide (x2≥0)) (bd (lT fu pt) fun x5=>sw (decide (x5≤6)) (bd (m5 fu pt) fun x8=>some x8) (some false)) (some false)
theorem nS(fu:Nat)(pt:aA)(r:Bool)(H:jK fu pt=some r):bU prog 258 [(aA.pv pt)] (pB r):=by
 refine qJ func258 H (fun C hC H=>?_)
 refine gQ 2 ?_;refine q1 (fQ (cF pt)) ?_;refine gQ 4 ?_;refine q1 (b4 [pI pt.aFw,pS pt.aFs,aV pt.aFt]) (bN H fun x2 z1 H=>(q1 (bJ func264 (aoL fu pt 60 _ z1)) ?_))
 refine gQ 2 ?_;refine dY 6 H (fun g3 H=>?_) fun g3 H=>?_
 ·refine qg g3 (b4 [pI pt.aFw,pS pt.aFs,aV pt.aFt]) (bN H fun x5 z4 H=>(qg g3 (bJ func265 (acY fu pt _ z4)) ?_))
  refine gQ 3 ?_;refine dY 11 H (fun g6 H=>?_) fun g6 H=>?_
  ·refine qg g6 (b4 [pI pt.aFw,pS pt.aFs,aV pt.aFt]) (bN H fun x8 z7 H=>(qg g6 (bJ func266 (aoI fu pt _ z7)) ?_))
   exact gE 3
  exact gE 5
 exact gE 10
abbrev lS:=aA→aA→Option Bool
abbrev sL:=(List aA)→(List aA)→Option Bool
def w8(m:lS):Prop:= ∀(pa:aA) (pb:aA) (r:Bool),m pa pb=some r→bU prog 38 [(aA.pv pa),(aA.pv pb)] (pB r:PV)
def MV(m:sL):Prop:= ∀(pa:Z aA) (pb:Z aA) (r:Bool),m pa pb=some r→bU prog 92 [aV pa,aV pb] (pB r:PV)
def B6(fu:Nat)(p2:lS)(p5:sL)(pa pb:aA):J Bool:=sw (decide (pa.aFw=pb.aFw)) (sw (decide (pa.aFs=pb.aFs)) (bd (p5 pa.aFt pb.aFt) fun x4=>some x4) (some false)) (some false)
theorem W5(fu:Nat)(p2:lS)(p5:sL)(pH:w8 p2)(pK:MV p5):w8 (B6 fu p2 p5):=by
 intro pa pb r H
 refine qJ func38 H (fun C hC H=>?_)
 refine gQ 2 ?_;refine q1 (fQ (cF pa)) (q1 (fQ (cF pb)) ?_)
 refine gQ 10 ?_;refine dY 10 H (fun g1 H=>?_) fun g1 H=>?_
 ·refine gQ 7 ?_;refine dY 17 H (fun g2 H=>?_) fun g2 H=>?_
  ·refine gQ 4 ?_;refine bN H fun x4 z3 H=>(qg g2 (bJ func92 (pK pa.aFt pb.aFt _ z3)) ?_)
   exact gE 3
  exact gE 8
 exact gE 15
def P7(fu:Nat)(p2:lS)(p5:sL)(pa pb:Z aA):Nat→Unit→J (LR Unit Bool):=fun i2 _=>gd (i2<(pb).length) (bd (p2 (aR pa i2) (aR pb i2)) fun x7=>sw (!(x7)) (some (.ret false)) (some (.next ())))
def P8(fu:Nat)(p2:lS)(p5:sL)(pa pb:Z aA):J (Bool⊕Unit):=loopN (P7 fu p2 p5 pa pb) (pa.length-0) 0 ()
def HF(fu:Nat)(p2:lS)(p5:sL)(pa pb:Z aA):J Bool:=sw (!decide ((pa.length:Int)=(pb.length:Int))) (some false) (so (P8 fu p2 p5 pa pb) fun _=>some true)
theorem ahM(fu:Nat)(p2:lS)(p5:sL)(pH:w8 p2)(pK:MV p5):MV (HF fu p2 p5):=by
 intro pa pb r H
 refine qJ func92 H (fun C hC H=>?_)
 refine gQ 13 ?_;refine bG H (fun h1 H=>gE 4) fun h1 H=>?_;refine gQ 6 ?_;refine gV 0 (aA.tl _) (fun hl3=>?_)
 refine bV (σ:=Unit) (fun i2 _=>⟨[(0,aV pa),(1,aV pb),(4,pB false),(5,pN i2)],⟨[],[]⟩⟩) (fun _=>⟨[(4,pB false)],⟨[],[]⟩⟩) (fA H) ?_ ?_
 ·rintro i2 ⟨⟩ H
  refine gQ 8 ?_;refine cZ H (fun h4 h4l H=>?_) (fun h4 H=>?_)
  ·refine gQ 4 ?_;refine cB H fun z5 H=>(bN H fun x7 z6 H=>(dW (dI [0] bI (dI [5] bI (dI [17,18] mU (dI [19] (gZ (aA.cs (aR pa i2))) (dI [1] bI (dI [5] bI (dI [21,22] mU (dI [23] (gZ (aA.cs (aR pb i2))) (dI [20,24] (bJ func38 (pH (aR pa i2) (aR pb i2) _ z6)) (dI [25] JP (dN ?_)))))))))))))
   refine bG H (fun h8 H=>gE 4) fun h8 H=>?_;exact gE 6
  exact gE 0
 rintro⟨⟩ H
 exact gE 4
mutual
def gC:Nat→aA→aA→J Bool
 |0,_,_=>none
 |fu+1,pa,pb=>B6 fu (gC fu) (mB fu) pa pb
def mB:Nat→(Z aA)→(Z aA)→J Bool
 |0,_,_=>none
 |fu+1,pa,pb=>HF fu (gC fu) (mB fu) pa pb
end
theorem aaH(fu:Nat):w8 (gC fu)∧MV (mB fu):=by
 induction fu with
 |zero=>exact⟨(fun pa pb r H=>by simp only [gC] at H;cases H),(fun pa pb r H=>by simp only [mB] at H;cases H)⟩
 |succ fu ih=>exact⟨(fun pa pb r H=>by simp only [gC] at H;exact W5 fu (gC fu) (mB fu) ih.1 ih.2 pa pb r H),(fun pa pb r H=>by simp only [mB] at H;exact ahM fu (gC fu) (mB fu) ih.1 ih.2 pa pb r H)⟩
theorem N1(fu:Nat):w8 (gC fu):=(aaH fu).1
abbrev y2:=aA→(LB)→Option ((LB))
def MY(m:y2):Prop:= ∀(pt:aA) (pC:LB) (r:(LB)),m pt pC=some r→cM prog 136 [(aA.pv pt),aS pC 0] ⟨[],[⟨9,1,bA (pC),false⟩]⟩ (fun q t=>q=(aS r 0:PV)∧t=⟨[],[⟨9,1,bA (r),false⟩]⟩)
def P9(fu:Nat)(p8:y2)(pt:aA)(pC:LB):J (((LB))⊕((LB))):=sw (decide (pt.aFw=1)) (bd (mL fu pC pt.aFs) fun x5=>sw (!(x5)) (gd ((pC).length+(([pt.aFs]:LB)).length≤68719476736) (some (.inr (pC++([pt.aFs]:LB))))) (some (.inr pC))) (some (.inr pC))
def abL(fu:Nat)(p8:y2)(pt:aA)(pC v2:LB):Nat→((LB))→J (LR ((LB)) ((LB))):=fun i8 v10=>bd (p8 (aR pt.aFt i8) v10) fun x14=>some (.next x14)
def MX(fu:Nat)(p8:y2)(pt:aA)(pC:LB):J ((LB)):=so (P9 fu p8 pt pC) fun v2=>so (loopN (abL fu p8 pt pC v2) (pt.aFt.length-0) 0 v2) fun v10=>some v10
theorem ahN(fu:Nat)(p8:y2)(pP:MY p8):MY (MX fu p8):=by
 intro pt pC r H
 refine qJ func136 H (fun C hC H=>?_)
 refine gQ 2 ?_;refine q1 (fQ (cF pt)) ?_;refine gQ 3 ?_;refine qY (σ:=(LB)) (fun v2=>⟨[(1,aS v2 0),(2,.ptr 0 0),(4,.nil)],⟨[some ⟨30,cF pt⟩],[⟨9,1,bA (v2),false⟩]⟩⟩) (fA H) (fun H=>?_) ?_
 ·refine gQ 6 ?_;refine dY 9 H (fun g3 H=>?_) fun g3 H=>?_
  ·refine gQ 3 ?_;refine bN H fun x5 z4 H=>(qg g3 (bJ func153 (nT fu pC pt.aFs _ z4)) ?_)
   refine gQ 3 ?_;refine bG H (fun h6 H=>?_) (fun h6 H=>?_)
   ·refine gQ 4 ?_;refine q1 (iL ([pt.aFs]:LB)) (cB H fun z7 H=>(q1 (lO z7) ?_))
    exact gE 2
   exact gE 1
  exact gE 9
 rintro v2 H
 refine gQ 5 ?_;refine dR.fact (cP 0 2 rfl rfl rfl (aA.tl _)) (fun hl11=>?_)
 refine bV (σ:=(LB)) (fun i8 v10=>⟨[(1,aS v10 0),(2,.ptr 0 0),(4,.nil),(5,pN i8)],⟨[some ⟨30,cF pt⟩],[⟨9,1,bA (v10),false⟩]⟩⟩) (fun v10=>⟨[(1,aS v10 0),(4,.nil)],⟨[some ⟨30,cF pt⟩],[⟨9,1,bA (v10),false⟩]⟩⟩) (fA H) ?_ ?_
 ·rintro i8 v10 H
  refine gQ 9 ?_;refine cZ H (fun h12 h12l H=>?_) (fun h12 H=>?_)
  ·refine gQ 8 ?_;refine q1 (gZ (aA.cs (aR pt.aFt i8))) (q1 bI (bN H fun x14 z13 H=>(q1 (fO [] [0] func136 (pP (aR pt.aFt i8) v10 _ z13)) ?_)))
   exact gE 7
  exact gE 0
 rintro v10 H
 exact gE 5
def m7:Nat→aA→(LB)→J ((LB))
 |0,_,_=>none
 |fu+1,pt,pC=>MX fu (m7 fu) pt pC
theorem alF(fu:Nat):MY (m7 fu):=by
 induction fu with
 |zero=>exact(fun pt pC r H=>by simp only [m7] at H;cases H)
 |succ fu ih=>exact(fun pt pC r H=>by simp only [m7] at H;exact ahN fu (m7 fu) ih pt pC r H)
theorem aoR(fu:Nat):MY (m7 fu):=(alF fu)
def qL(fu:Nat)(pt:aA):J ((LB)):=bd (m7 fu pt ([])) fun x2=>some x2
theorem ER(fu:Nat)(pt:aA)(r:(LB))(H:qL fu pt=some r):bU prog 85 [(aA.pv pt)] (rS r):=by
 refine qJ func85 H (fun C hC H=>?_)
 refine gQ 2 ?_;refine q1 (fQ (cF pt)) ?_;refine gQ 4 ?_;refine q1 (b4 [pI pt.aFw,pS pt.aFs,aV pt.aFt]) (q1 (sM ([]:LB)) (bN H fun x2 z1 H=>(q1 (fO [] [0] func136 (aoR fu pt ([]) _ z1)) ?_)))
 exact gE 2
abbrev m3:=aA→Option Bool
def t0(m:m3):Prop:= ∀(pt:aA) (r:Bool),m pt=some r→bU prog 86 [(aA.pv pt)] (pB r:PV)
def EK(fu:Nat)(p4:m3)(pt:aA):Nat→Unit→J (LR Unit Bool):=fun i1 _=>bd (p4 (aR pt.aFt i1)) fun x5=>sw x5 (some (.ret true)) (some (.next ()))
def tZ(fu:Nat)(p4:m3)(pt:aA):J Bool:=so (loopN (EK fu p4 pt) (pt.aFt.length-0) 0 ()) fun _=>some (decide (pt.aFw=3))
theorem NF(fu:Nat)(p4:m3)(pJ:t0 p4):t0 (tZ fu p4):=by
 intro pt r H
 refine qJ func86 H (fun C hC H=>?_)
 refine gQ 2 ?_;refine q1 (fQ (cF pt)) ?_;refine gQ 7 ?_;refine dR.fact (cP 0 2 rfl rfl rfl (aA.tl _)) (fun hl2=>?_)
 refine bV (σ:=Unit) (fun i1 _=>⟨[(1,.ptr 0 0),(2,pB false),(3,pN i1)],⟨[some ⟨30,cF pt⟩],[]⟩⟩) (fun _=>⟨[(1,.ptr 0 0),(2,pB false)],⟨[some ⟨30,cF pt⟩],[]⟩⟩) (fA H) ?_ ?_
 ·rintro i1 ⟨⟩ H
  refine gQ 9 ?_;refine cZ H (fun h3 h3l H=>?_) (fun h3 H=>?_)
  ·refine gQ 9 ?_;refine q1 (gZ (aA.cs (aR pt.aFt i1))) (bN H fun x5 z4 H=>(q1 (bJ func86 (pJ (aR pt.aFt i1) _ z4)) (qN ?_)))
   refine bG H (fun h6 H=>gE 4) fun h6 H=>?_;exact gE 6
  exact gE 0
 rintro⟨⟩ H
 exact gE 7
def eI:Nat→aA→J Bool
 |0,_=>none
 |fu+1,pt=>tZ fu (eI fu) pt
theorem PJ(fu:Nat):t0 (eI fu):=by
 induction fu with
 |zero=>exact(fun pt r H=>by simp only [eI] at H;cases H)
 |succ fu ih=>exact(fun pt r H=>by simp only [eI] at H;exact NF fu (eI fu) ih pt r H)
theorem w9(fu:Nat):t0 (eI fu):=(PJ fu)
abbrev iG:=aA→ByteArray→Option Int
def oA(m:iG):Prop:= ∀(pt:aA) (pv:Y) (r:Int),m pt pv=some r→bU prog 260 [(aA.pv pt),pS pv] (pI r:PV)
def JQ(fu:Nat)(p0:iG)(pt:aA)(pv:Y):J (Int⊕Int):=sw (decide (pt.aFw=1)) (sw (decide (pt.aFs=pv)) (some (.inr 1)) (some (.inr 0))) (some (.inr 0))
def JR(fu:Nat)(p0:iG)(pt:aA)(pv:Y)(v1:Int):Nat→Int→J (LR Int Int):=fun i4 v5=>bd (p0 (aR pt.aFt i4) pv) fun x9=>some (.next (bB (v5+x9)))
def tI(fu:Nat)(p0:iG)(pt:aA)(pv:Y):J Int:=so (JQ fu p0 pt pv) fun v1=>so (loopN (JR fu p0 pt pv v1) (pt.aFt.length-0) 0 v1) fun v5=>some v5
theorem GZ(fu:Nat)(p0:iG)(pF:oA p0):oA (tI fu p0):=by
 intro pt pv r H
 refine qJ func260 H (fun C hC H=>?_)
 refine gQ 2 ?_;refine q1 (fQ (cF pt)) ?_;refine gQ 7 ?_;refine qY (σ:=Int) (fun v1=>⟨[(1,pS pv),(2,.ptr 0 0),(4,pI 0),(5,pI v1)],⟨[some ⟨30,cF pt⟩],[]⟩⟩) (fA H) (fun H=>?_) ?_
 ·refine gQ 6 ?_;refine dY 10 H (fun g2 H=>?_) fun g2 H=>?_
  ·refine gQ 6 ?_;refine bG H (fun h3 H=>gE 3) fun h3 H=>?_;exact gE 1
  exact gE 8
 rintro v1 H
 refine gQ 5 ?_;refine dR.fact (cP 0 2 rfl rfl rfl (aA.tl _)) (fun hl6=>?_)
 refine bV (σ:=Int) (fun i4 v5=>⟨[(1,pS pv),(2,.ptr 0 0),(4,pI 0),(5,pI v5),(6,pN i4)],⟨[some ⟨30,cF pt⟩],[]⟩⟩) (fun v5=>⟨[(4,pI 0),(5,pI v5)],⟨[some ⟨30,cF pt⟩],[]⟩⟩) (fA H) ?_ ?_
 ·rintro i4 v5 H
  refine gQ 9 ?_;refine cZ H (fun h7 h7l H=>?_) (fun h7 H=>?_)
  ·refine gQ 9 ?_;refine q1 (gZ (aA.cs (aR pt.aFt i4))) (q1 bI (bN H fun x9 z8 H=>(q1 (bJ func260 (pF (aR pt.aFt i4) pv _ z8)) ?_)))
   exact gE 8
  exact gE 0
 rintro v5 H
 exact gE 5
def eR:Nat→aA→Y→J Int
 |0,_,_=>none
 |fu+1,pt,pv=>tI fu (eR fu) pt pv
theorem IL(fu:Nat):oA (eR fu):=by
 induction fu with
 |zero=>exact(fun pt pv r H=>by simp only [eR] at H;cases H)
 |succ fu ih=>exact(fun pt pv r H=>by simp only [eR] at H;exact GZ fu (eR fu) ih pt pv r H)
theorem JT(fu:Nat):oA (eR fu):=(IL fu)
def KZ(fu:Nat)(pv:Y)(pt:aA):J Bool:=bd (eR fu pt pv) fun x2=>some (decide (x2>0))
theorem agF(fu:Nat)(pv:Y)(pt:aA)(r:Bool)(H:KZ fu pv pt=some r):bU prog 250 [pS pv,(aA.pv pt)] (pB r):=by
 refine qJ func250 H (fun C hC H=>?_)
 refine gQ 2 ?_;refine q1 (fQ (cF pt)) ?_;refine gQ 4 ?_;refine q1 (b4 [pI pt.aFw,pS pt.aFs,aV pt.aFt]) (q1 bI (bN H fun x2 z1 H=>(q1 (bJ func260 (JT fu pt pv _ z1)) ?_)))
 exact gE 3
def N2(fu:Nat)(pn:Int):(Int×Y)→J (LR (Int×Y) Y):=fun(v2,v3)=>sw (!decide (v2=0)) (sw (decide (((v2).tmod 10:Int)<0)) (gd ((bytesStr ([(LJ (bB (48+(bB (0-((v2).tmod 10))))))]:Z UInt8)).size+(v3).size≤1099511627776) (some (.next ((bB ((v2).tdiv 10)),((bytesStr ([(LJ (bB (48+(bB (0-((v2).tmod 10))))))]:Z UInt8))++v3))))) (gd ((bytesStr ([(LJ (bB (48+((v2).tmod 10))))]:Z UInt8)).size+(v3).size≤1099511627776) (some (.next ((bB ((v2).tdiv 10)),((bytesStr ([(LJ (bB (48+((v2).tmod 10))))]:Z UInt8))++v3)))))) (some (.brk (v2,v3)))
def rH(fu:Nat)(pn:Int):J Y:=sw (decide (pn=0)) (some s_0) (so (loopW (N2 fu pn) fu (pn,s_)) fun(v2,v3)=>sw (decide (pn<0)) (gd ((JU).size+(v3).size≤1099511627776) (some (JU++v3))) (some v3))
theorem FN(fu:Nat)(pn:Int)(r:Y)(H:rH fu pn=some r):bU prog 255 [pI pn] (pS r):=by
 refine qJ func255 H (fun C hC H=>?_)
 refine gQ 10 ?_;refine bG H (fun h1 H=>gE 4) fun h1 H=>?_;refine gQ 12 ?_;refine VQ (σ:=Int×Y) (fun(v2,v3)=>⟨[(0,pI v2),(2,pS s_),(3,pB (decide (pn<0))),(4,pS v3)],⟨[],[]⟩⟩) (fun(v2,v3)=>⟨[(2,pS s_),(3,pB (decide (pn<0))),(4,pS v3)],⟨[],[]⟩⟩) (fA H) ?_ ?_
 ·rintro k4 ⟨v2,v3⟩ H
  refine gQ 6 ?_;refine bG H (fun h5 H=>?_) (fun h5 H=>?_)
  ·refine gQ 5 ?_;refine q1 (asO (a:=v2) (b:=10) rfl rfl rfl rfl (by decide)) ?_;refine gQ 8 ?_;refine bG H (fun h6 H=>?_) (fun h6 H=>?_)
   ·refine gQ 9 ?_;refine q1 (X4 (a:=bB (48+(bB (0-((v2).tmod 10))))) rfl rfl rfl ⟨_,underlying3⟩ underlying5) (q1 (iL ([(LJ (bB (48+(bB (0-((v2).tmod 10))))))]:Z UInt8)) (q1 (cX.bytesStr rfl rfl rfl rfl underlying22 underlying5 underlying9) (q1 bI (cB H fun z7 H=>(q1 (dF rfl rfl rfl rfl (Nat.le_trans z7 (by decide))) ?_)))))
    refine gQ 4 ?_;refine q1 (ah2 (a:=v2) (b:=10) rfl rfl rfl rfl (by decide)) ?_;exact gE 2
   refine gQ 5 ?_;refine q1 (X4 (a:=bB (48+((v2).tmod 10))) rfl rfl rfl ⟨_,underlying3⟩ underlying5) (q1 (iL ([(LJ (bB (48+((v2).tmod 10))))]:Z UInt8)) (q1 (cX.bytesStr rfl rfl rfl rfl underlying22 underlying5 underlying9) (q1 bI (cB H fun z8 H=>(q1 (dF rfl rfl rfl rfl (Nat.le_trans z8 (by decide))) ?_)))))
   refine gQ 4 ?_;refine q1 (ah2 (a:=v2) (b:=10) rfl rfl rfl rfl (by decide)) ?_;exact gE 2
  exact gE 0
 rintro⟨v2,v3⟩ H
 refine gQ 5 ?_;refine bG H (fun h9 H=>?_) (fun h9 H=>?_)
 ·refine gQ 3 ?_;refine cB H fun z10 H=>(q1 (dF rfl rfl rfl rfl (Nat.le_trans z10 (by decide))) ?_)
  exact gE 2
 exact gE 6
def aa5(fu:Nat)(ps:Y)(p9:Int):J ((Int×Bool)⊕Y):=sw (decide ((((HX ps 0).toNat:Int):Int)=45)) (gd ((0:Int)≤1∧(1:Int)≤(ps.size:Int)∧(ps.size:Int)≤(ps.size:Int)) (some (.inr (ps.extract (1:Int).toNat (ps.size:Int).toNat)))) (some (.inr ps))
def aa7(fu:Nat)(ps:Y)(p9:Int)(v3:Y):Nat→Int→J (LR Int (Int×Bool)):=fun i8 v9=>gd (i8<(v3).size) (sw (decide ((((HX v3 i8).toNat:Int):Int)<48)) (some (.ret (0,false))) (sw (decide ((((HX v3 i8).toNat:Int):Int)>57)) (some (.ret (0,false))) (some (.next (bB ((bB (10*v9))+((LJ (((HX v3 i8).toNat:Int)-48)).toNat:Int)))))))
def aa6(fu:Nat)(ps:Y)(p9:Int)(v3:Y)(v9:Int):J ((Int×Bool)⊕Int):=sw (decide ((((HX ps 0).toNat:Int):Int)=45)) (some (.inr (bB (0-v9)))) (some (.inr v9))
def aa8(fu:Nat)(ps:Y)(p9:Int):Nat→Int→J (LR Int (Int×Bool)):=fun i22 v23=>gd (i22<(ps).size) (sw (decide ((((HX ps i22).toNat:Int):Int)<48)) (some (.ret (0,false))) (sw (decide ((((HX ps i22).toNat:Int):Int)>57)) (some (.ret (0,false))) (some (.next (bB ((bB (10*v23))+((LJ (((HX ps i22).toNat:Int)-48)).toNat:Int)))))))
def U4(fu:Nat)(ps:Y)(p9:Int):J (Int×Bool):=sw (decide ((ps.size:Int)>0)) (gd (0<(ps).size) (so (aa5 fu ps p9) fun v3=>sw (decide ((v3.size:Int)<1)) (some (0,false)) (sw (decide ((v3.size:Int)>p9)) (some (0,false)) (so (loopN (aa7 fu ps p9 v3) (v3.size-0) 0 0) fun v9=>so (aa6 fu ps p9 v3 v9) fun v15=>bd (rH fu v15) fun x18=>sw (!decide (x18=ps)) (some (0,false)) (some (v15,true)))))) (sw (decide ((ps.size:Int)<1)) (some (0,false)) (sw (decide ((ps.size:Int)>p9)) (some (0,false)) (so (loopN (aa8 fu ps p9) (ps.size-0) 0 0) fun v23=>bd (rH fu v23) fun x30=>sw (!decide (x30=ps)) (some (0,false)) (some (v23,true)))))
theorem an5(fu:Nat)(ps:Y)(p9:Int)(r:Int×Bool)(H:U4 fu ps p9=some r):bU prog 253 [pS ps,pI p9] (.tup [pI r.1,pB r.2]):=by
 refine qJ func253 H (fun C hC H=>?_)
 refine gQ 8 ?_;refine q1 (gP rfl rfl rfl underlying9) ?_;refine gQ 2 ?_;refine dY 13 H (fun g1 H=>?_) fun g1 H=>?_
 ·refine qg g1 bI (cB H fun z2 H=>(qg g1 (hZ (k:=0) rfl rfl rfl rfl z2 underlying9) ?_))
  refine gQ 10 ?_;refine qY (σ:=Y) (fun v3=>⟨[(0,pS ps),(1,pI p9),(4,pI 0),(5,pB false),(6,pB (decide ((((HX ps 0).toNat:Int):Int)=45))),(7,pS v3)],⟨[],[]⟩⟩) (fA H) (fun H=>?_) ?_
  ·refine gQ 4 ?_;refine bG H (fun h4 H=>?_) (fun h4 H=>?_)
   ·refine gQ 2 ?_;refine cB H fun z5 H=>(q1 (CV (l:=1) (k:=(ps.size:Int)) rfl rfl rfl rfl rfl z5 underlying9) ?_)
    exact gE 2
   exact gE 1
  rintro v3 H
  refine gQ 4 ?_;refine q1 (gP rfl rfl rfl underlying9) ?_;refine gQ 2 ?_;refine dY 25 H (fun g6 H=>?_) fun g6 H=>?_
  ·have g6n:v3.size<1:=by have:=of_decide_eq_true g6;omega
   exact gE 12
  refine qg g6 bI (qg g6 (gP rfl rfl rfl underlying9) ?_)
  refine gQ 4 ?_;refine bG H (fun h7 H=>gE 5) fun h7 H=>?_;refine gQ 10 ?_;refine szF 7 (fun hl10=>?_)
  refine bV (σ:=Int) (fun i8 v9=>⟨[(0,pS ps),(4,pI 0),(5,pB false),(6,pB (decide ((((HX ps 0).toNat:Int):Int)=45))),(7,pS v3),(8,pI v9),(9,pN i8)],⟨[],[]⟩⟩) (fun v9=>⟨[(0,pS ps),(4,pI 0),(5,pB false),(6,pB (decide ((((HX ps 0).toNat:Int):Int)=45))),(8,pI v9)],⟨[],[]⟩⟩) (fA H) ?_ ?_
  ·rintro i8 v9 H
   refine gQ 5 ?_;refine q1 (gP rfl rfl rfl underlying9) ?_;refine gQ 2 ?_;refine cZ H (fun h11 h11l H=>?_) (fun h11 H=>?_)
   ·have h11n:i8<v3.size:=by have:=of_decide_eq_true h11;omega
    refine gQ 8 ?_;refine cB H fun z12 H=>(q1 (hZ (k:=i8) rfl rfl rfl rfl z12 underlying9) ?_)
    refine gQ 2 ?_;refine dY 41 H (fun g13 H=>gE 12) fun g13 H=>?_;refine gQ 2 ?_;refine qg g13 (hZ (k:=i8) rfl rfl rfl rfl z12 underlying9) ?_;refine gQ 3 ?_;refine bG H (fun h14 H=>gE 5) fun h14 H=>?_;refine gQ 3 ?_;refine q1 (QG rfl rfl rfl rfl) ?_;refine gQ 2 ?_;refine q1 (hZ (k:=i8) rfl rfl rfl rfl z12 underlying9) (q1 (adI rfl rfl rfl rfl) ?_)
    refine q1 (LO rfl rfl rfl ⟨_,underlying5⟩ underlying3 (by first|omega|(have:=UInt8.toNat_lt (LJ (((HX v3 i8).toNat:Int)-48));omega)) (by first|omega|(have:=UInt8.toNat_lt (LJ (((HX v3 i8).toNat:Int)-48));omega))) ?_;exact gE 8
   exact gE 0
  rintro v9 H
  refine qS ?_;refine qY (σ:=Int) (fun v15=>⟨[(0,pS ps),(4,pI 0),(5,pB false),(8,pI v15)],⟨[],[]⟩⟩) (fA H) (fun H=>?_) ?_
  ·refine gQ 4 ?_;refine bG H (fun h16 H=>gE 5) fun h16 H=>?_;exact gE 1
  rintro v15 H
  refine gQ 4 ?_;refine bN H fun x18 z17 H=>(q1 (bJ func255 (FN fu v15 _ z17)) ?_)
  refine gQ 3 ?_;refine bG H (fun h19 H=>gE 5) fun h19 H=>?_;exact gE 7
 refine gQ 22 ?_;refine q1 (gP rfl rfl rfl underlying9) ?_;refine gQ 2 ?_;refine dY 25 H (fun g20 H=>?_) fun g20 H=>?_
 ·have g20n:ps.size<1:=by have:=of_decide_eq_true g20;omega
  exact gE 12
 refine qg g20 bI (qg g20 (gP rfl rfl rfl underlying9) ?_)
 refine gQ 4 ?_;refine bG H (fun h21 H=>gE 5) fun h21 H=>?_;refine gQ 10 ?_;refine szF 0 (fun hl24=>?_)
 refine bV (σ:=Int) (fun i22 v23=>⟨[(0,pS ps),(4,pI 0),(5,pB false),(6,pB false),(7,pS ps),(8,pI v23),(9,pN i22)],⟨[],[]⟩⟩) (fun v23=>⟨[(0,pS ps),(4,pI 0),(5,pB false),(6,pB false),(8,pI v23)],⟨[],[]⟩⟩) (fA H) ?_ ?_
 ·rintro i22 v23 H
  refine gQ 5 ?_;refine q1 (gP rfl rfl rfl underlying9) ?_;refine gQ 2 ?_;refine cZ H (fun h25 h25l H=>?_) (fun h25 H=>?_)
  ·have h25n:i22<ps.size:=by have:=of_decide_eq_true h25;omega
   refine gQ 8 ?_;refine cB H fun z26 H=>(q1 (hZ (k:=i22) rfl rfl rfl rfl z26 underlying9) ?_)
   refine gQ 2 ?_;refine dY 41 H (fun g27 H=>gE 12) fun g27 H=>?_;refine gQ 2 ?_;refine qg g27 (hZ (k:=i22) rfl rfl rfl rfl z26 underlying9) ?_;refine gQ 3 ?_;refine bG H (fun h28 H=>gE 5) fun h28 H=>?_;refine gQ 3 ?_;refine q1 (QG rfl rfl rfl rfl) ?_;refine gQ 2 ?_;refine q1 (hZ (k:=i22) rfl rfl rfl rfl z26 underlying9) (q1 (adI rfl rfl rfl rfl) ?_)
   refine q1 (LO rfl rfl rfl ⟨_,underlying5⟩ underlying3 (by first|omega|(have:=UInt8.toNat_lt (LJ (((HX ps i22).toNat:Int)-48));omega)) (by first|omega|(have:=UInt8.toNat_lt (LJ (((HX ps i22).toNat:Int)-48));omega))) ?_;exact gE 8
  exact gE 0
 rintro v23 H
 refine gQ 11 ?_;refine bN H fun x30 z29 H=>(q1 (bJ func255 (FN fu v23 _ z29)) ?_)
 refine gQ 3 ?_;refine bG H (fun h31 H=>gE 5) fun h31 H=>?_;exact gE 7
def EN(fu:Nat)(ps:Y):J (Int×Bool):=bd (U4 fu ps 12) fun(x2,x3)=>some (x2,x3)
theorem agG(fu:Nat)(ps:Y)(r:Int×Bool)(H:EN fu ps=some r):bU prog 235 [pS ps] (.tup [pI r.1,pB r.2]):=by
 refine qJ func235 H (fun C hC H=>?_)
 refine gQ 8 ?_;refine eX H fun x2 x3 z1 H=>(q1 (bJ func253 (an5 fu ps 12 _ z1)) ?_)
 exact gE 5
def wA(fu:Nat)(pn:Int):J aM:=some (aM.mk 1 s_ s_ pn (aA.mk 0 s_ []) [] [])
theorem yP(fu:Nat)(pn:Int)(r:aM)(H:wA fu pn=some r):bU prog 192 [pI pn] ((aM.pv r)):=by
 refine qJ func192 H (fun C hC H=>?_)
 exact gE 10
def yR(fu:Nat)(ps:Y):J aM:=some (aM.mk 3 s_ ps 0 (aA.mk 0 s_ []) [] [])
theorem DQ(fu:Nat)(ps:Y)(r:aM)(H:yR fu ps=some r):bU prog 191 [pS ps] ((aM.pv r)):=by
 refine qJ func191 H (fun C hC H=>?_)
 exact gE 10
def tL(fu:Nat)(pa pb:Int):J Int:=sw (decide (pa<pb)) (some pa) (some pb)
theorem t3(fu:Nat)(pa:Int)(pb:Int)(r:Int)(H:tL fu pa pb=some r):bU prog 234 [pI pa,pI pb] (pI r):=by
 refine qJ func234 H (fun C hC H=>?_)
 refine gQ 11 ?_;refine bG H (fun h1 H=>gE 5) fun h1 H=>?_;exact gE 6
abbrev lJ:=aB→Option aM
abbrev jW:=(List aB)→Option ((List aM))
abbrev m4:=aB→Option cC
def yS(m:lJ):Prop:= ∀(p1:aB) (r:aM),m p1=some r→bU prog 220 [(aB.pv p1)] ((aM.pv r):PV)
def AI(m:jW):Prop:= ∀(p6:Z aB) (r:(Z aM)),m p6=some r→bU prog 236 [bM p6] (jV r:PV)
def G5(m:m4):Prop:= ∀(px:aB) (r:cC),m px=some r→bU prog 237 [(aB.pv px)] ((cC.pv r):PV)
def akS(fu:Nat)(p3:lJ)(p0:jW)(p4:m4)(p1 y15 y18:aB)(x67:Int)(x70:Z aM):Nat→((Z cC))→J (LR ((Z cC)) aM):=fun i71 v73=>bd (p4 (aR p1.aFv i71)) fun x77=>gd ((v73).length+(([x77]:Z cC)).length≤68719476736) (some (.next (v73++([x77]:Z cC))))
def PW(fu:Nat)(p3:lJ)(p0:jW)(p4:m4)(p1:aB):J aM:=sw (!decide (p1.aFy=s_)) (bd (EN fu p1.aFy) fun(x3,x4)=>sw x4 (bd (wA fu x3) fun x7=>some x7) (sw (decide (p1.aFy=sQ)) (some (aM.mk 2 s_ s_ 1 (aA.mk 0 s_ []) [] [])) (sw (decide (p1.aFy=nL)) (some (aM.mk 2 s_ s_ 0 (aA.mk 0 s_ []) [] [])) (bd (yR fu p1.aFy) fun x11=>some x11)))) (gd (([]:Z aB).length+(p1.aFv).length≤68719476736) (gd ((([])++p1.aFv).length+(([(aB.mk s_ []),(aB.mk s_ []),(aB.mk s_ [])]:Z aB)).length≤68719476736) (gd (1<((([])++p1.aFv)++([(aB.mk s_ []),(aB.mk s_ []),(aB.mk s_ [])]:Z aB)).length) (lt (aR ((([])++p1.aFv)++([(aB.mk s_ []),(aB.mk s_ []),(aB.mk s_ [])]:Z aB)) 1) fun y15=>gd (0<((([])++p1.aFv)++([(aB.mk s_ []),(aB.mk s_ []),(aB.mk s_ [])]:Z aB)).length) (lt (aR ((([])++p1.aFv)++([(aB.mk s_ []),(aB.mk s_ []),(aB.mk s_ [])]:Z aB)) 0) fun y18=>sw (decide (y18.aFy=UU)) (bd (tL fu 2 (p1.aFv.length:Int)) fun x22=>gd ((0:Int)≤x22∧(x22:Int)≤(p1.aFv.length:Int)∧(p1.aFv.length:Int)≤(p1.aFv.length:Int)) (bd (p0 (List.drop (x22:Int).toNat (List.take (p1.aFv.length:Int).toNat p1.aFv))) fun x25=>some (aM.mk 4 s_ y15.aFy 0 (aA.mk 0 s_ []) x25 []))) (sw (decide (y18.aFy=sA)) (gd (2<((([])++p1.aFv)++([(aB.mk s_ []),(aB.mk s_ []),(aB.mk s_ [])]:Z aB)).length) (lt (aR ((([])++p1.aFv)++([(aB.mk s_ []),(aB.mk s_ []),(aB.mk s_ [])]:Z aB)) 2) fun y28=>bd (tL fu 3 (p1.aFv.length:Int)) fun x31=>gd ((0:Int)≤x31∧(x31:Int)≤(p1.aFv.length:Int)∧(p1.aFv.length:Int)≤(p1.aFv.length:Int)) (bd (p0 (List.drop (x31:Int).toNat (List.take (p1.aFv.length:Int).toNat p1.aFv))) fun x34=>some (aM.mk 5 y15.aFy y28.aFy 0 (aA.mk 0 s_ []) x34 [])))) (sw (decide (y18.aFy=JM)) (bd (tL fu 2 (p1.aFv.length:Int)) fun x37=>gd ((0:Int)≤x37∧(x37:Int)≤(p1.aFv.length:Int)∧(p1.aFv.length:Int)≤(p1.aFv.length:Int)) (bd (p0 (List.drop (x37:Int).toNat (List.take (p1.aFv.length:Int).toNat p1.aFv))) fun x40=>some (aM.mk 6 s_ y15.aFy 0 (aA.mk 0 s_ []) x40 []))) (sw (decide (y18.aFy=JL)) (bd (tL fu 2 (p1.aFv.length:Int)) fun x43=>gd ((0:Int)≤x43∧(x43:Int)≤(p1.aFv.length:Int)∧(p1.aFv.length:Int)≤(p1.aFv.length:Int)) (bd (p0 (List.drop (x43:Int).toNat (List.take (p1.aFv.length:Int).toNat p1.aFv))) fun x46=>some (aM.mk 8 s_ y15.aFy 0 (aA.mk 0 s_ []) x46 []))) (sw (decide (y18.aFy=IQ)) (gd ((0:Int)≤1∧(1:Int)≤(p1.aFv.length:Int)∧(p1.aFv.length:Int)≤(p1.aFv.length:Int)) (bd (p0 (List.drop (1:Int).toNat (List.take (p1.aFv.length:Int).toNat p1.aFv))) fun x50=>some (aM.mk 9 s_ s_ 0 (aA.mk 0 s_ []) x50 []))) (sw (decide (y18.aFy=BD)) (bd (tL fu 2 (p1.aFv.length:Int)) fun x53=>gd ((0:Int)≤x53∧(x53:Int)≤(p1.aFv.length:Int)∧(p1.aFv.length:Int)≤(p1.aFv.length:Int)) (bd (p0 (List.drop (x53:Int).toNat (List.take (p1.aFv.length:Int).toNat p1.aFv))) fun x56=>some (aM.mk 11 y15.aFy s_ 0 (aA.mk 0 s_ []) x56 []))) (sw (decide (y18.aFy=aeL)) (bd (oV fu y15) fun x59=>bd (tL fu 2 (p1.aFv.length:Int)) fun x61=>gd ((0:Int)≤x61∧(x61:Int)≤(p1.aFv.length:Int)∧(p1.aFv.length:Int)≤(p1.aFv.length:Int)) (bd (p0 (List.drop (x61:Int).toNat (List.take (p1.aFv.length:Int).toNat p1.aFv))) fun x64=>some (aM.mk 12 s_ s_ 0 x59 x64 []))) (sw (decide (y18.aFy=BC)) (bd (tL fu 2 (p1.aFv.length:Int)) fun x67=>gd ((0:Int)≤1∧(1:Int)≤x67∧(x67:Int)≤(p1.aFv.length:Int)) (bd (p0 (List.drop (1:Int).toNat (List.take (x67:Int).toNat p1.aFv))) fun x70=>so (loopN (akS fu p3 p0 p4 p1 y15 y18 x67 x70) (p1.aFv.length-2) 2 ([])) fun v73=>some (aM.mk 7 s_ s_ 0 (aA.mk 0 s_ []) x70 v73))) (bd (tL fu 1 (p1.aFv.length:Int)) fun x80=>gd ((0:Int)≤x80∧(x80:Int)≤(p1.aFv.length:Int)∧(p1.aFv.length:Int)≤(p1.aFv.length:Int)) (bd (p0 (List.drop (x80:Int).toNat (List.take (p1.aFv.length:Int).toNat p1.aFv))) fun x83=>some (aM.mk 10 s_ y18.aFy 0 (aA.mk 0 s_ []) x83 [])))))))))))))))
theorem ac5(fu:Nat)(p3:lJ)(p0:jW)(p4:m4)(pC:yS p3)(p5:AI p0)(pD:G5 p4):yS (PW fu p3 p0 p4):=by
 intro p1 r H
 refine qJ func220 H (fun C hC H=>?_)
 refine gQ 2 ?_;refine q1 (fQ ([pS p1.aFy,bM p1.aFv])) ?_;refine gQ 9 ?_;refine bG H (fun h1 H=>?_) (fun h1 H=>?_)
 ·refine gQ 4 ?_;refine eX H fun x3 x4 z2 H=>(q1 (bJ func235 (agG fu p1.aFy _ z2)) ?_)
  refine gQ 13 ?_;refine bG H (fun h5 H=>?_) (fun h5 H=>?_)
  ·refine gQ 3 ?_;refine bN H fun x7 z6 H=>(q1 (bJ func192 (yP fu x3 _ z6)) ?_)
   exact gE 2
  refine gQ 7 ?_;refine bG H (fun h8 H=>gE 5) fun h8 H=>?_;refine gQ 7 ?_;refine bG H (fun h9 H=>gE 5) fun h9 H=>?_;refine gQ 5 ?_;refine bN H fun x11 z10 H=>(q1 (bJ func191 (DQ fu p1.aFy _ z10)) ?_)
  exact gE 2
 refine gQ 3 ?_;refine q1 (sM ([]:Z aB)) ?_;refine gQ 2 ?_;refine cB H fun z12 H=>(q1 (lO z12) ?_)
 refine gQ 3 ?_;refine q1 (iL ([(aB.mk s_ []),(aB.mk s_ []),(aB.mk s_ [])]:Z aB)) (cB H fun z13 H=>(q1 (lO z13) ?_))
 refine gQ 12 ?_;refine cB H fun z14 H=>(gM H fun y15 h16 H=>(q1 (AR h16 z14) ?_))
 refine gQ 8 ?_;refine cB H fun z17 H=>(gM H fun y18 h19 H=>(q1 (AR h19 z17) ?_))
 refine gQ 9 ?_;refine bG H (fun h20 H=>?_) (fun h20 H=>?_)
 ·refine qS (bN H fun x22 z21 H=>(cB H fun z23 H=>(bN H fun x25 z24 H=>(dW (dI [7] bI (dI [1] bW (dD [59] eG (dI [6] bI (dI [61] (bJ func234 (t3 fu 2 (p1.aFv.length:Int) _ z21)) ?_)))))))))
  refine dI [60,62] (jP (jQ (es:=aB.trs (p1.aFv)) (l:=x22) (k:=(p1.aFv.length:Int)) rfl rfl rfl rfl rfl (by rw [aB.tl];exact rfl) (by rw [aB.tl];exact z23) EB.h) (aB.tq _ _ _)) ?_;refine dI [63] (bJ func236 (p5 (List.drop (x22:Int).toNat (List.take (p1.aFv.length:Int).toNat p1.aFv)) _ z24)) (dI [58,64] rQ (iW [2,65] hY (dN ?_)))
  exact gE 0
 refine gQ 5 ?_;refine bG H (fun h26 H=>?_) (fun h26 H=>?_)
 ·refine qS (cB H fun z27 H=>(gM H fun y28 h29 H=>(bN H fun x31 z30 H=>(cB H fun z32 H=>(bN H fun x34 z33 H=>(dW (dI [7] bI (dI [5] bI (dI [69] (AR h29 z27) (dI [70] xE (dI [71] wH (dI [1] bW (dD [73] eG ?_)))))))))))))
  refine dI [6] bI (dI [75] (bJ func234 (t3 fu 3 (p1.aFv.length:Int) _ z30)) ?_)
  refine dI [74,76] (jP (jQ (es:=aB.trs (p1.aFv)) (l:=x31) (k:=(p1.aFv.length:Int)) rfl rfl rfl rfl rfl (by rw [aB.tl];exact rfl) (by rw [aB.tl];exact z32) EB.h) (aB.tq _ _ _)) ?_;refine dI [77] (bJ func236 (p5 (List.drop (x31:Int).toNat (List.take (p1.aFv.length:Int).toNat p1.aFv)) _ z33)) (dI [68,72,78] rQ (iW [2,79] hY (dN ?_)))
  exact gE 0
 refine gQ 5 ?_;refine bG H (fun h35 H=>?_) (fun h35 H=>?_)
 ·refine qS (bN H fun x37 z36 H=>(cB H fun z38 H=>(bN H fun x40 z39 H=>(dW (dI [7] bI (dI [1] bW (dD [83] eG (dI [6] bI (dI [85] (bJ func234 (t3 fu 2 (p1.aFv.length:Int) _ z36)) ?_)))))))))
  refine dI [84,86] (jP (jQ (es:=aB.trs (p1.aFv)) (l:=x37) (k:=(p1.aFv.length:Int)) rfl rfl rfl rfl rfl (by rw [aB.tl];exact rfl) (by rw [aB.tl];exact z38) EB.h) (aB.tq _ _ _)) ?_;refine dI [87] (bJ func236 (p5 (List.drop (x37:Int).toNat (List.take (p1.aFv.length:Int).toNat p1.aFv)) _ z39)) (dI [82,88] rQ (iW [2,89] hY (dN ?_)))
  exact gE 0
 refine gQ 5 ?_;refine bG H (fun h41 H=>?_) (fun h41 H=>?_)
 ·refine qS (bN H fun x43 z42 H=>(cB H fun z44 H=>(bN H fun x46 z45 H=>(dW (dI [7] bI (dI [1] bW (dD [93] eG (dI [6] bI (dI [95] (bJ func234 (t3 fu 2 (p1.aFv.length:Int) _ z42)) ?_)))))))))
  refine dI [94,96] (jP (jQ (es:=aB.trs (p1.aFv)) (l:=x43) (k:=(p1.aFv.length:Int)) rfl rfl rfl rfl rfl (by rw [aB.tl];exact rfl) (by rw [aB.tl];exact z44) EB.h) (aB.tq _ _ _)) ?_;refine dI [97] (bJ func236 (p5 (List.drop (x43:Int).toNat (List.take (p1.aFv.length:Int).toNat p1.aFv)) _ z45)) (dI [92,98] rQ (iW [2,99] hY (dN ?_)))
  exact gE 0
 refine gQ 5 ?_;refine bG H (fun h47 H=>?_) (fun h47 H=>?_)
 ·refine gQ 4 ?_;refine cB H fun z48 H=>?_;refine q1 (jP (jQ (es:=aB.trs (p1.aFv)) (l:=1) (k:=(p1.aFv.length:Int)) rfl rfl rfl rfl rfl (by rw [aB.tl];exact rfl) (by rw [aB.tl];exact z48) EB.h) (aB.tq _ _ _)) ?_;refine bN H fun x50 z49 H=>(q1 (bJ func236 (p5 (List.drop (1:Int).toNat (List.take (p1.aFv.length:Int).toNat p1.aFv)) _ z49)) ?_)
  exact gE 3
 refine gQ 5 ?_;refine bG H (fun h51 H=>?_) (fun h51 H=>?_)
 ·refine qS (bN H fun x53 z52 H=>(cB H fun z54 H=>(bN H fun x56 z55 H=>(dW (dI [7] bI (dI [1] bW (dD [110] eG (dI [6] bI (dI [112] (bJ func234 (t3 fu 2 (p1.aFv.length:Int) _ z52)) ?_)))))))))
  refine dI [111,113] (jP (jQ (es:=aB.trs (p1.aFv)) (l:=x53) (k:=(p1.aFv.length:Int)) rfl rfl rfl rfl rfl (by rw [aB.tl];exact rfl) (by rw [aB.tl];exact z54) EB.h) (aB.tq _ _ _)) ?_;refine dI [114] (bJ func236 (p5 (List.drop (x53:Int).toNat (List.take (p1.aFv.length:Int).toNat p1.aFv)) _ z55)) (dI [109,115] rQ (iW [2,116] hY (dN ?_)))
  exact gE 0
 refine gQ 5 ?_;refine bG H (fun h57 H=>?_) (fun h57 H=>?_)
 ·refine qS (bN H fun x59 z58 H=>(bN H fun x61 z60 H=>(cB H fun z62 H=>(bN H fun x64 z63 H=>(dW (dI [5] bI (dI [119] (AR h16 z14) (dI [120] (gZ (aB.cs y15)) (dI [121] (bJ func219 (AQ fu y15 _ z58)) (dI [1] bW (dD [123] eG (dI [6] bI (dI [125] (bJ func234 (t3 fu 2 (p1.aFv.length:Int) _ z60)) ?_)))))))))))))
  refine dI [124,126] (jP (jQ (es:=aB.trs (p1.aFv)) (l:=x61) (k:=(p1.aFv.length:Int)) rfl rfl rfl rfl rfl (by rw [aB.tl];exact rfl) (by rw [aB.tl];exact z62) EB.h) (aB.tq _ _ _)) ?_;refine dI [127] (bJ func236 (p5 (List.drop (x61:Int).toNat (List.take (p1.aFv.length:Int).toNat p1.aFv)) _ z63)) (dI [122,128] rQ (iW [2,129] hY (dN ?_)))
  exact gE 0
 refine gQ 5 ?_;refine bG H (fun h65 H=>?_) (fun h65 H=>?_)
 ·refine qS (bN H fun x67 z66 H=>(cB H fun z68 H=>(bN H fun x70 z69 H=>(dW (dI [1] bW (dB [132] 0 1 tP (dI [6] bI (dI [134] (bJ func234 (t3 fu 2 (p1.aFv.length:Int) _ z66)) ?_))))))))
  refine dI [133,135] (jP (jQ (es:=aB.trs (p1.aFv)) (l:=1) (k:=x67) rfl rfl rfl rfl rfl (by rw [aB.tl];exact rfl) (by rw [aB.tl];exact z68) EB.h) (aB.tq _ _ _)) ?_;refine dI [136] (bJ func236 (p5 (List.drop (1:Int).toNat (List.take (x67:Int).toNat p1.aFv)) _ z69)) (dI [137] rQ (dE [] tAl (iW [8,138] hY (dN ?_))))
  refine gQ 5 ?_;refine kC (eY (k:=2) (j:=8) 262 11 (by decide) rfl rfl) ?_;refine gV 38 (aB.tl _) (fun hl74=>?_)
  refine bV (σ:=(Z cC)) (fun i71 v73=>⟨[(1,.ptr 0 0),(2,.ptr 1 0),(5,eW ((([])++p1.aFv)++([(aB.mk s_ []),(aB.mk s_ []),(aB.mk s_ [])]:Z aB)) 0),(6,pN p1.aFv.length),(8,.ptr 2 0),(9,pN i71)],⟨[some ⟨189,[pS p1.aFy,bM p1.aFv]⟩,some ⟨211,[pI 0,pS s_,pS s_,pI 0,pI 0,pS s_,.nil,.nil,.nil]⟩,some ⟨211,[pI 7,pS s_,pS s_,pI 0,pI 0,pS s_,.nil,jV x70,awY v73 1]⟩],[⟨189,2,aB.trs ((([])++p1.aFv)++([(aB.mk s_ []),(aB.mk s_ []),(aB.mk s_ [])]:Z aB)),false⟩,⟨262,11,cC.trs (v73),false⟩]⟩⟩) (fun v73=>⟨[(1,.ptr 0 0),(2,.ptr 1 0),(5,eW ((([])++p1.aFv)++([(aB.mk s_ []),(aB.mk s_ []),(aB.mk s_ [])]:Z aB)) 0),(6,pN p1.aFv.length),(8,.ptr 2 0)],⟨[some ⟨189,[pS p1.aFy,bM p1.aFv]⟩,some ⟨211,[pI 0,pS s_,pS s_,pI 0,pI 0,pS s_,.nil,.nil,.nil]⟩,some ⟨211,[pI 7,pS s_,pS s_,pI 0,pI 0,pS s_,.nil,jV x70,awY v73 1]⟩],[⟨189,2,aB.trs ((([])++p1.aFv)++([(aB.mk s_ []),(aB.mk s_ []),(aB.mk s_ [])]:Z aB)),false⟩,⟨262,11,cC.trs (v73),false⟩]⟩⟩) (fA H) ?_ ?_
  ·rintro i71 v73 H
   refine gQ 7 ?_;refine cZ H (fun h75 h75l H=>?_) (fun h75 H=>?_)
   ·refine gQ 3 ?_;refine bN H fun x77 z76 H=>(cB H fun z78 H=>(dW (dI [8] bW (dD [144] eG (dI [1] bW (dD [146] eG (dI [9] bI (dI [147,148] mU (dI [149] (gZ (aB.cs (aR p1.aFv i71))) (dI [150] (bJ func237 (pD (aR p1.aFv i71) _ z76)) (dI [151] (iL ([x77]:Z cC)) (dE [145,152] (lO z78) (dI [8] bW ?_)))))))))))))
    refine iW [154,153] hY (dN ?_)
    exact gE 5
   exact gE 0
  rintro v73 H
  refine gQ 2 ?_;refine q1 (b4 [pI 7,pS s_,pS s_,pI 0,pI 0,pS s_,.nil,jV x70,awY v73 1]) ?_;exact gE 2
 refine gQ 2 ?_;refine bN H fun x80 z79 H=>(cB H fun z81 H=>(bN H fun x83 z82 H=>(dW (dI [5] bI (dI [156] (AR h19 z17) (dI [157] xE (dI [158] wH (dI [1] bW (dD [160] eG (dI [6] bI (dI [162] (bJ func234 (t3 fu 1 (p1.aFv.length:Int) _ z79)) ?_)))))))))))
 refine dI [161,163] (jP (jQ (es:=aB.trs (p1.aFv)) (l:=x80) (k:=(p1.aFv.length:Int)) rfl rfl rfl rfl rfl (by rw [aB.tl];exact rfl) (by rw [aB.tl];exact z81) EB.h) (aB.tq _ _ _)) ?_;refine dI [164] (bJ func236 (p5 (List.drop (x80:Int).toNat (List.take (p1.aFv.length:Int).toNat p1.aFv)) _ z82)) (dI [159,165] rQ (iW [2,166] hY (dN ?_)))
 exact gE 0
def agR(fu:Nat)(p3:lJ)(p0:jW)(p4:m4)(p6:Z aB):Nat→((Z aM))→J (LR ((Z aM)) ((Z aM))):=fun i1 v3=>bd (p3 (aR p6 i1)) fun x7=>gd ((v3).length+(([x7]:Z aM)).length≤68719476736) (some (.next (v3++([x7]:Z aM))))
def K5(fu:Nat)(p3:lJ)(p0:jW)(p4:m4)(p6:Z aB):J ((Z aM)):=so (loopN (agR fu p3 p0 p4 p6) (p6.length-0) 0 ([])) fun v3=>some v3
theorem aaW(fu:Nat)(p3:lJ)(p0:jW)(p4:m4)(pC:yS p3)(p5:AI p0)(pD:G5 p4):AI (K5 fu p3 p0 p4):=by
 intro p6 r H
 refine qJ func236 H (fun C hC H=>?_)
 refine gQ 6 ?_;refine q1 (sM ([]:Z aM)) ?_;refine gQ 7 ?_;refine gV 0 (aB.tl _) (fun hl4=>?_)
 refine bV (σ:=(Z aM)) (fun i1 v3=>⟨[(0,bM p6),(2,.nil),(3,awB v3 0),(4,pN i1)],⟨[],[⟨211,9,aM.trs (v3),false⟩]⟩⟩) (fun v3=>⟨[(2,.nil),(3,awB v3 0)],⟨[],[⟨211,9,aM.trs (v3),false⟩]⟩⟩) (fA H) ?_ ?_
 ·rintro i1 v3 H
  refine gQ 8 ?_;refine cZ H (fun h5 h5l H=>?_) (fun h5 H=>?_)
  ·refine gQ 8 ?_;refine q1 (gZ (aB.cs (aR p6 i1))) (bN H fun x7 z6 H=>(q1 (bJ func220 (pC (aR p6 i1) _ z6)) (q1 (iL ([x7]:Z aM)) (cB H fun z8 H=>(q1 (lO z8) ?_)))))
   exact gE 7
  exact gE 0
 rintro v3 H
 exact gE 5
def UY(fu:Nat)(p3:lJ)(p0:jW)(p4:m4)(px:aB):J cC:=sw (decide ((px.aFv.length:Int)<2)) (some (cC.mk s_ [] (aM.mk 0 s_ s_ 0 (aA.mk 0 s_ []) [] []))) (gd ((0:Int)≤1∧(1:Int)≤bB ((px.aFv.length:Int)-1)∧(bB ((px.aFv.length:Int)-1):Int)≤(px.aFv.length:Int)) (bd (D0 fu (List.drop (1:Int).toNat (List.take (bB ((px.aFv.length:Int)-1):Int).toNat px.aFv))) fun(x4,x5)=>gd (0<(px.aFv).length) (gd (0≤bB ((px.aFv.length:Int)-1)∧(bB ((px.aFv.length:Int)-1)).toNat<(px.aFv).length) (lt (aR px.aFv ((bB ((px.aFv.length:Int)-1)).toNat)) fun y8=>bd (p3 y8) fun x11=>some (cC.mk ((aR px.aFv 0).aFy) x4 x11)))))
theorem agP(fu:Nat)(p3:lJ)(p0:jW)(p4:m4)(pC:yS p3)(p5:AI p0)(pD:G5 p4):G5 (UY fu p3 p0 p4):=by
 intro px r H
 refine qJ func237 H (fun C hC H=>?_)
 refine gQ 2 ?_;refine q1 (fQ ([pS px.aFy,bM px.aFv])) ?_;refine gQ 15 ?_;refine bG H (fun h1 H=>?_) (fun h1 H=>?_)
 ·have h1n:px.aFv.length<2:=by have:=of_decide_eq_true h1;omega
  exact gE 5
 refine gQ 7 ?_;refine cB H fun z2 H=>?_;refine q1 (jP (jQ (es:=aB.trs (px.aFv)) (l:=1) (k:=bB ((px.aFv.length:Int)-1)) rfl rfl rfl rfl rfl (by rw [aB.tl];exact rfl) (by rw [aB.tl];exact z2) EB.h) (aB.tq _ _ _)) ?_;refine eX H fun x4 x5 z3 H=>(q1 (bJ func174 (LG fu (List.drop (1:Int).toNat (List.take (bB ((px.aFv.length:Int)-1):Int).toNat px.aFv)) _ z3)) ?_)
 refine gQ 7 ?_;refine cB H fun z6 H=>(cB H fun z7 H=>(gM H fun y8 h9 H=>(bN H fun x11 z10 H=>(dW (dI [1] bW (dD [21] eG (dI [22] mU (dI [23] xE (dI [24] wH (dI [4] bI (dI [1] bW (dD [27] eG (dI [3] bI ?_)))))))))))))
 refine dI [29] rSw (dI [28,30] (rIm h9 z7 EB.h) (dI [31] (gZ (aB.cs y8)) (dI [32] (bJ func220 (pC y8 _ z10)) (dI [25,26,33] rQ (iW [2,34] hY (dN ?_))))))
 exact gE 0
mutual
def iZ:Nat→aB→J aM
 |0,_=>none
 |fu+1,p1=>PW fu (iZ fu) (l4 fu) (qM fu) p1
def l4:Nat→(Z aB)→J ((Z aM))
 |0,_=>none
 |fu+1,p6=>K5 fu (iZ fu) (l4 fu) (qM fu) p6
def qM:Nat→aB→J cC
 |0,_=>none
 |fu+1,px=>UY fu (iZ fu) (l4 fu) (qM fu) px
end
theorem agQ(fu:Nat):yS (iZ fu)∧AI (l4 fu)∧G5 (qM fu):=by
 induction fu with
 |zero=>exact⟨(fun p1 r H=>by simp only [iZ] at H;cases H),(fun p6 r H=>by simp only [l4] at H;cases H),(fun px r H=>by simp only [qM] at H;cases H)⟩
 |succ fu ih=>exact⟨(fun p1 r H=>by simp only [iZ] at H;exact ac5 fu (iZ fu) (l4 fu) (qM fu) ih.1 ih.2.1 ih.2.2 p1 r H),(fun p6 r H=>by simp only [l4] at H;exact aaW fu (iZ fu) (l4 fu) (qM fu) ih.1 ih.2.1 ih.2.2 p6 r H),(fun px r H=>by simp only [qM] at H;exact agP fu (iZ fu) (l4 fu) (qM fu) ih.1 ih.2.1 ih.2.2 px r H)⟩
theorem K4(fu:Nat):yS (iZ fu):=(agQ fu).1
abbrev uM:=aM→Option aB
abbrev o6:=(List aB)→(List aM)→Option aB
def K6(m:uM):Prop:= ∀(p1:aM) (r:aB),m p1=some r→bU prog 243 [(aM.pv p1)] ((aB.pv r):PV)
def IV(m:o6):Prop:= ∀(pA:Z aB) (p6:Z aM) (r:aB),m pA p6=some r→cM prog 256 [eW pA 0,jV p6] ⟨[],[⟨189,2,aB.trs (pA),false⟩]⟩ (fun q t=>q=(.agg [pS r.aFy,eW r.aFv 0]:PV)∧t=⟨[],[⟨189,2,aB.trs (r.aFv),false⟩]⟩)
def arS(fu:Nat)(p8:uM)(p2:o6)(p1:aM)(x68 x70:aB):Nat→((Z aB))→J (LR ((Z aB)) aB):=fun i71 v73=>lt (aR p1.aFP i71) fun y76=>bd (cN fu y76.aFU) fun x79=>bd (I7 fu y76.aFH) fun x81=>gd ((([x79]:Z aB)).length+x81.length≤68719476736) (bd (p8 y76.aFE) fun x84=>gd ((([x79]:Z aB)++x81).length+(([x84]:Z aB)).length≤68719476736) (gd ((v73).length+(([(aB.mk s_ ((([x79]:Z aB)++x81)++([x84]:Z aB)))]:Z aB)).length≤68719476736) (some (.next (v73++([(aB.mk s_ ((([x79]:Z aB)++x81)++([x84]:Z aB)))]:Z aB))))))
def aaX(fu:Nat)(p8:uM)(p2:o6)(p1:aM):J aB:=sw (decide (p1.aFw=1)) (bd (rH fu p1.aGa) fun x3=>bd (cN fu x3) fun x5=>some x5) (sw (decide (p1.aFw=2)) (gd (0≤p1.aGa∧(p1.aGa).toNat<(([nL,sQ]:LB)).length) (bd (cN fu (aR ([nL,sQ]:LB) ((p1.aGa).toNat))) fun x9=>some x9)) (sw (decide (p1.aFw=3)) (bd (cN fu p1.aFs) fun x12=>some x12) (sw (decide (p1.aFw=4)) (bd (cN fu UU) fun x15=>bd (cN fu p1.aFs) fun x17=>bd (p2 ([x15,x17]:Z aB) p1.aFt) fun x19=>some (aB.mk x19.aFy x19.aFv)) (sw (decide (p1.aFw=5)) (bd (cN fu sA) fun x22=>bd (cN fu p1.aFz) fun x24=>bd (cN fu p1.aFs) fun x26=>bd (p2 ([x22,x24,x26]:Z aB) p1.aFt) fun x28=>some (aB.mk x28.aFy x28.aFv)) (sw (decide (p1.aFw=6)) (bd (cN fu JM) fun x31=>bd (cN fu p1.aFs) fun x33=>bd (p2 ([x31,x33]:Z aB) p1.aFt) fun x35=>some (aB.mk x35.aFy x35.aFv)) (sw (decide (p1.aFw=8)) (bd (cN fu JL) fun x38=>bd (cN fu p1.aFs) fun x40=>bd (p2 ([x38,x40]:Z aB) p1.aFt) fun x42=>some (aB.mk x42.aFy x42.aFv)) (sw (decide (p1.aFw=9)) (bd (cN fu IQ) fun x45=>bd (p2 ([x45]:Z aB) p1.aFt) fun x47=>some (aB.mk x47.aFy x47.aFv)) (sw (decide (p1.aFw=10)) (bd (cN fu p1.aFs) fun x50=>bd (p2 ([x50]:Z aB) p1.aFt) fun x52=>some (aB.mk x52.aFy x52.aFv)) (sw (decide (p1.aFw=11)) (bd (cN fu BD) fun x55=>bd (cN fu p1.aFz) fun x57=>bd (p2 ([x55,x57]:Z aB) p1.aFt) fun x59=>some (aB.mk x59.aFy x59.aFv)) (sw (decide (p1.aFw=12)) (bd (cN fu aeL) fun x62=>bd (oU fu p1.aFu) fun x64=>bd (p2 ([x62,x64]:Z aB) p1.aFt) fun x66=>some (aB.mk x66.aFy x66.aFv)) (bd (cN fu BC) fun x68=>bd (p2 ([x68]:Z aB) p1.aFt) fun x70=>so (loopN (arS fu p8 p2 p1 x68 x70) (p1.aFP.length-0) 0 x70.aFv) fun v73=>some (aB.mk x70.aFy v73))))))))))))
theorem akU(fu:Nat)(p8:uM)(p2:o6)(pE:K6 p8)(p7:IV p2):K6 (aaX fu p8 p2):=by
 intro p1 r H
 refine qJ func243 H (fun C hC H=>?_)
 refine gQ 2 ?_;refine q1 (fQ (kH p1)) ?_;refine gQ 14 ?_;refine bG H (fun h1 H=>?_) (fun h1 H=>?_)
 ·refine gQ 4 ?_;refine bN H fun x3 z2 H=>(q1 (bJ func255 (FN fu p1.aGa _ z2)) (bN H fun x5 z4 H=>(q1 (bJ func239 (cD fu x3 _ z4)) ?_)))
  exact gE 2
 refine gQ 5 ?_;refine bG H (fun h6 H=>?_) (fun h6 H=>?_)
 ·refine gQ 2 ?_;refine q1 (iL ([nL,sQ]:LB)) ?_;refine gQ 2 ?_;refine cB H fun z7 H=>(q1 (rIy z7 amO.h) (q1 wH (bN H fun x9 z8 H=>(q1 (bJ func239 (cD fu (aR ([nL,sQ]:LB) ((p1.aGa).toNat)) _ z8)) ?_))))
  exact gE 2
 refine gQ 5 ?_;refine bG H (fun h10 H=>?_) (fun h10 H=>?_)
 ·refine gQ 4 ?_;refine bN H fun x12 z11 H=>(q1 (bJ func239 (cD fu p1.aFs _ z11)) ?_)
  exact gE 2
 refine gQ 5 ?_;refine bG H (fun h13 H=>?_) (fun h13 H=>?_)
 ·refine qS (bN H fun x15 z14 H=>(bN H fun x17 z16 H=>(bN H fun x19 z18 H=>(dW (dI [] (bJ func239 (cD fu UU _ z14)) (dI [1] bW (dD [31] eG (dI [32] (bJ func239 (cD fu p1.aFs _ z16)) (dE [30,33] (sM ([x15,x17]:Z aB)) (dI [1] bW (dB [35] 0 1 tP (dE [34,36] (fO [] [0] func256 (p7 ([x15,x17]:Z aB) p1.aFt _ z18)) (iW [2,37] hY ?_)))))))))))))
  refine dN ?_;exact gE 0
 refine gQ 5 ?_;refine bG H (fun h20 H=>?_) (fun h20 H=>?_)
 ·refine qS (bN H fun x22 z21 H=>(bN H fun x24 z23 H=>(bN H fun x26 z25 H=>(bN H fun x28 z27 H=>(dW (dI [] (bJ func239 (cD fu sA _ z21)) (dI [1] bW (dD [41] eG (dI [42] (bJ func239 (cD fu p1.aFz _ z23)) (dI [1] bW (dD [44] eG (dI [45] (bJ func239 (cD fu p1.aFs _ z25)) (dE [40,43,46] (sM ([x22,x24,x26]:Z aB)) ?_)))))))))))))
  refine dI [1] bW (dB [48] 0 1 tP (dE [47,49] (fO [] [0] func256 (p7 ([x22,x24,x26]:Z aB) p1.aFt _ z27)) (iW [2,50] hY (dN ?_))))
  exact gE 0
 refine gQ 5 ?_;refine bG H (fun h29 H=>?_) (fun h29 H=>?_)
 ·refine qS (bN H fun x31 z30 H=>(bN H fun x33 z32 H=>(bN H fun x35 z34 H=>(dW (dI [] (bJ func239 (cD fu JM _ z30)) (dI [1] bW (dD [54] eG (dI [55] (bJ func239 (cD fu p1.aFs _ z32)) (dE [53,56] (sM ([x31,x33]:Z aB)) (dI [1] bW (dB [58] 0 1 tP (dE [57,59] (fO [] [0] func256 (p7 ([x31,x33]:Z aB) p1.aFt _ z34)) (iW [2,60] hY ?_)))))))))))))
  refine dN ?_;exact gE 0
 refine gQ 5 ?_;refine bG H (fun h36 H=>?_) (fun h36 H=>?_)
 ·refine qS (bN H fun x38 z37 H=>(bN H fun x40 z39 H=>(bN H fun x42 z41 H=>(dW (dI [] (bJ func239 (cD fu JL _ z37)) (dI [1] bW (dD [64] eG (dI [65] (bJ func239 (cD fu p1.aFs _ z39)) (dE [63,66] (sM ([x38,x40]:Z aB)) (dI [1] bW (dB [68] 0 1 tP (dE [67,69] (fO [] [0] func256 (p7 ([x38,x40]:Z aB) p1.aFt _ z41)) (iW [2,70] hY ?_)))))))))))))
  refine dN ?_;exact gE 0
 refine gQ 5 ?_;refine bG H (fun h43 H=>?_) (fun h43 H=>?_)
 ·refine qS (bN H fun x45 z44 H=>(bN H fun x47 z46 H=>(dW (dI [] (bJ func239 (cD fu IQ _ z44)) (dE [73] (sM ([x45]:Z aB)) (dI [1] bW (dB [75] 0 1 tP (dE [74,76] (fO [] [0] func256 (p7 ([x45]:Z aB) p1.aFt _ z46)) (iW [2,77] hY (dN ?_))))))))))
  exact gE 0
 refine gQ 5 ?_;refine bG H (fun h48 H=>?_) (fun h48 H=>?_)
 ·refine qS (bN H fun x50 z49 H=>(bN H fun x52 z51 H=>(dW (dI [1] bW (dD [80] eG (dI [81] (bJ func239 (cD fu p1.aFs _ z49)) (dE [82] (sM ([x50]:Z aB)) (dI [1] bW (dB [84] 0 1 tP (dE [83,85] (fO [] [0] func256 (p7 ([x50]:Z aB) p1.aFt _ z51)) (iW [2,86] hY (dN ?_))))))))))))
  exact gE 0
 refine gQ 5 ?_;refine bG H (fun h53 H=>?_) (fun h53 H=>?_)
 ·refine qS (bN H fun x55 z54 H=>(bN H fun x57 z56 H=>(bN H fun x59 z58 H=>(dW (dI [] (bJ func239 (cD fu BD _ z54)) (dI [1] bW (dD [90] eG (dI [91] (bJ func239 (cD fu p1.aFz _ z56)) (dE [89,92] (sM ([x55,x57]:Z aB)) (dI [1] bW (dB [94] 0 1 tP (dE [93,95] (fO [] [0] func256 (p7 ([x55,x57]:Z aB) p1.aFt _ z58)) (iW [2,96] hY ?_)))))))))))))
  refine dN ?_;exact gE 0
 refine gQ 5 ?_;refine bG H (fun h60 H=>?_) (fun h60 H=>?_)
 ·refine qS (bN H fun x62 z61 H=>(bN H fun x64 z63 H=>(bN H fun x66 z65 H=>(dW (dI [] (bJ func239 (cD fu aeL _ z61)) (dI [1] bW (dD [100] (b4 [pI p1.aFu.aFw,pS p1.aFu.aFs,aV p1.aFu.aFt]) (dI [101] (bJ func242 (AP fu p1.aFu _ z63)) (dE [99,102] (sM ([x62,x64]:Z aB)) (dI [1] bW (dB [104] 0 1 tP (dE [103,105] (fO [] [0] func256 (p7 ([x62,x64]:Z aB) p1.aFt _ z65)) (iW [2,106] hY ?_)))))))))))))
  refine dN ?_;exact gE 0
 refine gQ 2 ?_;refine bN H fun x68 z67 H=>(bN H fun x70 z69 H=>(dWa (dI [] (bJ func239 (cD fu BC _ z67)) ?_)))
 refine dEz [107] (fun _ z=>by cases z<;>exact rBa ([x68]:Z aB) EB.h aeW.h) ?_;refine dI [1] bW (dBz [109] 0 1 tP ?_)
 refine dEz [108,110] (fun _ z=>by cases z<;>exact fO [] [0] func256 (p7 ([x68]:Z aB) p1.aFt _ z69)) ?_;refine dA (fun _ st h=>vAl h aeW.h) (dZ 3 [3,111] hY (dN ?_))
 refine gQ 5 ?_;refine dR.fact (cP 0 8 rfl rfl rfl (cC.tl _)) (fun hl74=>?_)
 refine bV (σ:=(Z aB)) (fun i71 v73=>⟨[(1,.ptr 0 0),(2,.ptr 1 0),(3,.ptr 2 0),(4,pN i71)],⟨[some ⟨211,kH p1⟩,some ⟨189,[pS s_,.nil]⟩,some ⟨189,[pS x70.aFy,eW v73 0]⟩],[⟨189,2,aB.trs (v73),false⟩]⟩⟩) (fun v73=>⟨[(2,.ptr 1 0),(3,.ptr 2 0)],⟨[some ⟨211,kH p1⟩,some ⟨189,[pS s_,.nil]⟩,some ⟨189,[pS x70.aFy,eW v73 0]⟩],[⟨189,2,aB.trs (v73),false⟩]⟩⟩) (fA H) ?_ ?_
 ·rintro i71 v73 H
  refine gQ 9 ?_;refine cZ H (fun h75 h75l H=>?_) (fun h75 H=>?_)
  ·refine gQ 8 ?_;refine gM H fun y76 h77 H=>(q1 (AR h77 h75l) (q1 (gZ (cC.cs y76)) ?_))
   refine gQ 4 ?_;refine bN H fun x79 z78 H=>(bN H fun x81 z80 H=>(cB H fun z82 H=>(dW (dI [5] bW (dD [124] eG (dI [125] (bJ func239 (cD fu y76.aFU _ z78)) (dE [126] (sM ([x79]:Z aB)) (dI [5] bW (dB [128] 0 1 tP (dI [129] (bJ func254 (V7 fu y76.aFH _ z80)) (dE [127,130] (lO z82) (dI [131] bI (dN ?_)))))))))))))
   refine bN H fun x84 z83 H=>(cB H fun z85 H=>(cB H fun z86 H=>(dW (dI [3] bW (dB [132] 0 1 tP (dI [6] bI (dI [5] bW (dD [135] (b4 [pI y76.aFE.aFw,pS y76.aFE.aFz,pS y76.aFE.aFs,pI y76.aFE.aGa,pI y76.aFE.aFu.aFw,pS y76.aFE.aFu.aFs,aV y76.aFE.aFu.aFt,jV y76.aFE.aFt,tX y76.aFE.aFP]) (dI [136] (bJ func243 (pE y76.aFE _ z83)) (dI [137] (iL ([x84]:Z aB)) (dE [134,138] (lO z85) (dI [139] rQ (dI [140] (iL ([(aB.mk s_ ((([x79]:Z aB)++x81)++([x84]:Z aB)))]:Z aB)) ?_)))))))))))))
   refine dE [133,141] (lO z86) (dI [3] bW (iW [143,142] hY (dN ?_)))
   exact gE 5
  exact gE 0
 rintro v73 H
 refine gQ 2 ?_;refine q1 (b4 [pS x70.aFy,eW v73 0]) ?_;exact gE 2
def akQ(fu:Nat)(p8:uM)(p2:o6)(pA:Z aB)(p6:Z aM):Nat→((Z aB))→J (LR ((Z aB)) aB):=fun i1 v3=>lt (aR p6 i1) fun y6=>bd (p8 y6) fun x9=>gd ((v3).length+(([x9]:Z aB)).length≤68719476736) (some (.next (v3++([x9]:Z aB))))
def PU(fu:Nat)(p8:uM)(p2:o6)(pA:Z aB)(p6:Z aM):J aB:=so (loopN (akQ fu p8 p2 pA p6) (p6.length-0) 0 pA) fun v3=>some (aB.mk s_ v3)
theorem ac4(fu:Nat)(p8:uM)(p2:o6)(pE:K6 p8)(p7:IV p2):IV (PU fu p8 p2):=by
 intro pA p6 r H
 refine qJ func256 H (fun C hC H=>?_)
 refine gQ 16 ?_;refine gV 1 (aM.tl _) (fun hl4=>?_)
 refine bV (σ:=(Z aB)) (fun i1 v3=>⟨[(1,jV p6),(4,.ptr 0 0),(5,.ptr 1 0),(6,pN i1)],⟨[some ⟨189,[pS s_,.nil]⟩,some ⟨189,[pS s_,eW v3 0]⟩],[⟨189,2,aB.trs (v3),false⟩]⟩⟩) (fun v3=>⟨[(4,.ptr 0 0),(5,.ptr 1 0)],⟨[some ⟨189,[pS s_,.nil]⟩,some ⟨189,[pS s_,eW v3 0]⟩],[⟨189,2,aB.trs (v3),false⟩]⟩⟩) (fA H) ?_ ?_
 ·rintro i1 v3 H
  refine gQ 8 ?_;refine cZ H (fun h5 h5l H=>?_) (fun h5 H=>?_)
  ·refine gQ 3 ?_;refine gM H fun y6 h7 H=>(bN H fun x9 z8 H=>(cB H fun z10 H=>(dW (dI [5] bW (dD [15] eG (dI [1] bI (dI [6] bI (dI [17,18] (AR h7 h5l) (dI [19] (gZ (aM.cs y6)) (dI [20] (bJ func243 (pE y6 _ z8)) (dI [21] (iL ([x9]:Z aB)) (dE [16,22] (lO z10) (dI [5] bW ?_)))))))))))))
   refine iW [24,23] hY (dN ?_)
   exact gE 5
  exact gE 0
 rintro v3 H
 refine gQ 2 ?_;refine q1 (b4 [pS s_,eW v3 0]) ?_;exact gE 2
mutual
def oO:Nat→aM→J aB
 |0,_=>none
 |fu+1,p1=>aaX fu (oO fu) (rL fu) p1
def rL:Nat→(Z aB)→(Z aM)→J aB
 |0,_,_=>none
 |fu+1,pA,p6=>PU fu (oO fu) (rL fu) pA p6
end
theorem anW(fu:Nat):K6 (oO fu)∧IV (rL fu):=by
 induction fu with
 |zero=>exact⟨(fun p1 r H=>by simp only [oO] at H;cases H),(fun pA p6 r H=>by simp only [rL] at H;cases H)⟩
 |succ fu ih=>exact⟨(fun p1 r H=>by simp only [oO] at H;exact akU fu (oO fu) (rL fu) ih.1 ih.2 p1 r H),(fun pA p6 r H=>by simp only [rL] at H;exact ac4 fu (oO fu) (rL fu) ih.1 ih.2 pA p6 r H)⟩
theorem UZ(fu:Nat):K6 (oO fu):=(anW fu).1
end
end Go.Proofs.YtfcoaagbccmahaaGreat.W
