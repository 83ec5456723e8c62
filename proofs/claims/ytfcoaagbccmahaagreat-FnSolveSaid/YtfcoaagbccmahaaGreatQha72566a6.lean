/- Words, rules and walks of several kinds, laid together. No conditions but those that each theorem states. -/
import Derived.Test.YtfcoaagbccmahaaGreatQh515f2cf8
set_option linter.unusedSimpArgs false
set_option linter.unusedVariables false
namespace Go.Proofs.YtfcoaagbccmahaaGreat.W
set_option maxRecDepth 100000
set_option maxHeartbeats 40000000
noncomputable section
open Tryz Go.RowKit Go.Proofs
attribute [local irreducible] lt
def abV(fu:Nat)(p3:LB)(ps:Y):Nat→Unit→J (LR Unit Bool):=fun i1 _=>sw (decide (aR p3 i1=ps)) (some (.ret true)) (some (.next ()))
def lS(fu:Nat)(p3:LB)(ps:Y):J Bool:=so (loopN (abV fu p3 ps) (p3.length-0) 0 ()) fun _=>some false
theorem mW(fu:Nat)(p3:LB)(ps:Y)(r:Bool)(H:lS fu p3 ps=some r):bS prog 153 [rS p3,pS ps] (pB r):=by
 refine qJ func153 H (fun C hC H=>?_)
 refine gQ 9 ?_;refine gM 0 (b0 _) (fun hl2=>?_)
 refine bV (σ:=Unit) (fun i1 _=>⟨[(0,rS p3),(1,pS ps),(4,pB false),(5,pN i1)],⟨[],[]⟩⟩) (fun _=>⟨[(4,pB false)],⟨[],[]⟩⟩) (eX H) ?_ ?_
 ·rintro i1 ⟨⟩ H
  refine gQ 8 ?_;refine c5 H (fun h3 h3l H=>?_) (fun h3 H=>?_)
  ·refine gQ 12 ?_;refine bE H (fun h4 H=>gE 4) fun h4 H=>?_;exact gE 6
  exact gE 0
 rintro⟨⟩ H
 exact gE 4
def yF(fu:Nat)(ps:Y):J Bool:=bd (lS fu ([eY,eQ,jV,AR,GZ,H9,AE,IA,q7,AF,rQ,mM]:LB) ps) fun x2=>some x2
theorem XT(fu:Nat)(ps:Y)(r:Bool)(H:yF fu ps=some r):bS prog 227 [pS ps] (pB r):=by
 refine qJ func227 H (fun C hC H=>?_)
 refine gQ 6 ?_;refine q1 (iQ ([eY,eQ,jV,AR,GZ,H9,AE,IA,q7,AF,rQ,mM]:LB)) (q1 bG (bM H fun x2 z1 H=>(q1 (bI func153 (mW fu ([eY,eQ,jV,AR,GZ,H9,AE,IA,q7,AF,rQ,mM]:LB) ps _ z1)) ?_)))
 exact gE 2
def U5(fu:Nat)(ps:Y)(x2 x5:Bool):Nat→Unit→J (LR Unit Bool):=fun i7 _=>gd (i7<(ps).size) (sw (decide ((((wG ps i7).toNat:Int):Int)≥97)) (sw (!(decide ((((wG ps i7).toNat:Int):Int)≤122))) (sw (decide ((i7:Int)=0)) (some (.ret false)) (sw (decide ((((wG ps i7).toNat:Int):Int)<48)) (some (.ret false)) (sw (decide ((((wG ps i7).toNat:Int):Int)>57)) (some (.ret false)) (some (.next ()))))) (some (.next ()))) (sw (decide ((i7:Int)=0)) (some (.ret false)) (sw (decide ((((wG ps i7).toNat:Int):Int)<48)) (some (.ret false)) (sw (decide ((((wG ps i7).toNat:Int):Int)>57)) (some (.ret false)) (some (.next ()))))))
def dM(fu:Nat)(ps:Y):J Bool:=bd (BA fu (ps.size:Int) 1 8) fun x2=>sw (!(x2)) (some false) (bd (yF fu ps) fun x5=>sw x5 (some false) (so (loopN (U5 fu ps x2 x5) (ps.size-0) 0 ()) fun _=>some true))
theorem eN(fu:Nat)(ps:Y)(r:Bool)(H:dM fu ps=some r):bS prog 205 [pS ps] (pB r):=by
 refine qJ func205 H (fun C hC H=>?_)
 refine gQ 8 ?_;refine q1 (bC.lenS rfl rfl rfl underlying9) (bM H fun x2 z1 H=>(q1 (bI func64 (F0 fu (ps.size:Int) 1 8 _ z1)) ?_))
 refine gQ 2 ?_;refine dK 9 H (fun g3 H=>gE 9) fun g3 H=>?_;refine qg g3 bG (bM H fun x5 z4 H=>(qg g3 (bI func227 (XT fu ps _ z4)) ?_))
 refine gQ 2 ?_;refine bE H (fun h6 H=>gE 4) fun h6 H=>?_;refine gQ 6 ?_;refine szF 0 (fun hl8=>?_)
 refine bV (σ:=Unit) (fun i7 _=>⟨[(0,pS ps),(2,pB false),(3,pN i7)],⟨[],[]⟩⟩) (fun _=>⟨[(2,pB false)],⟨[],[]⟩⟩) (eX H) ?_ ?_
 ·rintro i7 ⟨⟩ H
  refine gQ 5 ?_;refine q1 (bC.lenS rfl rfl rfl underlying9) ?_;refine gQ 2 ?_;refine c5 H (fun h9 h9l H=>?_) (fun h9 H=>?_)
  ·have h9n:i7<ps.size:=by have:=of_decide_eq_true h9;omega
   refine gQ 7 ?_;refine cK H fun z10 H=>(q1 (bC.indexS (k:=i7) rfl rfl rfl rfl z10 underlying9) ?_)
   refine gQ 2 ?_;refine dK 23 H (fun g11 H=>?_) fun g11 H=>?_
   ·refine gQ 2 ?_;refine qg g11 (bC.indexS (k:=i7) rfl rfl rfl rfl z10 underlying9) ?_;refine gQ 9 ?_;refine dK 31 H (fun g12 H=>?_) fun g12 H=>?_
    ·refine gQ 3 ?_;refine dK 34 H (fun g13 H=>gE 18) fun g13 H=>?_;refine gQ 2 ?_;refine qg g13 (bC.indexS (k:=i7) rfl rfl rfl rfl z10 underlying9) ?_;refine gQ 3 ?_;refine dK 40 H (fun g14 H=>gE 12) fun g14 H=>?_;refine gQ 2 ?_;refine qg g14 (bC.indexS (k:=i7) rfl rfl rfl rfl z10 underlying9) ?_;refine gQ 4 ?_;refine bE H (fun h15 H=>gE 4) fun h15 H=>?_;exact gE 6
    exact gE 23
   refine gQ 12 ?_;refine qg (congrArg (fun b=> !b) (rfl:false=false)) bG (qg (congrArg (fun b=> !b) (rfl:false=false)) rEq (qg (congrArg (fun b=> !b) (rfl:false=false)) bG ?_))
   refine dK 34 H (fun g16 H=>?_) fun g16 H=>?_
   ·refine gQ 4 ?_;refine qg (congrArg (fun b=> !b) (rfl:false=false)) (DB g16) (qg (congrArg (fun b=> !b) (rfl:false=false)) bG ?_)
    refine gQ 4 ?_;refine qg (congrArg (fun b=> !b) (rfl:false=false)) (DB rfl) (q1 (DB (congrArg (fun b=> !b) (rfl:false=false))) ?_)
    exact gE 6
   refine gQ 2 ?_;refine qg g16 (bC.indexS (k:=i7) rfl rfl rfl rfl z10 underlying9) (qg g16 rLt (qg (congrArg (fun b=> !b) (rfl:false=false)) (EQ g16) (qg (congrArg (fun b=> !b) (rfl:false=false)) bG ?_)))
   refine dK 40 H (fun g17 H=>?_) fun g17 H=>?_
   ·refine gQ 4 ?_;refine qg (congrArg (fun b=> !b) (rfl:false=false)) (DB g17) (q1 (DB (congrArg (fun b=> !b) (rfl:false=false))) ?_)
    exact gE 6
   refine gQ 2 ?_;refine qg g17 (bC.indexS (k:=i7) rfl rfl rfl rfl z10 underlying9) (qg g17 rGt (qg (congrArg (fun b=> !b) (rfl:false=false)) (EQ g17) (q1 (DB (congrArg (fun b=> !b) (rfl:false=false))) (qN ?_))))
   refine bE H (fun h18 H=>gE 4) fun h18 H=>?_;exact gE 6
  exact gE 0
 rintro⟨⟩ H
 exact gE 4
def aiF(fu:Nat)(p3:LB):Nat→Unit→J (LR Unit Bool):=fun i1 _=>bd (dM fu (aR p3 i1)) fun x5=>sw (!(x5)) (some (.ret false)) (some (.next ()))
def HQ(fu:Nat)(p3:LB):J Bool:=so (loopN (aiF fu p3) (p3.length-0) 0 ()) fun _=>some true
theorem UE(fu:Nat)(p3:LB)(r:Bool)(H:HQ fu p3=some r):bS prog 228 [rS p3] (pB r):=by
 refine qJ func228 H (fun C hC H=>?_)
 refine gQ 9 ?_;refine gM 0 (b0 _) (fun hl2=>?_)
 refine bV (σ:=Unit) (fun i1 _=>⟨[(0,rS p3),(2,pB false),(3,pN i1)],⟨[],[]⟩⟩) (fun _=>⟨[(2,pB false)],⟨[],[]⟩⟩) (eX H) ?_ ?_
 ·rintro i1 ⟨⟩ H
  refine gQ 8 ?_;refine c5 H (fun h3 h3l H=>?_) (fun h3 H=>?_)
  ·refine gQ 9 ?_;refine bM H fun x5 z4 H=>(q1 (bI func205 (eN fu (aR p3 i1) _ z4)) ?_)
   refine gQ 2 ?_;refine bE H (fun h6 H=>gE 4) fun h6 H=>?_;exact gE 6
  exact gE 0
 rintro⟨⟩ H
 exact gE 4
def UX(fu:Nat)(p3:LB):Nat→Unit→J (LR Unit Bool):=fun i1 _=>gd ((0:Int)≤0∧(0:Int)≤(i1:Int)∧(i1:Int)≤(p3.length:Int)) (bd (lS fu (List.drop (0:Int).toNat (List.take (i1:Int).toNat p3)) (aR p3 i1)) fun x6=>sw x6 (some (.ret false)) (some (.next ())))
def lH(fu:Nat)(p3:LB):J Bool:=so (loopN (UX fu p3) (p3.length-0) 0 ()) fun _=>some true
theorem mT(fu:Nat)(p3:LB)(r:Bool)(H:lH fu p3=some r):bS prog 207 [rS p3] (pB r):=by
 refine qJ func207 H (fun C hC H=>?_)
 refine gQ 9 ?_;refine gM 0 (b0 _) (fun hl2=>?_)
 refine bV (σ:=Unit) (fun i1 _=>⟨[(0,rS p3),(2,pB false),(3,pN i1)],⟨[],[]⟩⟩) (fun _=>⟨[(2,pB false)],⟨[],[]⟩⟩) (eX H) ?_ ?_
 ·rintro i1 ⟨⟩ H
  refine gQ 8 ?_;refine c5 H (fun h3 h3l H=>?_) (fun h3 H=>?_)
  ·refine gQ 4 ?_;refine cK H fun z4 H=>(bM H fun x6 z5 H=>(dW (dI [0] bG (dI [3] bG ?_))))
   refine dI [10,11] (bC.congrP (bC.sliceR (es:=aY (p3)) (l:=0) (k:=(i1:Int)) rfl rfl rfl rfl rfl (by rw [b0];exact rfl) (by rw [b0];exact z4) ZI.h) (aiR _ _ _)) ?_;refine dI [0] bG (dI [3] bG (dI [13,14] rB (dI [15] yB (dI [12,16] (bI func153 (mW fu (List.drop (0:Int).toNat (List.take (i1:Int).toNat p3)) (aR p3 i1) _ z5)) (dN ?_)))))
   refine bE H (fun h7 H=>gE 4) fun h7 H=>?_;exact gE 6
  exact gE 0
 rintro⟨⟩ H
 exact gE 4
def aiK(m:Y→J aA):Prop:= ∀(ps:Y) (r:aA),m ps=some r→BO prog 137 [pS ps] ⟨[],[]⟩ [] 30 3 (aA.trs (r.aD5)) (fun k=> .agg [pI r.aD8,pS r.aD4,iY r.aD5 k])
theorem lO{m:Y→J aA}(h:aiK m)(ps:Y)(r:aA)(H:m ps=some r):bS prog 137 [pS ps] ((aA.pv r):PV):=(h ps r H).plain (fun _=>kA) (hp:=adB)
def nN(fu:Nat)(ps:Y):J aA:=some (aA.mk 1 ps [])
theorem kX(fu:Nat):aiK (nN fu):=by
 intro ps r H
 unfold BO
 refine qJ func137 H (fun C hC H=>?_)
 refine gQ 10 ?_;refine c7.wk (Wk.regBox (k:=0) (j:=2) 30 3 (by decide) rfl rfl) (c7.ret ?_)
 obtain rfl:_=r:=(wL H:)
 exact XH (st':=⟨[],[⟨30,3,aA.trs ([]),false⟩]⟩) ⟨0,rfl,rfl,rfl⟩ (hr:=⟨⟨_,_,_,rfl,rfl,L7.h,rfl,rfl⟩,trivial⟩)
def aiG(m:Y→(Z aA)→J aA):Prop:= ∀(ps:Y) (pE:Z aA) (r:aA),m ps pE=some r→BO prog 47 [pS ps,aT pE] ⟨[],[]⟩ [] 30 3 (aA.trs (r.aD5)) (fun k=> .agg [pI r.aD8,pS r.aD4,iY r.aD5 k])
theorem vC{m:Y→(Z aA)→J aA}(h:aiG m)(ps:Y)(pE:Z aA)(r:aA)(H:m ps pE=some r):bS prog 47 [pS ps,aT pE] ((aA.pv r):PV):=(h ps pE r H).plain (fun _=>kA) (hp:=adB)
def gW(fu:Nat)(ps:Y)(pE:Z aA):J aA:=gd (([]:Z aA).length+(pE).length≤68719476736) (some (aA.mk 2 ps (([])++pE)))
theorem jJ(fu:Nat):aiG (gW fu):=by
 intro ps pE r H
 unfold BO
 refine qJ func47 H (fun C hC H=>?_)
 refine gQ 7 ?_;refine q1 (sA ([]:Z aA)) (q1 bG (cK H fun z1 H=>(q1 (mA z1) ?_)))
 refine gQ 3 ?_;refine c7.ret ?_
 obtain rfl:_=r:=(wL H:)
 exact XH (st':=⟨[],[⟨30,3,aA.trs (([])++pE),false⟩]⟩) ⟨0,rfl,rfl,rfl⟩ (hr:=⟨⟨_,_,_,rfl,rfl,L7.h,rfl,rfl⟩,trivial⟩)
abbrev K9:=aB→Option aA
def VR(m:K9):Prop:= ∀(p1:aB) (r:aA),m p1=some r→bS prog 219 [(aB.pv p1)] ((aA.pv r):PV)
def aq2(fu:Nat)(pG:K9)(p1:aB):Nat→((Z aA))→J (LR ((Z aA)) aA):=fun i11 v13=>bd (pG (aR p1.aD7 i11)) fun x17=>gd ((v13).length+(([x17]:Z aA)).length≤68719476736) (some (.next (v13++([x17]:Z aA))))
def aeY(fu:Nat)(pG:K9)(p1:aB):J aA:=sw (!decide (p1.aEa=s_)) (gd (0<(p1.aEa).size) (sw (decide ((((wG p1.aEa 0).toNat:Int):Int)=39)) (gd ((0:Int)≤1∧(1:Int)≤(p1.aEa.size:Int)∧(p1.aEa.size:Int)≤(p1.aEa.size:Int)) (bd (nN fu (p1.aEa.extract (1:Int).toNat (p1.aEa.size:Int).toNat)) fun x6=>some x6)) (bd (gW fu p1.aEa ([])) fun x8=>some x8))) (sw (decide ((p1.aD7.length:Int)<2)) (some (aA.mk 0 s_ [])) (gd (0<(p1.aD7).length) (so (loopN (aq2 fu pG p1) (p1.aD7.length-1) 1 ([])) fun v13=>sw (decide ((aR p1.aD7 0).aEa=jV)) (sw (decide ((v13.length:Int)=2)) (gd (1<(p1.aD7).length) (sw (!decide ((aR p1.aD7 1).aEa=s_)) (gd ((0:Int)≤1∧(1:Int)≤(v13.length:Int)∧(v13.length:Int)≤(v13.length:Int)) (some (aA.mk 3 ((aR p1.aD7 1).aEa) (List.drop (1:Int).toNat (List.take (v13.length:Int).toNat v13))))) (sw (decide ((aR p1.aD7 0).aEa=AR)) (some (aA.mk 2 ((aR p1.aD7 0).aEa) v13)) (some (aA.mk 2 ((aR p1.aD7 0).aEa) v13))))) (sw (decide ((aR p1.aD7 0).aEa=AR)) (sw (decide ((v13.length:Int)=1)) (gd (1<(p1.aD7).length) (sw (!decide ((aR p1.aD7 1).aEa=s_)) (some (aA.mk 4 ((aR p1.aD7 1).aEa) [])) (some (aA.mk 2 ((aR p1.aD7 0).aEa) v13)))) (some (aA.mk 2 ((aR p1.aD7 0).aEa) v13))) (some (aA.mk 2 ((aR p1.aD7 0).aEa) v13)))) (sw (decide ((aR p1.aD7 0).aEa=AR)) (sw (decide ((v13.length:Int)=1)) (gd (1<(p1.aD7).length) (sw (!decide ((aR p1.aD7 1).aEa=s_)) (some (aA.mk 4 ((aR p1.aD7 1).aEa) [])) (some (aA.mk 2 ((aR p1.aD7 0).aEa) v13)))) (some (aA.mk 2 ((aR p1.aD7 0).aEa) v13))) (some (aA.mk 2 ((aR p1.aD7 0).aEa) v13))))))
theorem alK(fu:Nat)(pG:K9)(pQ:VR pG):VR (aeY fu pG):=by
 intro p1 r H
 refine qJ func219 H (fun C hC H=>?_)
 refine gQ 2 ?_;refine q1 (fN ([pS p1.aEa,bJ p1.aD7])) ?_;refine gQ 9 ?_;refine bE H (fun h1 H=>?_) (fun h1 H=>?_)
 ·refine gQ 5 ?_;refine cK H fun z2 H=>(q1 (bC.indexS (k:=0) rfl rfl rfl rfl z2 underlying9) ?_)
  refine gQ 2 ?_;refine bE H (fun h3 H=>?_) (fun h3 H=>?_)
  ·refine gQ 4 ?_;refine cK H fun z4 H=>(q1 (bC.sliceS (l:=1) (k:=(p1.aEa.size:Int)) rfl rfl rfl rfl rfl z4 underlying9) (bM H fun x6 z5 H=>(q1 (bI func137 (lO (kX fu) (p1.aEa.extract (1:Int).toNat (p1.aEa.size:Int).toNat) _ z5)) ?_)))
   exact gE 2
  refine gQ 5 ?_;refine bM H fun x8 z7 H=>(q1 (bI func47 (vC (jJ fu) p1.aEa ([]) _ z7)) ?_)
  exact gE 2
 refine gQ 9 ?_;refine bE H (fun h9 H=>?_) (fun h9 H=>?_)
 ·have h9n:p1.aD7.length<2:=by have:=of_decide_eq_true h9;omega
  exact gE 5
 refine gQ 5 ?_;refine cK H fun z10 H=>?_;refine gQ 7 ?_;refine q1 (sA ([]:Z aA)) ?_;refine gQ 7 ?_;refine gM 21 (aB.trs_len _) (fun hl14=>?_)
 refine bV (σ:=(Z aA)) (fun i11 v13=>⟨[(1,.ptr 0 0),(2,.ptr 1 0),(3,pS ((aR p1.aD7 0).aEa)),(4,iY v13 0),(5,pN i11)],⟨[some ⟨189,[pS p1.aEa,bJ p1.aD7]⟩,some ⟨30,[pI 0,pS s_,.nil]⟩],[⟨30,3,aA.trs (v13),false⟩]⟩⟩) (fun v13=>⟨[(1,.ptr 0 0),(2,.ptr 1 0),(3,pS ((aR p1.aD7 0).aEa)),(4,iY v13 0)],⟨[some ⟨189,[pS p1.aEa,bJ p1.aD7]⟩,some ⟨30,[pI 0,pS s_,.nil]⟩],[⟨30,3,aA.trs (v13),false⟩]⟩⟩) (eX H) ?_ ?_
 ·rintro i11 v13 H
  refine gQ 9 ?_;refine c5 H (fun h15 h15l H=>?_) (fun h15 H=>?_)
  ·refine gQ 9 ?_;refine q1 (iR (aB.cs (aR p1.aD7 i11))) (bM H fun x17 z16 H=>(q1 (bI func219 (pQ (aR p1.aD7 i11) _ z16)) (q1 (iQ ([x17]:Z aA)) (cK H fun z18 H=>(q1 (mA z18) ?_)))))
   exact gE 7
  exact gE 0
 rintro v13 H
 refine gQ 7 ?_;refine dK 50 H (fun g19 H=>?_) fun g19 H=>?_
 ·refine gQ 5 ?_;refine dK 55 H (fun g20 H=>?_) fun g20 H=>?_
  ·refine gQ 2 ?_;refine cK H fun z21 H=>?_;refine gQ 7 ?_;refine bE H (fun h22 H=>?_) (fun h22 H=>?_)
   ·refine qS (cK H fun z23 H=>(dW (dI [1] bY (dD [63] eI (dI [64] rB (dI [65] zL (dI [66] yB (dI [4] bG ?_))))))))
    refine dI [68] (bC.congrP (bC.sliceR (es:=aA.trs (v13)) (l:=1) (k:=(v13.length:Int)) rfl rfl rfl rfl rfl (by rw [aA.trs_len];exact rfl) (by rw [aA.trs_len];exact z23) apU.h) (aA.trs_part _ _ _)) ?_;refine dI [67,69] rR (mK [2,70] lT (dN ?_))
    exact gE 0
   refine gQ 5 ?_;refine dK 74 H (fun g24 H=>?_) fun g24 H=>?_
   ·refine gQ 5 ?_
    iterate 6 refine qk (dne (b:=1) g20 (by decide)) ?_
    refine q1 (EQ (dne (b:=1) g20 (by decide))) ?_;exact gE 11
   exact gE 23
  refine gQ 15 ?_;refine dK 74 H (fun g25 H=>?_) fun g25 H=>?_
  ·refine gQ 5 ?_;refine dK 79 H (fun g26 H=>?_) fun g26 H=>?_
   ·refine gQ 2 ?_;refine cK H fun z27 H=>?_;refine gQ 7 ?_;refine bE H (fun h28 H=>gE 10) fun h28 H=>?_;exact gE 8
   exact gE 18
  exact gE 23
 refine gQ 20 ?_;refine dK 74 H (fun g29 H=>?_) fun g29 H=>?_
 ·refine gQ 5 ?_;refine dK 79 H (fun g30 H=>?_) fun g30 H=>?_
  ·refine gQ 2 ?_;refine cK H fun z31 H=>?_;refine gQ 7 ?_;refine bE H (fun h32 H=>gE 10) fun h32 H=>?_;exact gE 8
  exact gE 18
 exact gE 23
def nP:Nat→aB→J aA
 |0,_=>none
 |fu+1,p1=>aeY fu (nP fu) p1
theorem aoW(fu:Nat):VR (nP fu):=by
 induction fu with
 |zero=>exact(fun p1 r H=>by simp only [nP] at H;cases H)
 |succ fu ih=>exact(fun p1 r H=>by simp only [nP] at H;exact alK fu (nP fu) ih p1 r H)
theorem zK(fu:Nat):VR (nP fu):=(aoW fu)
abbrev EB:=aA→Option aB
def VQ(m:EB):Prop:= ∀(p1:aA) (r:aB),m p1=some r→bS prog 242 [(aA.pv p1)] ((aB.pv r):PV)
def aqY(fu:Nat)(p9:EB)(p1:aA):J (aB⊕Unit):=sw (decide (p1.aD8=1)) (gd ((ao4).size+(p1.aD4).size≤1099511627776) (bd (cI fu (ao4++p1.aD4)) fun x4=>some (.inl x4))) (sw (decide (p1.aD8=4)) (bd (cI fu AR) fun x7=>bd (cI fu p1.aD4) fun x9=>bd (mX fu ([x7,x9]:Z aB)) fun x11=>some (.inl x11)) (sw (decide (p1.aD8=2)) (sw (decide ((p1.aD5.length:Int)=0)) (bd (cI fu p1.aD4) fun x15=>some (.inl x15)) (some (.inr ()))) (some (.inr ()))))
def aqZ(fu:Nat)(p9:EB)(p1:aA):J (aB⊕((Z aB))):=sw (decide (p1.aD8=3)) (bd (cI fu jV) fun x20=>gd (([]:Z aB).length+(([x20]:Z aB)).length≤68719476736) (some (.inr (([])++([x20]:Z aB))))) (some (.inr ([])))
def aq0(fu:Nat)(p9:EB)(p1:aA)(v17:Z aB)(x23:aB):Nat→((Z aB))→J (LR ((Z aB)) aB):=fun i25 v27=>bd (p9 (aR p1.aD5 i25)) fun x31=>gd ((v27).length+(([x31]:Z aB)).length≤68719476736) (some (.next (v27++([x31]:Z aB))))
def aeX(fu:Nat)(p9:EB)(p1:aA):J aB:=so (aqY fu p9 p1) fun _=>so (aqZ fu p9 p1) fun v17=>bd (cI fu p1.aD4) fun x23=>gd ((v17).length+(([x23]:Z aB)).length≤68719476736) (so (loopN (aq0 fu p9 p1 v17 x23) (p1.aD5.length-0) 0 (v17++([x23]:Z aB))) fun v27=>some (aB.mk s_ v27))
theorem alJ(fu:Nat)(p9:EB)(pR:VQ p9):VQ (aeX fu p9):=by
 intro p1 r H
 refine qJ func242 H (fun C hC H=>?_)
 refine gQ 2 ?_;refine q1 (fN (b7 p1)) ?_;refine gQ 3 ?_;refine oT (σ:=Unit) (fun _=>⟨[(1,.ptr 0 0),(2,.ptr 1 0)],⟨[some ⟨30,b7 p1⟩,some ⟨189,[pS s_,.nil]⟩],[]⟩⟩) (eX H) (fun H=>?_) ?_
 ·refine gQ 8 ?_;refine bE H (fun h1 H=>?_) (fun h1 H=>?_)
  ·refine gQ 4 ?_;refine cK H fun z2 H=>(q1 (bC.addS rfl rfl rfl rfl (Nat.le_trans z2 (by decide))) (bM H fun x4 z3 H=>(q1 (bI func239 (b8 fu (ao4++p1.aD4) _ z3)) ?_)))
   exact gE 2
  refine gQ 7 ?_;refine bE H (fun h5 H=>?_) (fun h5 H=>?_)
  ·refine qS (bM H fun x7 z6 H=>(bM H fun x9 z8 H=>(bM H fun x11 z10 H=>(dW (dI [] (bI func239 (b8 fu AR _ z6)) (dI [1] bY (dD [18] eI (dI [19] (bI func239 (b8 fu p1.aD4 _ z8)) (dI [17,20] (iQ ([x7,x9]:Z aB)) (dI [21] (bI func238 (HK (nX fu) ([x7,x9]:Z aB) _ z10)) (mK [2,22] lT (dN ?_))))))))))))
   exact gE 0
  refine gQ 6 ?_;refine dK 27 H (fun g12 H=>?_) fun g12 H=>?_
  ·refine gQ 7 ?_;refine bE H (fun h13 H=>?_) (fun h13 H=>?_)
   ·refine gQ 4 ?_;refine bM H fun x15 z14 H=>(q1 (bI func239 (b8 fu p1.aD4 _ z14)) ?_)
    exact gE 2
   exact gE 1
  exact gE 9
 rintro⟨⟩ H
 refine gQ 7 ?_;refine c7.wk (Wk.regBox (k:=2) (j:=1) 189 2 (by decide) rfl rfl) ?_;refine oT (σ:=(Z aB)) (fun v17=>⟨[(1,.ptr 0 0),(2,.ptr 1 0),(3,.ptr 2 0)],⟨[some ⟨30,b7 p1⟩,some ⟨189,[pS s_,.nil]⟩,some ⟨189,[pS s_,eS v17 0]⟩],[⟨189,2,aB.trs (v17),false⟩]⟩⟩) (eX H) (fun H=>?_) ?_
 ·refine gQ 6 ?_;refine bE H (fun h18 H=>?_) (fun h18 H=>?_)
  ·refine bM H fun x20 z19 H=>(cK H fun z21 H=>(dW (dI [3] bY (dD [40] eI (dI [] (bI func239 (b8 fu jV _ z19)) (dI [42] (iQ ([x20]:Z aB)) (dE [41,43] (mA z21) (dI [3] bY (mK [45,44] lT (dN ?_))))))))))
   exact gE 0
  exact gE 1
 rintro v17 H
 refine qS (bM H fun x23 z22 H=>(cK H fun z24 H=>(dW (dI [3] bY (dD [46] eI (dI [1] bY (dD [48] eI (dI [49] (bI func239 (b8 fu p1.aD4 _ z22)) (dI [50] (iQ ([x23]:Z aB)) (dE [47,51] (mA z24) (dI [3] bY (mK [53,52] lT (dN ?_)))))))))))))
 refine gQ 5 ?_;refine c7.fact (cQ 0 2 rfl rfl rfl (aA.trs_len _)) (fun hl28=>?_)
 refine bV (σ:=(Z aB)) (fun i25 v27=>⟨[(1,.ptr 0 0),(2,.ptr 1 0),(3,.ptr 2 0),(4,pN i25)],⟨[some ⟨30,b7 p1⟩,some ⟨189,[pS s_,.nil]⟩,some ⟨189,[pS s_,eS v27 0]⟩],[⟨189,2,aB.trs (v27),false⟩]⟩⟩) (fun v27=>⟨[(2,.ptr 1 0),(3,.ptr 2 0)],⟨[some ⟨30,b7 p1⟩,some ⟨189,[pS s_,.nil]⟩,some ⟨189,[pS s_,eS v27 0]⟩],[⟨189,2,aB.trs (v27),false⟩]⟩⟩) (eX H) ?_ ?_
 ·rintro i25 v27 H
  refine gQ 9 ?_;refine c5 H (fun h29 h29l H=>?_) (fun h29 H=>?_)
  ·refine gQ 3 ?_;refine bM H fun x31 z30 H=>(cK H fun z32 H=>(dW (dI [3] bY (dD [61] eI (dI [1] bY (dD [63] eI (dI [4] bG (dI [64,65] rB (dI [66] (iR (aA.cs (aR p1.aD5 i25))) (dI [67] (bI func242 (pR (aR p1.aD5 i25) _ z30)) (dI [68] (iQ ([x31]:Z aB)) (dE [62,69] (mA z32) (dI [3] bY ?_)))))))))))))
   refine mK [71,70] lT (dN ?_)
   exact gE 5
  exact gE 0
 rintro v27 H
 refine gQ 2 ?_;refine q1 (b5 [pS s_,eS v27 0]) ?_;exact gE 2
def nO:Nat→aA→J aB
 |0,_=>none
 |fu+1,p1=>aeX fu (nO fu) p1
theorem aoV(fu:Nat):VQ (nO fu):=by
 induction fu with
 |zero=>exact(fun p1 r H=>by simp only [nO] at H;cases H)
 |succ fu ih=>exact(fun p1 r H=>by simp only [nO] at H;exact alJ fu (nO fu) ih p1 r H)
theorem zJ(fu:Nat):VQ (nO fu):=(aoV fu)
abbrev BN:=aA→Int→Option Int
def K4(m:BN):Prop:= ∀(pt:aA) (pD:Int) (r:Int),m pt pD=some r→bS prog 264 [(aA.pv pt),pI pD] (pI r:PV)
def alA(fu:Nat)(pA:BN)(pt:aA)(pD:Int):Nat→Int→J (LR Int Int):=fun i1 v2=>sw (decide (v2≥0)) (bd (pA (aR pt.aD5 i1) v2) fun x7=>some (.next x7)) (some (.brk v2))
def TG(fu:Nat)(pA:BN)(pt:aA)(pD:Int):J Int:=so (loopN (alA fu pA pt pD) (pt.aD5.length-0) 0 (aW (pD-1))) fun v2=>some v2
theorem aeU(fu:Nat)(pA:BN)(pM:K4 pA):K4 (TG fu pA):=by
 intro pt pD r H
 refine qJ func264 H (fun C hC H=>?_)
 refine gQ 2 ?_;refine q1 (fN (b7 pt)) ?_;refine gQ 13 ?_;refine c7.fact (cQ 0 2 rfl rfl rfl (aA.trs_len _)) (fun hl3=>?_)
 refine bV (σ:=Int) (fun i1 v2=>⟨[(1,pI v2),(2,.ptr 0 0),(4,pI 0),(5,pN i1)],⟨[some ⟨30,b7 pt⟩],[]⟩⟩) (fun v2=>⟨[(1,pI v2),(4,pI 0)],⟨[some ⟨30,b7 pt⟩],[]⟩⟩) (eX H) ?_ ?_
 ·rintro i1 v2 H
  refine gQ 9 ?_;refine AL.splitB 13 rfl (fun g4=>?_) (fun g4=>?_)
  ·have g4l:=xF g4
   have H:=lnT g4l H
   have g4n:=BH g4
   refine gQ 4 ?_;refine bE H (fun h5 H=>?_) (fun h5 H=>?_)
   ·refine gQ 8 ?_;refine q1 (iR (aA.cs (aR pt.aD5 i1))) (q1 bG (bM H fun x7 z6 H=>(q1 (bI func264 (pM (aR pt.aD5 i1) v2 _ z6)) ?_)))
    exact gE 7
   exact gE 0
  have H:=lnE (xE g4) H
  exact gE 5
 rintro v2 H
 exact gE 5
def rO:Nat→aA→Int→J Int
 |0,_,_=>none
 |fu+1,pt,pD=>TG fu (rO fu) pt pD
theorem aiJ(fu:Nat):K4 (rO fu):=by
 induction fu with
 |zero=>exact(fun pt pD r H=>by simp only [rO] at H;cases H)
 |succ fu ih=>exact(fun pt pD r H=>by simp only [rO] at H;exact aeU fu (rO fu) ih pt pD r H)
theorem alC(fu:Nat):K4 (rO fu):=(aiJ fu)
abbrev tF:=aA→Option Int
def A4(m:tF):Prop:= ∀(pt:aA) (r:Int),m pt=some r→bS prog 265 [(aA.pv pt)] (pI r:PV)
def aaA(fu:Nat)(p7:tF)(pt:aA):Nat→Int→J (LR Int Int):=fun i1 v2=>bd (p7 (aR pt.aD5 i1)) fun x6=>bd (QT fu v2 (aW (1+x6))) fun x8=>some (.next x8)
def GY(fu:Nat)(p7:tF)(pt:aA):J Int:=so (loopN (aaA fu p7 pt) (pt.aD5.length-0) 0 0) fun v2=>some v2
theorem U8(fu:Nat)(p7:tF)(pL:A4 p7):A4 (GY fu p7):=by
 intro pt r H
 refine qJ func265 H (fun C hC H=>?_)
 refine gQ 2 ?_;refine q1 (fN (b7 pt)) ?_;refine gQ 11 ?_;refine c7.fact (cQ 0 2 rfl rfl rfl (aA.trs_len _)) (fun hl3=>?_)
 refine bV (σ:=Int) (fun i1 v2=>⟨[(1,.ptr 0 0),(2,pI 0),(3,pI v2),(4,pN i1)],⟨[some ⟨30,b7 pt⟩],[]⟩⟩) (fun v2=>⟨[(2,pI 0),(3,pI v2)],⟨[some ⟨30,b7 pt⟩],[]⟩⟩) (eX H) ?_ ?_
 ·rintro i1 v2 H
  refine gQ 9 ?_;refine c5 H (fun h4 h4l H=>?_) (fun h4 H=>?_)
  ·refine gQ 9 ?_;refine q1 (iR (aA.cs (aR pt.aD5 i1))) (bM H fun x6 z5 H=>(q1 (bI func265 (pL (aR pt.aD5 i1) _ z5)) (q1 rAw (bM H fun x8 z7 H=>(q1 (bI func215 (abW fu v2 (aW (1+x6)) _ z7)) ?_)))))
   exact gE 7
  exact gE 0
 rintro v2 H
 exact gE 5
def k8:Nat→aA→J Int
 |0,_=>none
 |fu+1,pt=>GY fu (k8 fu) pt
theorem X4(fu:Nat):A4 (k8 fu):=by
 induction fu with
 |zero=>exact(fun pt r H=>by simp only [k8] at H;cases H)
 |succ fu ih=>exact(fun pt r H=>by simp only [k8] at H;exact U8 fu (k8 fu) ih pt r H)
theorem aaC(fu:Nat):A4 (k8 fu):=(X4 fu)
def BM(fu:Nat)(ps:Y):J Bool:=sw (decide (ps=eY)) (some true) (some (decide (ps=eQ)))
theorem OI(fu:Nat)(ps:Y)(r:Bool)(H:BM fu ps=some r):bS prog 108 [pS ps] (pB r):=by
 refine qJ func108 H (fun C hC H=>?_)
 refine gQ 9 ?_;refine dK 5 H (fun g1 H=>gE 5) fun g1 H=>?_;exact gE 5
abbrev vD:=aA→Option Bool
def K3(m:vD):Prop:= ∀(p1:aA) (r:Bool),m p1=some r→bS prog 266 [(aA.pv p1)] (pB r:PV)
def YR(fu:Nat)(p6:vD)(p1:aA)(x2:Bool):J ((Bool⊕Bool)⊕Bool):=sw (decide (p1.aD8=1)) (some (.inr (decide (p1.aD8=1)))) (some (.inr (decide (p1.aD8=4))))
def YQ(fu:Nat)(p6:vD)(p1:aA)(x2:Bool):J (Bool⊕Bool):=so (YR fu p6 p1 x2) fun v4=>sw (v4) (sw x2 (some (.inr (decide ((p1.aD5.length:Int)=0)))) (some (.inr false))) (sw (decide (p1.aD8=3)) (sw x2 (some (.inr (decide ((p1.aD5.length:Int)=1)))) (some (.inr false))) (sw (decide (p1.aD8=2)) (sw x2 (sw (decide ((p1.aD5.length:Int)≤3)) (some (.inr true)) (bd (BM fu p1.aD4) fun x14=>sw x14 (some (.inr (decide ((p1.aD5.length:Int)=0)))) (some (.inr false)))) (bd (BM fu p1.aD4) fun x17=>sw x17 (some (.inr (decide ((p1.aD5.length:Int)=0)))) (some (.inr false)))) (some (.inl false))))
def YS(fu:Nat)(p6:vD)(p1:aA)(x2 v3:Bool):Nat→Bool→J (LR Bool Bool):=fun i19 v20=>sw (v20) (bd (p6 (aR p1.aD5 i19)) fun x25=>some (.next x25)) (some (.next false))
def K2(fu:Nat)(p6:vD)(p1:aA):J Bool:=bd (dM fu p1.aD4) fun x2=>so (YQ fu p6 p1 x2) fun v3=>so (loopN (YS fu p6 p1 x2 v3) (p1.aD5.length-0) 0 v3) fun v20=>some v20
theorem aeT(fu:Nat)(p6:vD)(pO:K3 p6):K3 (K2 fu p6):=by
 intro p1 r H
 refine qJ func266 H (fun C hC H=>?_)
 refine gQ 2 ?_;refine q1 (fN (b7 p1)) ?_;refine gQ 6 ?_;refine bM H fun x2 z1 H=>(q1 (bI func205 (eN fu p1.aD4 _ z1)) ?_)
 refine gQ 3 ?_;refine oT (σ:=Bool) (fun v3=>⟨[(1,.ptr 0 0),(2,pB false),(3,pB v3)],⟨[some ⟨30,b7 p1⟩],[]⟩⟩) (eX H) (fun H=>?_) ?_
 ·refine gQ 7 ?_;refine oT (σ:=Bool) (fun v4=>⟨[(1,.ptr 0 0),(2,pB false),(3,pB x2),(9,pI p1.aD8),(10,pB v4)],⟨[some ⟨30,b7 p1⟩],[]⟩⟩) (eX H) (fun H=>?_) ?_
  ·refine gQ 5 ?_;refine bE H (fun h5 H=>gE 1) fun h5 H=>?_;exact gE 4
  rintro v4 H
  refine bE H (fun h6 H=>?_) (fun h6 H=>?_)
  ·refine gQ 3 ?_;refine dK 14 H (fun g7 H=>gE 7) fun g7 H=>?_;exact gE 7
  refine gQ 5 ?_;refine bE H (fun h8 H=>?_) (fun h8 H=>?_)
  ·refine gQ 3 ?_;refine dK 23 H (fun g9 H=>gE 7) fun g9 H=>?_;exact gE 7
  refine gQ 5 ?_;refine bE H (fun h10 H=>?_) (fun h10 H=>?_)
  ·refine gQ 3 ?_;refine dK 32 H (fun g11 H=>?_) fun g11 H=>?_
   ·refine gQ 6 ?_;refine dK 38 H (fun g12 H=>gE 12) fun g12 H=>?_;refine gQ 2 ?_;refine bM H fun x14 z13 H=>(qg g12 (bI func108 (OI fu p1.aD4 _ z13)) (qg g12 bG ?_))
    refine dK 42 H (fun g15 H=>gE 8) fun g15 H=>?_;exact gE 8
   refine gQ 8 ?_;refine bM H fun x17 z16 H=>(qg rfl (bI func108 (OI fu p1.aD4 _ z16)) (qg rfl bG ?_))
   refine dK 42 H (fun g18 H=>gE 8) fun g18 H=>?_;exact gE 8
  exact gE 4
 rintro v3 H
 refine gQ 5 ?_;refine c7.fact (cQ 0 2 rfl rfl rfl (aA.trs_len _)) (fun hl21=>?_)
 refine bV (σ:=Bool) (fun i19 v20=>⟨[(1,.ptr 0 0),(2,pB false),(3,pB v20),(4,pN i19)],⟨[some ⟨30,b7 p1⟩],[]⟩⟩) (fun v20=>⟨[(2,pB false),(3,pB v20)],⟨[some ⟨30,b7 p1⟩],[]⟩⟩) (eX H) ?_ ?_
 ·rintro i19 v20 H
  refine gQ 9 ?_;refine c5 H (fun h22 h22l H=>?_) (fun h22 H=>?_)
  ·refine gQ 6 ?_;refine dK 57 H (fun g23 H=>?_) fun g23 H=>?_
   ·refine gQ 4 ?_;refine qg g23 (iR (aA.cs (aR p1.aD5 i19))) (bM H fun x25 z24 H=>(qg g23 (bI func266 (pO (aR p1.aD5 i19) _ z24)) ?_))
    exact gE 8
   exact gE 14
  exact gE 0
 rintro v20 H
 exact gE 5
def l8:Nat→aA→J Bool
 |0,_=>none
 |fu+1,p1=>K2 fu (l8 fu) p1
theorem aiI(fu:Nat):K3 (l8 fu):=by
 induction fu with
 |zero=>exact(fun p1 r H=>by simp only [l8] at H;cases H)
 |succ fu ih=>exact(fun p1 r H=>by simp only [l8] at H;exact aeT fu (l8 fu) ih p1 r H)
theorem ak9(fu:Nat):K3 (l8 fu):=(aiI fu)
def iU(fu:Nat)(pt:aA):J Bool:=bd (rO fu pt 60) fun x2=>sw (decide (x2≥0)) (bd (k8 fu pt) fun x5=>sw (decide (x5≤6)) (bd (l8 fu pt) fun x8=>some x8) (some false)) (some false)
theorem mU(fu:Nat)(pt:aA)(r:Bool)(H:iU fu pt=some r):bS prog 258 [(aA.pv pt)] (pB r):=by
 refine qJ func258 H (fun C hC H=>?_)
 refine gQ 2 ?_;refine q1 (fN (b7 pt)) ?_;refine gQ 4 ?_;refine q1 (b5 [pI pt.aD8,pS pt.aD4,aT pt.aD5]) (bM H fun x2 z1 H=>(q1 (bI func264 (alC fu pt 60 _ z1)) ?_))
 refine gQ 2 ?_;refine dK 6 H (fun g3 H=>?_) fun g3 H=>?_
 ·refine qg g3 (b5 [pI pt.aD8,pS pt.aD4,aT pt.aD5]) (bM H fun x5 z4 H=>(qg g3 (bI func265 (aaC fu pt _ z4)) ?_))
  refine gQ 3 ?_;refine dK 11 H (fun g6 H=>?_) fun g6 H=>?_
  ·refine qg g6 (b5 [pI pt.aD8,pS pt.aD4,aT pt.aD5]) (bM H fun x8 z7 H=>(qg g6 (bI func266 (ak9 fu pt _ z7)) ?_))
   exact gE 3
  exact gE 5
 exact gE 10
abbrev k7:=aA→aA→Option Bool
abbrev rP:=(List aA)→(List aA)→Option Bool
def vZ(m:k7):Prop:= ∀(pa:aA) (pb:aA) (r:Bool),m pa pb=some r→bS prog 38 [(aA.pv pa),(aA.pv pb)] (pB r:PV)
def K5(m:rP):Prop:= ∀(pa:Z aA) (pb:Z aA) (r:Bool),m pa pb=some r→bS prog 92 [aT pa,aT pb] (pB r:PV)
def A3(fu:Nat)(p2:k7)(p5:rP)(pa pb:aA):J Bool:=sw (decide (pa.aD8=pb.aD8)) (sw (decide (pa.aD4=pb.aD4)) (bd (p5 pa.aD5 pb.aD5) fun x4=>some x4) (some false)) (some false)
theorem U1(fu:Nat)(p2:k7)(p5:rP)(pH:vZ p2)(pK:K5 p5):vZ (A3 fu p2 p5):=by
 intro pa pb r H
 refine qJ func38 H (fun C hC H=>?_)
 refine gQ 2 ?_;refine q1 (fN (b7 pa)) (q1 (fN (b7 pb)) ?_)
 refine gQ 10 ?_;refine dK 10 H (fun g1 H=>?_) fun g1 H=>?_
 ·refine gQ 7 ?_;refine dK 17 H (fun g2 H=>?_) fun g2 H=>?_
  ·refine gQ 4 ?_;refine bM H fun x4 z3 H=>(qg g2 (bI func92 (pK pa.aD5 pb.aD5 _ z3)) ?_)
   exact gE 3
  exact gE 8
 exact gE 15
def OJ(fu:Nat)(p2:k7)(p5:rP)(pa pb:Z aA):Nat→Unit→J (LR Unit Bool):=fun i2 _=>gd (i2<(pb).length) (bd (p2 (aR pa i2) (aR pb i2)) fun x7=>sw (!(x7)) (some (.ret false)) (some (.next ())))
def OK(fu:Nat)(p2:k7)(p5:rP)(pa pb:Z aA):J (Bool⊕Unit):=loopN (OJ fu p2 p5 pa pb) (pa.length-0) 0 ()
def F5(fu:Nat)(p2:k7)(p5:rP)(pa pb:Z aA):J Bool:=sw (!decide ((pa.length:Int)=(pb.length:Int))) (some false) (so (OK fu p2 p5 pa pb) fun _=>some true)
theorem aeV(fu:Nat)(p2:k7)(p5:rP)(pH:vZ p2)(pK:K5 p5):K5 (F5 fu p2 p5):=by
 intro pa pb r H
 refine qJ func92 H (fun C hC H=>?_)
 refine gQ 13 ?_;refine bE H (fun h1 H=>gE 4) fun h1 H=>?_;refine gQ 6 ?_;refine gM 0 (aA.trs_len _) (fun hl3=>?_)
 refine bV (σ:=Unit) (fun i2 _=>⟨[(0,aT pa),(1,aT pb),(4,pB false),(5,pN i2)],⟨[],[]⟩⟩) (fun _=>⟨[(4,pB false)],⟨[],[]⟩⟩) (eX H) ?_ ?_
 ·rintro i2 ⟨⟩ H
  refine gQ 8 ?_;refine c5 H (fun h4 h4l H=>?_) (fun h4 H=>?_)
  ·refine gQ 4 ?_;refine cK H fun z5 H=>(bM H fun x7 z6 H=>(dW (dI [0] bG (dI [5] bG (dI [17,18] rB (dI [19] (iR (aA.cs (aR pa i2))) (dI [1] bG (dI [5] bG (dI [21,22] rB (dI [23] (iR (aA.cs (aR pb i2))) (dI [20,24] (bI func38 (pH (aR pa i2) (aR pb i2) _ z6)) (dI [25] LI (dN ?_)))))))))))))
   refine bE H (fun h8 H=>gE 4) fun h8 H=>?_;exact gE 6
  exact gE 0
 rintro⟨⟩ H
 exact gE 4
mutual
def fS:Nat→aA→aA→J Bool
 |0,_,_=>none
 |fu+1,pa,pb=>A3 fu (fS fu) (lN fu) pa pb
def lN:Nat→(Z aA)→(Z aA)→J Bool
 |0,_,_=>none
 |fu+1,pa,pb=>F5 fu (fS fu) (lN fu) pa pb
end
theorem XS(fu:Nat):vZ (fS fu)∧K5 (lN fu):=by
 induction fu with
 |zero=>exact⟨(fun pa pb r H=>by simp only [fS] at H;cases H),(fun pa pb r H=>by simp only [lN] at H;cases H)⟩
 |succ fu ih=>exact⟨(fun pa pb r H=>by simp only [fS] at H;exact U1 fu (fS fu) (lN fu) ih.1 ih.2 pa pb r H),(fun pa pb r H=>by simp only [lN] at H;exact aeV fu (fS fu) (lN fu) ih.1 ih.2 pa pb r H)⟩
theorem MH(fu:Nat):vZ (fS fu):=(XS fu).1
abbrev xZ:=aA→(LB)→Option ((LB))
def K8(m:xZ):Prop:= ∀(pt:aA) (pC:LB) (r:(LB)),m pt pC=some r→cF prog 136 [(aA.pv pt),aS pC 0] ⟨[],[⟨9,1,aY (pC),false⟩]⟩ (fun q t=>q=(aS r 0:PV)∧t=⟨[],[⟨9,1,aY (r),false⟩]⟩)
def OL(fu:Nat)(p8:xZ)(pt:aA)(pC:LB):J (((LB))⊕((LB))):=sw (decide (pt.aD8=1)) (bd (lS fu pC pt.aD4) fun x5=>sw (!(x5)) (gd ((pC).length+(([pt.aD4]:LB)).length≤68719476736) (some (.inr (pC++([pt.aD4]:LB))))) (some (.inr pC))) (some (.inr pC))
def YV(fu:Nat)(p8:xZ)(pt:aA)(pC v2:LB):Nat→((LB))→J (LR ((LB)) ((LB))):=fun i8 v10=>bd (p8 (aR pt.aD5 i8) v10) fun x14=>some (.next x14)
def K7(fu:Nat)(p8:xZ)(pt:aA)(pC:LB):J ((LB)):=so (OL fu p8 pt pC) fun v2=>so (loopN (YV fu p8 pt pC v2) (pt.aD5.length-0) 0 v2) fun v10=>some v10
theorem aeW(fu:Nat)(p8:xZ)(pP:K8 p8):K8 (K7 fu p8):=by
 intro pt pC r H
 refine qJ func136 H (fun C hC H=>?_)
 refine gQ 2 ?_;refine q1 (fN (b7 pt)) ?_;refine gQ 3 ?_;refine oT (σ:=(LB)) (fun v2=>⟨[(1,aS v2 0),(2,.ptr 0 0),(4,.nil)],⟨[some ⟨30,b7 pt⟩],[⟨9,1,aY (v2),false⟩]⟩⟩) (eX H) (fun H=>?_) ?_
 ·refine gQ 6 ?_;refine dK 9 H (fun g3 H=>?_) fun g3 H=>?_
  ·refine gQ 3 ?_;refine bM H fun x5 z4 H=>(qg g3 (bI func153 (mW fu pC pt.aD4 _ z4)) ?_)
   refine gQ 3 ?_;refine bE H (fun h6 H=>?_) (fun h6 H=>?_)
   ·refine gQ 4 ?_;refine q1 (iQ ([pt.aD4]:LB)) (cK H fun z7 H=>(q1 (mA z7) ?_))
    exact gE 2
   exact gE 1
  exact gE 9
 rintro v2 H
 refine gQ 5 ?_;refine c7.fact (cQ 0 2 rfl rfl rfl (aA.trs_len _)) (fun hl11=>?_)
 refine bV (σ:=(LB)) (fun i8 v10=>⟨[(1,aS v10 0),(2,.ptr 0 0),(4,.nil),(5,pN i8)],⟨[some ⟨30,b7 pt⟩],[⟨9,1,aY (v10),false⟩]⟩⟩) (fun v10=>⟨[(1,aS v10 0),(4,.nil)],⟨[some ⟨30,b7 pt⟩],[⟨9,1,aY (v10),false⟩]⟩⟩) (eX H) ?_ ?_
 ·rintro i8 v10 H
  refine gQ 9 ?_;refine c5 H (fun h12 h12l H=>?_) (fun h12 H=>?_)
  ·refine gQ 8 ?_;refine q1 (iR (aA.cs (aR pt.aD5 i8))) (q1 bG (bM H fun x14 z13 H=>(q1 (fJ [] [0] func136 (pP (aR pt.aD5 i8) v10 _ z13)) ?_)))
   exact gE 7
  exact gE 0
 rintro v10 H
 exact gE 5
def l9:Nat→aA→(LB)→J ((LB))
 |0,_,_=>none
 |fu+1,pt,pC=>K7 fu (l9 fu) pt pC
theorem aiL(fu:Nat):K8 (l9 fu):=by
 induction fu with
 |zero=>exact(fun pt pC r H=>by simp only [l9] at H;cases H)
 |succ fu ih=>exact(fun pt pC r H=>by simp only [l9] at H;exact aeW fu (l9 fu) ih pt pC r H)
theorem alI(fu:Nat):K8 (l9 fu):=(aiL fu)
def oO(fu:Nat)(pt:aA):J ((LB)):=bd (l9 fu pt ([])) fun x2=>some x2
theorem D2(fu:Nat)(pt:aA)(r:(LB))(H:oO fu pt=some r):bS prog 85 [(aA.pv pt)] (rS r):=by
 refine qJ func85 H (fun C hC H=>?_)
 refine gQ 2 ?_;refine q1 (fN (b7 pt)) ?_;refine gQ 4 ?_;refine q1 (b5 [pI pt.aD8,pS pt.aD4,aT pt.aD5]) (q1 (sA ([]:LB)) (bM H fun x2 z1 H=>(q1 (fJ [] [0] func136 (alI fu pt ([]) _ z1)) ?_)))
 exact gE 2
abbrev l6:=aA→Option Bool
def tD(m:l6):Prop:= ∀(pt:aA) (r:Bool),m pt=some r→bS prog 86 [(aA.pv pt)] (pB r:PV)
def DV(fu:Nat)(p4:l6)(pt:aA):Nat→Unit→J (LR Unit Bool):=fun i1 _=>bd (p4 (aR pt.aD5 i1)) fun x5=>sw x5 (some (.ret true)) (some (.next ()))
def tC(fu:Nat)(p4:l6)(pt:aA):J Bool:=so (loopN (DV fu p4 pt) (pt.aD5.length-0) 0 ()) fun _=>some (decide (pt.aD8=3))
theorem LP(fu:Nat)(p4:l6)(pJ:tD p4):tD (tC fu p4):=by
 intro pt r H
 refine qJ func86 H (fun C hC H=>?_)
 refine gQ 2 ?_;refine q1 (fN (b7 pt)) ?_;refine gQ 7 ?_;refine c7.fact (cQ 0 2 rfl rfl rfl (aA.trs_len _)) (fun hl2=>?_)
 refine bV (σ:=Unit) (fun i1 _=>⟨[(1,.ptr 0 0),(2,pB false),(3,pN i1)],⟨[some ⟨30,b7 pt⟩],[]⟩⟩) (fun _=>⟨[(1,.ptr 0 0),(2,pB false)],⟨[some ⟨30,b7 pt⟩],[]⟩⟩) (eX H) ?_ ?_
 ·rintro i1 ⟨⟩ H
  refine gQ 9 ?_;refine c5 H (fun h3 h3l H=>?_) (fun h3 H=>?_)
  ·refine gQ 9 ?_;refine q1 (iR (aA.cs (aR pt.aD5 i1))) (bM H fun x5 z4 H=>(q1 (bI func86 (pJ (aR pt.aD5 i1) _ z4)) (qN ?_)))
   refine bE H (fun h6 H=>gE 4) fun h6 H=>?_;exact gE 6
  exact gE 0
 rintro⟨⟩ H
 exact gE 7
def eA:Nat→aA→J Bool
 |0,_=>none
 |fu+1,pt=>tC fu (eA fu) pt
theorem NX(fu:Nat):tD (eA fu):=by
 induction fu with
 |zero=>exact(fun pt r H=>by simp only [eA] at H;cases H)
 |succ fu ih=>exact(fun pt r H=>by simp only [eA] at H;exact LP fu (eA fu) ih pt r H)
theorem wA(fu:Nat):tD (eA fu):=(NX fu)
abbrev gT:=aA→ByteArray→Option Int
def nG(m:gT):Prop:= ∀(pt:aA) (pv:Y) (r:Int),m pt pv=some r→bS prog 260 [(aA.pv pt),pS pv] (pI r:PV)
def IH(fu:Nat)(p0:gT)(pt:aA)(pv:Y):J (Int⊕Int):=sw (decide (pt.aD8=1)) (sw (decide (pt.aD4=pv)) (some (.inr 1)) (some (.inr 0))) (some (.inr 0))
def II(fu:Nat)(p0:gT)(pt:aA)(pv:Y)(v1:Int):Nat→Int→J (LR Int Int):=fun i4 v5=>bd (p0 (aR pt.aD5 i4) pv) fun x9=>some (.next (aW (v5+x9)))
def sP(fu:Nat)(p0:gT)(pt:aA)(pv:Y):J Int:=so (IH fu p0 pt pv) fun v1=>so (loopN (II fu p0 pt pv v1) (pt.aD5.length-0) 0 v1) fun v5=>some v5
theorem FU(fu:Nat)(p0:gT)(pF:nG p0):nG (sP fu p0):=by
 intro pt pv r H
 refine qJ func260 H (fun C hC H=>?_)
 refine gQ 2 ?_;refine q1 (fN (b7 pt)) ?_;refine gQ 7 ?_;refine oT (σ:=Int) (fun v1=>⟨[(1,pS pv),(2,.ptr 0 0),(4,pI 0),(5,pI v1)],⟨[some ⟨30,b7 pt⟩],[]⟩⟩) (eX H) (fun H=>?_) ?_
 ·refine gQ 6 ?_;refine dK 10 H (fun g2 H=>?_) fun g2 H=>?_
  ·refine gQ 6 ?_;refine bE H (fun h3 H=>gE 3) fun h3 H=>?_;exact gE 1
  exact gE 8
 rintro v1 H
 refine gQ 5 ?_;refine c7.fact (cQ 0 2 rfl rfl rfl (aA.trs_len _)) (fun hl6=>?_)
 refine bV (σ:=Int) (fun i4 v5=>⟨[(1,pS pv),(2,.ptr 0 0),(4,pI 0),(5,pI v5),(6,pN i4)],⟨[some ⟨30,b7 pt⟩],[]⟩⟩) (fun v5=>⟨[(4,pI 0),(5,pI v5)],⟨[some ⟨30,b7 pt⟩],[]⟩⟩) (eX H) ?_ ?_
 ·rintro i4 v5 H
  refine gQ 9 ?_;refine c5 H (fun h7 h7l H=>?_) (fun h7 H=>?_)
  ·refine gQ 9 ?_;refine q1 (iR (aA.cs (aR pt.aD5 i4))) (q1 bG (bM H fun x9 z8 H=>(q1 (bI func260 (pF (aR pt.aD5 i4) pv _ z8)) ?_)))
   exact gE 8
  exact gE 0
 rintro v5 H
 exact gE 5
def eL:Nat→aA→Y→J Int
 |0,_,_=>none
 |fu+1,pt,pv=>sP fu (eL fu) pt pv
theorem GW(fu:Nat):nG (eL fu):=by
 induction fu with
 |zero=>exact(fun pt pv r H=>by simp only [eL] at H;cases H)
 |succ fu ih=>exact(fun pt pv r H=>by simp only [eL] at H;exact FU fu (eL fu) ih pt pv r H)
theorem IK(fu:Nat):nG (eL fu):=(GW fu)
def JL(fu:Nat)(pv:Y)(pt:aA):J Bool:=bd (eL fu pt pv) fun x2=>some (decide (x2>0))
theorem adO(fu:Nat)(pv:Y)(pt:aA)(r:Bool)(H:JL fu pv pt=some r):bS prog 250 [pS pv,(aA.pv pt)] (pB r):=by
 refine qJ func250 H (fun C hC H=>?_)
 refine gQ 2 ?_;refine q1 (fN (b7 pt)) ?_;refine gQ 4 ?_;refine q1 (b5 [pI pt.aD8,pS pt.aD4,aT pt.aD5]) (q1 bG (bM H fun x2 z1 H=>(q1 (bI func260 (IK fu pt pv _ z1)) ?_)))
 exact gE 3
def MI(fu:Nat)(pn:Int):(Int×Y)→J (LR (Int×Y) Y):=fun(v2,v3)=>sw (!decide (v2=0)) (sw (decide (((v2).tmod 10:Int)<0)) (gd ((bytesStr ([(J1 (aW (48+(aW (0-((v2).tmod 10))))))]:Z UInt8)).size+(v3).size≤1099511627776) (some (.next ((aW ((v2).tdiv 10)),((bytesStr ([(J1 (aW (48+(aW (0-((v2).tmod 10))))))]:Z UInt8))++v3))))) (gd ((bytesStr ([(J1 (aW (48+((v2).tmod 10))))]:Z UInt8)).size+(v3).size≤1099511627776) (some (.next ((aW ((v2).tdiv 10)),((bytesStr ([(J1 (aW (48+((v2).tmod 10))))]:Z UInt8))++v3)))))) (some (.brk (v2,v3)))
def pX(fu:Nat)(pn:Int):J Y:=sw (decide (pn=0)) (some s_0) (so (loopW (MI fu pn) fu (pn,s_)) fun(v2,v3)=>sw (decide (pn<0)) (gd ((IL).size+(v3).size≤1099511627776) (some (IL++v3))) (some v3))
theorem EU(fu:Nat)(pn:Int)(r:Y)(H:pX fu pn=some r):bS prog 255 [pI pn] (pS r):=by
 refine qJ func255 H (fun C hC H=>?_)
 refine gQ 10 ?_;refine bE H (fun h1 H=>gE 4) fun h1 H=>?_;refine gQ 12 ?_;refine TU (σ:=Int×Y) (fun(v2,v3)=>⟨[(0,pI v2),(2,pS s_),(3,pB (decide (pn<0))),(4,pS v3)],⟨[],[]⟩⟩) (fun(v2,v3)=>⟨[(2,pS s_),(3,pB (decide (pn<0))),(4,pS v3)],⟨[],[]⟩⟩) (eX H) ?_ ?_
 ·rintro k4 ⟨v2,v3⟩ H
  refine gQ 6 ?_;refine bE H (fun h5 H=>?_) (fun h5 H=>?_)
  ·refine gQ 5 ?_;refine q1 (bC.remI (a:=v2) (b:=10) rfl rfl rfl rfl (by decide)) ?_;refine gQ 8 ?_;refine bE H (fun h6 H=>?_) (fun h6 H=>?_)
   ·refine gQ 9 ?_;refine q1 (bC.convU8 (a:=aW (48+(aW (0-((v2).tmod 10))))) rfl rfl rfl ⟨_,underlying3⟩ underlying5) (q1 (iQ ([(J1 (aW (48+(aW (0-((v2).tmod 10))))))]:Z UInt8)) (q1 (bC.bytesStr rfl rfl rfl rfl underlying22 underlying5 underlying9) (q1 bG (cK H fun z7 H=>(q1 (bC.addS rfl rfl rfl rfl (Nat.le_trans z7 (by decide))) ?_)))))
    refine gQ 4 ?_;refine q1 (bC.quoI (a:=v2) (b:=10) rfl rfl rfl rfl (by decide)) ?_;exact gE 2
   refine gQ 5 ?_;refine q1 (bC.convU8 (a:=aW (48+((v2).tmod 10))) rfl rfl rfl ⟨_,underlying3⟩ underlying5) (q1 (iQ ([(J1 (aW (48+((v2).tmod 10))))]:Z UInt8)) (q1 (bC.bytesStr rfl rfl rfl rfl underlying22 underlying5 underlying9) (q1 bG (cK H fun z8 H=>(q1 (bC.addS rfl rfl rfl rfl (Nat.le_trans z8 (by decide))) ?_)))))
   refine gQ 4 ?_;refine q1 (bC.quoI (a:=v2) (b:=10) rfl rfl rfl rfl (by decide)) ?_;exact gE 2
  exact gE 0
 rintro⟨v2,v3⟩ H
 refine gQ 5 ?_;refine bE H (fun h9 H=>?_) (fun h9 H=>?_)
 ·refine gQ 3 ?_;refine cK H fun z10 H=>(q1 (bC.addS rfl rfl rfl rfl (Nat.le_trans z10 (by decide))) ?_)
  exact gE 2
 exact gE 6
def YI(fu:Nat)(ps:Y)(p9:Int):J ((Int×Bool)⊕Y):=sw (decide ((((wG ps 0).toNat:Int):Int)=45)) (gd ((0:Int)≤1∧(1:Int)≤(ps.size:Int)∧(ps.size:Int)≤(ps.size:Int)) (some (.inr (ps.extract (1:Int).toNat (ps.size:Int).toNat)))) (some (.inr ps))
def YK(fu:Nat)(ps:Y)(p9:Int)(v3:Y):Nat→Int→J (LR Int (Int×Bool)):=fun i8 v9=>gd (i8<(v3).size) (sw (decide ((((wG v3 i8).toNat:Int):Int)<48)) (some (.ret (0,false))) (sw (decide ((((wG v3 i8).toNat:Int):Int)>57)) (some (.ret (0,false))) (some (.next (aW ((aW (10*v9))+((J1 (((wG v3 i8).toNat:Int)-48)).toNat:Int)))))))
def YJ(fu:Nat)(ps:Y)(p9:Int)(v3:Y)(v9:Int):J ((Int×Bool)⊕Int):=sw (decide ((((wG ps 0).toNat:Int):Int)=45)) (some (.inr (aW (0-v9)))) (some (.inr v9))
def YL(fu:Nat)(ps:Y)(p9:Int):Nat→Int→J (LR Int (Int×Bool)):=fun i22 v23=>gd (i22<(ps).size) (sw (decide ((((wG ps i22).toNat:Int):Int)<48)) (some (.ret (0,false))) (sw (decide ((((wG ps i22).toNat:Int):Int)>57)) (some (.ret (0,false))) (some (.next (aW ((aW (10*v23))+((J1 (((wG ps i22).toNat:Int)-48)).toNat:Int)))))))
def TD(fu:Nat)(ps:Y)(p9:Int):J (Int×Bool):=sw (decide ((ps.size:Int)>0)) (gd (0<(ps).size) (so (YI fu ps p9) fun v3=>sw (decide ((v3.size:Int)<1)) (some (0,false)) (sw (decide ((v3.size:Int)>p9)) (some (0,false)) (so (loopN (YK fu ps p9 v3) (v3.size-0) 0 0) fun v9=>so (YJ fu ps p9 v3 v9) fun v15=>bd (pX fu v15) fun x18=>sw (!decide (x18=ps)) (some (0,false)) (some (v15,true)))))) (sw (decide ((ps.size:Int)<1)) (some (0,false)) (sw (decide ((ps.size:Int)>p9)) (some (0,false)) (so (loopN (YL fu ps p9) (ps.size-0) 0 0) fun v23=>bd (pX fu v23) fun x30=>sw (!decide (x30=ps)) (some (0,false)) (some (v23,true)))))
theorem akX(fu:Nat)(ps:Y)(p9:Int)(r:Int×Bool)(H:TD fu ps p9=some r):bS prog 253 [pS ps,pI p9] (.tup [pI r.1,pB r.2]):=by
 refine qJ func253 H (fun C hC H=>?_)
 refine gQ 8 ?_;refine q1 (bC.lenS rfl rfl rfl underlying9) ?_;refine gQ 2 ?_;refine dK 13 H (fun g1 H=>?_) fun g1 H=>?_
 ·refine qg g1 bG (cK H fun z2 H=>(qg g1 (bC.indexS (k:=0) rfl rfl rfl rfl z2 underlying9) ?_))
  refine gQ 10 ?_;refine oT (σ:=Y) (fun v3=>⟨[(0,pS ps),(1,pI p9),(4,pI 0),(5,pB false),(6,pB (decide ((((wG ps 0).toNat:Int):Int)=45))),(7,pS v3)],⟨[],[]⟩⟩) (eX H) (fun H=>?_) ?_
  ·refine gQ 4 ?_;refine bE H (fun h4 H=>?_) (fun h4 H=>?_)
   ·refine gQ 2 ?_;refine cK H fun z5 H=>(q1 (bC.sliceS (l:=1) (k:=(ps.size:Int)) rfl rfl rfl rfl rfl z5 underlying9) ?_)
    exact gE 2
   exact gE 1
  rintro v3 H
  refine gQ 4 ?_;refine q1 (bC.lenS rfl rfl rfl underlying9) ?_;refine gQ 2 ?_;refine dK 25 H (fun g6 H=>?_) fun g6 H=>?_
  ·have g6n:v3.size<1:=by have:=of_decide_eq_true g6;omega
   exact gE 12
  refine qg g6 bG (qg g6 (bC.lenS rfl rfl rfl underlying9) ?_)
  refine gQ 4 ?_;refine bE H (fun h7 H=>gE 5) fun h7 H=>?_;refine gQ 10 ?_;refine szF 7 (fun hl10=>?_)
  refine bV (σ:=Int) (fun i8 v9=>⟨[(0,pS ps),(4,pI 0),(5,pB false),(6,pB (decide ((((wG ps 0).toNat:Int):Int)=45))),(7,pS v3),(8,pI v9),(9,pN i8)],⟨[],[]⟩⟩) (fun v9=>⟨[(0,pS ps),(4,pI 0),(5,pB false),(6,pB (decide ((((wG ps 0).toNat:Int):Int)=45))),(8,pI v9)],⟨[],[]⟩⟩) (eX H) ?_ ?_
  ·rintro i8 v9 H
   refine gQ 5 ?_;refine q1 (bC.lenS rfl rfl rfl underlying9) ?_;refine gQ 2 ?_;refine c5 H (fun h11 h11l H=>?_) (fun h11 H=>?_)
   ·have h11n:i8<v3.size:=by have:=of_decide_eq_true h11;omega
    refine gQ 8 ?_;refine cK H fun z12 H=>(q1 (bC.indexS (k:=i8) rfl rfl rfl rfl z12 underlying9) ?_)
    refine gQ 2 ?_;refine dK 41 H (fun g13 H=>gE 12) fun g13 H=>?_;refine gQ 2 ?_;refine qg g13 (bC.indexS (k:=i8) rfl rfl rfl rfl z12 underlying9) ?_;refine gQ 3 ?_;refine bE H (fun h14 H=>gE 5) fun h14 H=>?_;refine gQ 3 ?_;refine q1 (bC.mulW rfl rfl rfl rfl) ?_;refine gQ 2 ?_;refine q1 (bC.indexS (k:=i8) rfl rfl rfl rfl z12 underlying9) (q1 (bC.subU8 rfl rfl rfl rfl) ?_)
    refine q1 (bC.convI rfl rfl rfl ⟨_,underlying5⟩ underlying3 (by first|omega|(have:=UInt8.toNat_lt (J1 (((wG v3 i8).toNat:Int)-48));omega)) (by first|omega|(have:=UInt8.toNat_lt (J1 (((wG v3 i8).toNat:Int)-48));omega))) ?_;exact gE 8
   exact gE 0
  rintro v9 H
  refine qS ?_;refine oT (σ:=Int) (fun v15=>⟨[(0,pS ps),(4,pI 0),(5,pB false),(8,pI v15)],⟨[],[]⟩⟩) (eX H) (fun H=>?_) ?_
  ·refine gQ 4 ?_;refine bE H (fun h16 H=>gE 5) fun h16 H=>?_;exact gE 1
  rintro v15 H
  refine gQ 4 ?_;refine bM H fun x18 z17 H=>(q1 (bI func255 (EU fu v15 _ z17)) ?_)
  refine gQ 3 ?_;refine bE H (fun h19 H=>gE 5) fun h19 H=>?_;exact gE 7
 refine gQ 22 ?_;refine q1 (bC.lenS rfl rfl rfl underlying9) ?_;refine gQ 2 ?_;refine dK 25 H (fun g20 H=>?_) fun g20 H=>?_
 ·have g20n:ps.size<1:=by have:=of_decide_eq_true g20;omega
  exact gE 12
 refine qg g20 bG (qg g20 (bC.lenS rfl rfl rfl underlying9) ?_)
 refine gQ 4 ?_;refine bE H (fun h21 H=>gE 5) fun h21 H=>?_;refine gQ 10 ?_;refine szF 0 (fun hl24=>?_)
 refine bV (σ:=Int) (fun i22 v23=>⟨[(0,pS ps),(4,pI 0),(5,pB false),(6,pB false),(7,pS ps),(8,pI v23),(9,pN i22)],⟨[],[]⟩⟩) (fun v23=>⟨[(0,pS ps),(4,pI 0),(5,pB false),(6,pB false),(8,pI v23)],⟨[],[]⟩⟩) (eX H) ?_ ?_
 ·rintro i22 v23 H
  refine gQ 5 ?_;refine q1 (bC.lenS rfl rfl rfl underlying9) ?_;refine gQ 2 ?_;refine c5 H (fun h25 h25l H=>?_) (fun h25 H=>?_)
  ·have h25n:i22<ps.size:=by have:=of_decide_eq_true h25;omega
   refine gQ 8 ?_;refine cK H fun z26 H=>(q1 (bC.indexS (k:=i22) rfl rfl rfl rfl z26 underlying9) ?_)
   refine gQ 2 ?_;refine dK 41 H (fun g27 H=>gE 12) fun g27 H=>?_;refine gQ 2 ?_;refine qg g27 (bC.indexS (k:=i22) rfl rfl rfl rfl z26 underlying9) ?_;refine gQ 3 ?_;refine bE H (fun h28 H=>gE 5) fun h28 H=>?_;refine gQ 3 ?_;refine q1 (bC.mulW rfl rfl rfl rfl) ?_;refine gQ 2 ?_;refine q1 (bC.indexS (k:=i22) rfl rfl rfl rfl z26 underlying9) (q1 (bC.subU8 rfl rfl rfl rfl) ?_)
   refine q1 (bC.convI rfl rfl rfl ⟨_,underlying5⟩ underlying3 (by first|omega|(have:=UInt8.toNat_lt (J1 (((wG ps i22).toNat:Int)-48));omega)) (by first|omega|(have:=UInt8.toNat_lt (J1 (((wG ps i22).toNat:Int)-48));omega))) ?_;exact gE 8
  exact gE 0
 rintro v23 H
 refine gQ 11 ?_;refine bM H fun x30 z29 H=>(q1 (bI func255 (EU fu v23 _ z29)) ?_)
 refine gQ 3 ?_;refine bE H (fun h31 H=>gE 5) fun h31 H=>?_;exact gE 7
def DY(fu:Nat)(ps:Y):J (Int×Bool):=bd (TD fu ps 12) fun(x2,x3)=>some (x2,x3)
theorem adP(fu:Nat)(ps:Y)(r:Int×Bool)(H:DY fu ps=some r):bS prog 235 [pS ps] (.tup [pI r.1,pB r.2]):=by
 refine qJ func235 H (fun C hC H=>?_)
 refine gQ 8 ?_;refine eO H fun x2 x3 z1 H=>(q1 (bI func253 (akX fu ps 12 _ z1)) ?_)
 exact gE 5
def u9(fu:Nat)(pn:Int):J aL:=some (aL.mk 1 s_ s_ pn (aA.mk 0 s_ []) [] [])
theorem xM(fu:Nat)(pn:Int)(r:aL)(H:u9 fu pn=some r):bS prog 192 [pI pn] ((aL.pv r)):=by
 refine qJ func192 H (fun C hC H=>?_)
 exact gE 10
def xO(fu:Nat)(ps:Y):J aL:=some (aL.mk 3 s_ ps 0 (aA.mk 0 s_ []) [] [])
theorem CX(fu:Nat)(ps:Y)(r:aL)(H:xO fu ps=some r):bS prog 191 [pS ps] ((aL.pv r)):=by
 refine qJ func191 H (fun C hC H=>?_)
 exact gE 10
def sS(fu:Nat)(pa pb:Int):J Int:=sw (decide (pa<pb)) (some pa) (some pb)
theorem tH(fu:Nat)(pa:Int)(pb:Int)(r:Int)(H:sS fu pa pb=some r):bS prog 234 [pI pa,pI pb] (pI r):=by
 refine qJ func234 H (fun C hC H=>?_)
 refine gQ 11 ?_;refine bE H (fun h1 H=>gE 5) fun h1 H=>?_;exact gE 6
abbrev kT:=aB→Option aL
abbrev jG:=(List aB)→Option ((List aL))
abbrev l7:=aB→Option bW
def xP(m:kT):Prop:= ∀(p1:aB) (r:aL),m p1=some r→bS prog 220 [(aB.pv p1)] ((aL.pv r):PV)
def zD(m:jG):Prop:= ∀(p6:Z aB) (r:(Z aL)),m p6=some r→bS prog 236 [bJ p6] (jF r:PV)
def FX(m:l7):Prop:= ∀(px:aB) (r:bW),m px=some r→bS prog 237 [(aB.pv px)] ((bW.pv r):PV)
def ahX(fu:Nat)(p3:kT)(p0:jG)(p4:l7)(p1 y15 y18:aB)(x67:Int)(x70:Z aL):Nat→((Z bW))→J (LR ((Z bW)) aL):=fun i71 v73=>bd (p4 (aR p1.aD7 i71)) fun x77=>gd ((v73).length+(([x77]:Z bW)).length≤68719476736) (some (.next (v73++([x77]:Z bW))))
def N7(fu:Nat)(p3:kT)(p0:jG)(p4:l7)(p1:aB):J aL:=sw (!decide (p1.aEa=s_)) (bd (DY fu p1.aEa) fun(x3,x4)=>sw x4 (bd (u9 fu x3) fun x7=>some x7) (sw (decide (p1.aEa=rQ)) (some (aL.mk 2 s_ s_ 1 (aA.mk 0 s_ []) [] [])) (sw (decide (p1.aEa=mM)) (some (aL.mk 2 s_ s_ 0 (aA.mk 0 s_ []) [] [])) (bd (xO fu p1.aEa) fun x11=>some x11)))) (gd (([]:Z aB).length+(p1.aD7).length≤68719476736) (gd ((([])++p1.aD7).length+(([(aB.mk s_ []),(aB.mk s_ []),(aB.mk s_ [])]:Z aB)).length≤68719476736) (gd (1<((([])++p1.aD7)++([(aB.mk s_ []),(aB.mk s_ []),(aB.mk s_ [])]:Z aB)).length) (lt (aR ((([])++p1.aD7)++([(aB.mk s_ []),(aB.mk s_ []),(aB.mk s_ [])]:Z aB)) 1) fun y15=>gd (0<((([])++p1.aD7)++([(aB.mk s_ []),(aB.mk s_ []),(aB.mk s_ [])]:Z aB)).length) (lt (aR ((([])++p1.aD7)++([(aB.mk s_ []),(aB.mk s_ []),(aB.mk s_ [])]:Z aB)) 0) fun y18=>sw (decide (y18.aEa=S3)) (bd (sS fu 2 (p1.aD7.length:Int)) fun x22=>gd ((0:Int)≤x22∧(x22:Int)≤(p1.aD7.length:Int)∧(p1.aD7.length:Int)≤(p1.aD7.length:Int)) (bd (p0 (List.drop (x22:Int).toNat (List.take (p1.aD7.length:Int).toNat p1.aD7))) fun x25=>some (aL.mk 4 s_ y15.aEa 0 (aA.mk 0 s_ []) x25 []))) (sw (decide (y18.aEa=q7)) (gd (2<((([])++p1.aD7)++([(aB.mk s_ []),(aB.mk s_ []),(aB.mk s_ [])]:Z aB)).length) (lt (aR ((([])++p1.aD7)++([(aB.mk s_ []),(aB.mk s_ []),(aB.mk s_ [])]:Z aB)) 2) fun y28=>bd (sS fu 3 (p1.aD7.length:Int)) fun x31=>gd ((0:Int)≤x31∧(x31:Int)≤(p1.aD7.length:Int)∧(p1.aD7.length:Int)≤(p1.aD7.length:Int)) (bd (p0 (List.drop (x31:Int).toNat (List.take (p1.aD7.length:Int).toNat p1.aD7))) fun x34=>some (aL.mk 5 y15.aEa y28.aEa 0 (aA.mk 0 s_ []) x34 [])))) (sw (decide (y18.aEa=IA)) (bd (sS fu 2 (p1.aD7.length:Int)) fun x37=>gd ((0:Int)≤x37∧(x37:Int)≤(p1.aD7.length:Int)∧(p1.aD7.length:Int)≤(p1.aD7.length:Int)) (bd (p0 (List.drop (x37:Int).toNat (List.take (p1.aD7.length:Int).toNat p1.aD7))) fun x40=>some (aL.mk 6 s_ y15.aEa 0 (aA.mk 0 s_ []) x40 []))) (sw (decide (y18.aEa=H9)) (bd (sS fu 2 (p1.aD7.length:Int)) fun x43=>gd ((0:Int)≤x43∧(x43:Int)≤(p1.aD7.length:Int)∧(p1.aD7.length:Int)≤(p1.aD7.length:Int)) (bd (p0 (List.drop (x43:Int).toNat (List.take (p1.aD7.length:Int).toNat p1.aD7))) fun x46=>some (aL.mk 8 s_ y15.aEa 0 (aA.mk 0 s_ []) x46 []))) (sw (decide (y18.aEa=GZ)) (gd ((0:Int)≤1∧(1:Int)≤(p1.aD7.length:Int)∧(p1.aD7.length:Int)≤(p1.aD7.length:Int)) (bd (p0 (List.drop (1:Int).toNat (List.take (p1.aD7.length:Int).toNat p1.aD7))) fun x50=>some (aL.mk 9 s_ s_ 0 (aA.mk 0 s_ []) x50 []))) (sw (decide (y18.aEa=AF)) (bd (sS fu 2 (p1.aD7.length:Int)) fun x53=>gd ((0:Int)≤x53∧(x53:Int)≤(p1.aD7.length:Int)∧(p1.aD7.length:Int)≤(p1.aD7.length:Int)) (bd (p0 (List.drop (x53:Int).toNat (List.take (p1.aD7.length:Int).toNat p1.aD7))) fun x56=>some (aL.mk 11 y15.aEa s_ 0 (aA.mk 0 s_ []) x56 []))) (sw (decide (y18.aEa=abU)) (bd (nP fu y15) fun x59=>bd (sS fu 2 (p1.aD7.length:Int)) fun x61=>gd ((0:Int)≤x61∧(x61:Int)≤(p1.aD7.length:Int)∧(p1.aD7.length:Int)≤(p1.aD7.length:Int)) (bd (p0 (List.drop (x61:Int).toNat (List.take (p1.aD7.length:Int).toNat p1.aD7))) fun x64=>some (aL.mk 12 s_ s_ 0 x59 x64 []))) (sw (decide (y18.aEa=AE)) (bd (sS fu 2 (p1.aD7.length:Int)) fun x67=>gd ((0:Int)≤1∧(1:Int)≤x67∧(x67:Int)≤(p1.aD7.length:Int)) (bd (p0 (List.drop (1:Int).toNat (List.take (x67:Int).toNat p1.aD7))) fun x70=>so (loopN (ahX fu p3 p0 p4 p1 y15 y18 x67 x70) (p1.aD7.length-2) 2 ([])) fun v73=>some (aL.mk 7 s_ s_ 0 (aA.mk 0 s_ []) x70 v73))) (bd (sS fu 1 (p1.aD7.length:Int)) fun x80=>gd ((0:Int)≤x80∧(x80:Int)≤(p1.aD7.length:Int)∧(p1.aD7.length:Int)≤(p1.aD7.length:Int)) (bd (p0 (List.drop (x80:Int).toNat (List.take (p1.aD7.length:Int).toNat p1.aD7))) fun x83=>some (aL.mk 10 s_ y18.aEa 0 (aA.mk 0 s_ []) x83 [])))))))))))))))
theorem aaJ(fu:Nat)(p3:kT)(p0:jG)(p4:l7)(pC:xP p3)(p5:zD p0)(pD:FX p4):xP (N7 fu p3 p0 p4):=by
 intro p1 r H
 refine qJ func220 H (fun C hC H=>?_)
 refine gQ 2 ?_;refine q1 (fN ([pS p1.aEa,bJ p1.aD7])) ?_;refine gQ 9 ?_;refine bE H (fun h1 H=>?_) (fun h1 H=>?_)
 ·refine gQ 4 ?_;refine eO H fun x3 x4 z2 H=>(q1 (bI func235 (adP fu p1.aEa _ z2)) ?_)
  refine gQ 13 ?_;refine bE H (fun h5 H=>?_) (fun h5 H=>?_)
  ·refine gQ 3 ?_;refine bM H fun x7 z6 H=>(q1 (bI func192 (xM fu x3 _ z6)) ?_)
   exact gE 2
  refine gQ 7 ?_;refine bE H (fun h8 H=>gE 5) fun h8 H=>?_;refine gQ 7 ?_;refine bE H (fun h9 H=>gE 5) fun h9 H=>?_;refine gQ 5 ?_;refine bM H fun x11 z10 H=>(q1 (bI func191 (CX fu p1.aEa _ z10)) ?_)
  exact gE 2
 refine gQ 3 ?_;refine q1 (sA ([]:Z aB)) ?_;refine gQ 2 ?_;refine cK H fun z12 H=>(q1 (mA z12) ?_)
 refine gQ 3 ?_;refine q1 (iQ ([(aB.mk s_ []),(aB.mk s_ []),(aB.mk s_ [])]:Z aB)) (cK H fun z13 H=>(q1 (mA z13) ?_))
 refine gQ 12 ?_;refine cK H fun z14 H=>(gI H fun y15 h16 H=>(q1 (zM h16 z14) ?_))
 refine gQ 8 ?_;refine cK H fun z17 H=>(gI H fun y18 h19 H=>(q1 (zM h19 z17) ?_))
 refine gQ 9 ?_;refine bE H (fun h20 H=>?_) (fun h20 H=>?_)
 ·refine qS (bM H fun x22 z21 H=>(cK H fun z23 H=>(bM H fun x25 z24 H=>(dW (dI [7] bG (dI [1] bY (dD [59] eI (dI [6] bG (dI [61] (bI func234 (tH fu 2 (p1.aD7.length:Int) _ z21)) ?_)))))))))
  refine dI [60,62] (bC.congrP (bC.sliceR (es:=aB.trs (p1.aD7)) (l:=x22) (k:=(p1.aD7.length:Int)) rfl rfl rfl rfl rfl (by rw [aB.trs_len];exact rfl) (by rw [aB.trs_len];exact z23) DL.h) (aB.trs_part _ _ _)) ?_;refine dI [63] (bI func236 (p5 (List.drop (x22:Int).toNat (List.take (p1.aD7.length:Int).toNat p1.aD7)) _ z24)) (dI [58,64] rR (mK [2,65] lT (dN ?_)))
  exact gE 0
 refine gQ 5 ?_;refine bE H (fun h26 H=>?_) (fun h26 H=>?_)
 ·refine qS (cK H fun z27 H=>(gI H fun y28 h29 H=>(bM H fun x31 z30 H=>(cK H fun z32 H=>(bM H fun x34 z33 H=>(dW (dI [7] bG (dI [5] bG (dI [69] (zM h29 z27) (dI [70] zL (dI [71] yB (dI [1] bY (dD [73] eI ?_)))))))))))))
  refine dI [6] bG (dI [75] (bI func234 (tH fu 3 (p1.aD7.length:Int) _ z30)) ?_)
  refine dI [74,76] (bC.congrP (bC.sliceR (es:=aB.trs (p1.aD7)) (l:=x31) (k:=(p1.aD7.length:Int)) rfl rfl rfl rfl rfl (by rw [aB.trs_len];exact rfl) (by rw [aB.trs_len];exact z32) DL.h) (aB.trs_part _ _ _)) ?_;refine dI [77] (bI func236 (p5 (List.drop (x31:Int).toNat (List.take (p1.aD7.length:Int).toNat p1.aD7)) _ z33)) (dI [68,72,78] rR (mK [2,79] lT (dN ?_)))
  exact gE 0
 refine gQ 5 ?_;refine bE H (fun h35 H=>?_) (fun h35 H=>?_)
 ·refine qS (bM H fun x37 z36 H=>(cK H fun z38 H=>(bM H fun x40 z39 H=>(dW (dI [7] bG (dI [1] bY (dD [83] eI (dI [6] bG (dI [85] (bI func234 (tH fu 2 (p1.aD7.length:Int) _ z36)) ?_)))))))))
  refine dI [84,86] (bC.congrP (bC.sliceR (es:=aB.trs (p1.aD7)) (l:=x37) (k:=(p1.aD7.length:Int)) rfl rfl rfl rfl rfl (by rw [aB.trs_len];exact rfl) (by rw [aB.trs_len];exact z38) DL.h) (aB.trs_part _ _ _)) ?_;refine dI [87] (bI func236 (p5 (List.drop (x37:Int).toNat (List.take (p1.aD7.length:Int).toNat p1.aD7)) _ z39)) (dI [82,88] rR (mK [2,89] lT (dN ?_)))
  exact gE 0
 refine gQ 5 ?_;refine bE H (fun h41 H=>?_) (fun h41 H=>?_)
 ·refine qS (bM H fun x43 z42 H=>(cK H fun z44 H=>(bM H fun x46 z45 H=>(dW (dI [7] bG (dI [1] bY (dD [93] eI (dI [6] bG (dI [95] (bI func234 (tH fu 2 (p1.aD7.length:Int) _ z42)) ?_)))))))))
  refine dI [94,96] (bC.congrP (bC.sliceR (es:=aB.trs (p1.aD7)) (l:=x43) (k:=(p1.aD7.length:Int)) rfl rfl rfl rfl rfl (by rw [aB.trs_len];exact rfl) (by rw [aB.trs_len];exact z44) DL.h) (aB.trs_part _ _ _)) ?_;refine dI [97] (bI func236 (p5 (List.drop (x43:Int).toNat (List.take (p1.aD7.length:Int).toNat p1.aD7)) _ z45)) (dI [92,98] rR (mK [2,99] lT (dN ?_)))
  exact gE 0
 refine gQ 5 ?_;refine bE H (fun h47 H=>?_) (fun h47 H=>?_)
 ·refine gQ 4 ?_;refine cK H fun z48 H=>?_;refine q1 (bC.congrP (bC.sliceR (es:=aB.trs (p1.aD7)) (l:=1) (k:=(p1.aD7.length:Int)) rfl rfl rfl rfl rfl (by rw [aB.trs_len];exact rfl) (by rw [aB.trs_len];exact z48) DL.h) (aB.trs_part _ _ _)) ?_;refine bM H fun x50 z49 H=>(q1 (bI func236 (p5 (List.drop (1:Int).toNat (List.take (p1.aD7.length:Int).toNat p1.aD7)) _ z49)) ?_)
  exact gE 3
 refine gQ 5 ?_;refine bE H (fun h51 H=>?_) (fun h51 H=>?_)
 ·refine qS (bM H fun x53 z52 H=>(cK H fun z54 H=>(bM H fun x56 z55 H=>(dW (dI [7] bG (dI [1] bY (dD [110] eI (dI [6] bG (dI [112] (bI func234 (tH fu 2 (p1.aD7.length:Int) _ z52)) ?_)))))))))
  refine dI [111,113] (bC.congrP (bC.sliceR (es:=aB.trs (p1.aD7)) (l:=x53) (k:=(p1.aD7.length:Int)) rfl rfl rfl rfl rfl (by rw [aB.trs_len];exact rfl) (by rw [aB.trs_len];exact z54) DL.h) (aB.trs_part _ _ _)) ?_;refine dI [114] (bI func236 (p5 (List.drop (x53:Int).toNat (List.take (p1.aD7.length:Int).toNat p1.aD7)) _ z55)) (dI [109,115] rR (mK [2,116] lT (dN ?_)))
  exact gE 0
 refine gQ 5 ?_;refine bE H (fun h57 H=>?_) (fun h57 H=>?_)
 ·refine qS (bM H fun x59 z58 H=>(bM H fun x61 z60 H=>(cK H fun z62 H=>(bM H fun x64 z63 H=>(dW (dI [5] bG (dI [119] (zM h16 z14) (dI [120] (iR (aB.cs y15)) (dI [121] (bI func219 (zK fu y15 _ z58)) (dI [1] bY (dD [123] eI (dI [6] bG (dI [125] (bI func234 (tH fu 2 (p1.aD7.length:Int) _ z60)) ?_)))))))))))))
  refine dI [124,126] (bC.congrP (bC.sliceR (es:=aB.trs (p1.aD7)) (l:=x61) (k:=(p1.aD7.length:Int)) rfl rfl rfl rfl rfl (by rw [aB.trs_len];exact rfl) (by rw [aB.trs_len];exact z62) DL.h) (aB.trs_part _ _ _)) ?_;refine dI [127] (bI func236 (p5 (List.drop (x61:Int).toNat (List.take (p1.aD7.length:Int).toNat p1.aD7)) _ z63)) (dI [122,128] rR (mK [2,129] lT (dN ?_)))
  exact gE 0
 refine gQ 5 ?_;refine bE H (fun h65 H=>?_) (fun h65 H=>?_)
 ·refine qS (bM H fun x67 z66 H=>(cK H fun z68 H=>(bM H fun x70 z69 H=>(dW (dI [1] bY (dB [132] 0 1 vE (dI [6] bG (dI [134] (bI func234 (tH fu 2 (p1.aD7.length:Int) _ z66)) ?_))))))))
  refine dI [133,135] (bC.congrP (bC.sliceR (es:=aB.trs (p1.aD7)) (l:=1) (k:=x67) rfl rfl rfl rfl rfl (by rw [aB.trs_len];exact rfl) (by rw [aB.trs_len];exact z68) DL.h) (aB.trs_part _ _ _)) ?_;refine dI [136] (bI func236 (p5 (List.drop (1:Int).toNat (List.take (x67:Int).toNat p1.aD7)) _ z69)) (dI [137] rR (dE [] tAl (mK [8,138] lT (dN ?_))))
  refine gQ 5 ?_;refine c7.wk (Wk.regBox (k:=2) (j:=8) 262 11 (by decide) rfl rfl) ?_;refine gM 38 (aB.trs_len _) (fun hl74=>?_)
  refine bV (σ:=(Z bW)) (fun i71 v73=>⟨[(1,.ptr 0 0),(2,.ptr 1 0),(5,eS ((([])++p1.aD7)++([(aB.mk s_ []),(aB.mk s_ []),(aB.mk s_ [])]:Z aB)) 0),(6,pN p1.aD7.length),(8,.ptr 2 0),(9,pN i71)],⟨[some ⟨189,[pS p1.aEa,bJ p1.aD7]⟩,some ⟨211,[pI 0,pS s_,pS s_,pI 0,pI 0,pS s_,.nil,.nil,.nil]⟩,some ⟨211,[pI 7,pS s_,pS s_,pI 0,pI 0,pS s_,.nil,jF x70,atW v73 1]⟩],[⟨189,2,aB.trs ((([])++p1.aD7)++([(aB.mk s_ []),(aB.mk s_ []),(aB.mk s_ [])]:Z aB)),false⟩,⟨262,11,bW.trs (v73),false⟩]⟩⟩) (fun v73=>⟨[(1,.ptr 0 0),(2,.ptr 1 0),(5,eS ((([])++p1.aD7)++([(aB.mk s_ []),(aB.mk s_ []),(aB.mk s_ [])]:Z aB)) 0),(6,pN p1.aD7.length),(8,.ptr 2 0)],⟨[some ⟨189,[pS p1.aEa,bJ p1.aD7]⟩,some ⟨211,[pI 0,pS s_,pS s_,pI 0,pI 0,pS s_,.nil,.nil,.nil]⟩,some ⟨211,[pI 7,pS s_,pS s_,pI 0,pI 0,pS s_,.nil,jF x70,atW v73 1]⟩],[⟨189,2,aB.trs ((([])++p1.aD7)++([(aB.mk s_ []),(aB.mk s_ []),(aB.mk s_ [])]:Z aB)),false⟩,⟨262,11,bW.trs (v73),false⟩]⟩⟩) (eX H) ?_ ?_
  ·rintro i71 v73 H
   refine gQ 7 ?_;refine c5 H (fun h75 h75l H=>?_) (fun h75 H=>?_)
   ·refine gQ 3 ?_;refine bM H fun x77 z76 H=>(cK H fun z78 H=>(dW (dI [8] bY (dD [144] eI (dI [1] bY (dD [146] eI (dI [9] bG (dI [147,148] rB (dI [149] (iR (aB.cs (aR p1.aD7 i71))) (dI [150] (bI func237 (pD (aR p1.aD7 i71) _ z76)) (dI [151] (iQ ([x77]:Z bW)) (dE [145,152] (mA z78) (dI [8] bY ?_)))))))))))))
    refine mK [154,153] lT (dN ?_)
    exact gE 5
   exact gE 0
  rintro v73 H
  refine gQ 2 ?_;refine q1 (b5 [pI 7,pS s_,pS s_,pI 0,pI 0,pS s_,.nil,jF x70,atW v73 1]) ?_;exact gE 2
 refine gQ 2 ?_;refine bM H fun x80 z79 H=>(cK H fun z81 H=>(bM H fun x83 z82 H=>(dW (dI [5] bG (dI [156] (zM h19 z17) (dI [157] zL (dI [158] yB (dI [1] bY (dD [160] eI (dI [6] bG (dI [162] (bI func234 (tH fu 1 (p1.aD7.length:Int) _ z79)) ?_)))))))))))
 refine dI [161,163] (bC.congrP (bC.sliceR (es:=aB.trs (p1.aD7)) (l:=x80) (k:=(p1.aD7.length:Int)) rfl rfl rfl rfl rfl (by rw [aB.trs_len];exact rfl) (by rw [aB.trs_len];exact z81) DL.h) (aB.trs_part _ _ _)) ?_;refine dI [164] (bI func236 (p5 (List.drop (x80:Int).toNat (List.take (p1.aD7.length:Int).toNat p1.aD7)) _ z82)) (dI [159,165] rR (mK [2,166] lT (dN ?_)))
 exact gE 0
def adZ(fu:Nat)(p3:kT)(p0:jG)(p4:l7)(p6:Z aB):Nat→((Z aL))→J (LR ((Z aL)) ((Z aL))):=fun i1 v3=>bd (p3 (aR p6 i1)) fun x7=>gd ((v3).length+(([x7]:Z aL)).length≤68719476736) (some (.next (v3++([x7]:Z aL))))
def JQ(fu:Nat)(p3:kT)(p0:jG)(p4:l7)(p6:Z aB):J ((Z aL)):=so (loopN (adZ fu p3 p0 p4 p6) (p6.length-0) 0 ([])) fun v3=>some v3
theorem X8(fu:Nat)(p3:kT)(p0:jG)(p4:l7)(pC:xP p3)(p5:zD p0)(pD:FX p4):zD (JQ fu p3 p0 p4):=by
 intro p6 r H
 refine qJ func236 H (fun C hC H=>?_)
 refine gQ 6 ?_;refine q1 (sA ([]:Z aL)) ?_;refine gQ 7 ?_;refine gM 0 (aB.trs_len _) (fun hl4=>?_)
 refine bV (σ:=(Z aL)) (fun i1 v3=>⟨[(0,bJ p6),(2,.nil),(3,atC v3 0),(4,pN i1)],⟨[],[⟨211,9,aL.trs (v3),false⟩]⟩⟩) (fun v3=>⟨[(2,.nil),(3,atC v3 0)],⟨[],[⟨211,9,aL.trs (v3),false⟩]⟩⟩) (eX H) ?_ ?_
 ·rintro i1 v3 H
  refine gQ 8 ?_;refine c5 H (fun h5 h5l H=>?_) (fun h5 H=>?_)
  ·refine gQ 8 ?_;refine q1 (iR (aB.cs (aR p6 i1))) (bM H fun x7 z6 H=>(q1 (bI func220 (pC (aR p6 i1) _ z6)) (q1 (iQ ([x7]:Z aL)) (cK H fun z8 H=>(q1 (mA z8) ?_)))))
   exact gE 7
  exact gE 0
 rintro v3 H
 exact gE 5
def S7(fu:Nat)(p3:kT)(p0:jG)(p4:l7)(px:aB):J bW:=sw (decide ((px.aD7.length:Int)<2)) (some (bW.mk s_ [] (aL.mk 0 s_ s_ 0 (aA.mk 0 s_ []) [] []))) (gd ((0:Int)≤1∧(1:Int)≤aW ((px.aD7.length:Int)-1)∧(aW ((px.aD7.length:Int)-1):Int)≤(px.aD7.length:Int)) (bd (uT fu (List.drop (1:Int).toNat (List.take (aW ((px.aD7.length:Int)-1):Int).toNat px.aD7))) fun(x4,x5)=>gd (0<(px.aD7).length) (gd (0≤aW ((px.aD7.length:Int)-1)∧(aW ((px.aD7.length:Int)-1)).toNat<(px.aD7).length) (lt (aR px.aD7 ((aW ((px.aD7.length:Int)-1)).toNat)) fun y8=>bd (p3 y8) fun x11=>some (bW.mk ((aR px.aD7 0).aEa) x4 x11)))))
theorem adX(fu:Nat)(p3:kT)(p0:jG)(p4:l7)(pC:xP p3)(p5:zD p0)(pD:FX p4):FX (S7 fu p3 p0 p4):=by
 intro px r H
 refine qJ func237 H (fun C hC H=>?_)
 refine gQ 2 ?_;refine q1 (fN ([pS px.aEa,bJ px.aD7])) ?_;refine gQ 15 ?_;refine bE H (fun h1 H=>?_) (fun h1 H=>?_)
 ·have h1n:px.aD7.length<2:=by have:=of_decide_eq_true h1;omega
  exact gE 5
 refine gQ 7 ?_;refine cK H fun z2 H=>?_;refine q1 (bC.congrP (bC.sliceR (es:=aB.trs (px.aD7)) (l:=1) (k:=aW ((px.aD7.length:Int)-1)) rfl rfl rfl rfl rfl (by rw [aB.trs_len];exact rfl) (by rw [aB.trs_len];exact z2) DL.h) (aB.trs_part _ _ _)) ?_;refine eO H fun x4 x5 z3 H=>(q1 (bI func174 (JY fu (List.drop (1:Int).toNat (List.take (aW ((px.aD7.length:Int)-1):Int).toNat px.aD7)) _ z3)) ?_)
 refine gQ 7 ?_;refine cK H fun z6 H=>(cK H fun z7 H=>(gI H fun y8 h9 H=>(bM H fun x11 z10 H=>(dW (dI [1] bY (dD [21] eI (dI [22] rB (dI [23] zL (dI [24] yB (dI [4] bG (dI [1] bY (dD [27] eI (dI [3] bG ?_)))))))))))))
 refine dI [29] rSw (dI [28,30] (rIm h9 z7 DL.h) (dI [31] (iR (aB.cs y8)) (dI [32] (bI func220 (pC y8 _ z10)) (dI [25,26,33] rR (mK [2,34] lT (dN ?_))))))
 exact gE 0
mutual
def iG:Nat→aB→J aL
 |0,_=>none
 |fu+1,p1=>N7 fu (iG fu) (lI fu) (oP fu) p1
def lI:Nat→(Z aB)→J ((Z aL))
 |0,_=>none
 |fu+1,p6=>JQ fu (iG fu) (lI fu) (oP fu) p6
def oP:Nat→aB→J bW
 |0,_=>none
 |fu+1,px=>S7 fu (iG fu) (lI fu) (oP fu) px
end
theorem adY(fu:Nat):xP (iG fu)∧zD (lI fu)∧FX (oP fu):=by
 induction fu with
 |zero=>exact⟨(fun p1 r H=>by simp only [iG] at H;cases H),(fun p6 r H=>by simp only [lI] at H;cases H),(fun px r H=>by simp only [oP] at H;cases H)⟩
 |succ fu ih=>exact⟨(fun p1 r H=>by simp only [iG] at H;exact aaJ fu (iG fu) (lI fu) (oP fu) ih.1 ih.2.1 ih.2.2 p1 r H),(fun p6 r H=>by simp only [lI] at H;exact X8 fu (iG fu) (lI fu) (oP fu) ih.1 ih.2.1 ih.2.2 p6 r H),(fun px r H=>by simp only [oP] at H;exact adX fu (iG fu) (lI fu) (oP fu) ih.1 ih.2.1 ih.2.2 px r H)⟩
theorem JP(fu:Nat):xP (iG fu):=(adY fu).1
abbrev t0:=aL→Option aB
abbrev nV:=(List aB)→(List aL)→Option aB
def JR(m:t0):Prop:= ∀(p1:aL) (r:aB),m p1=some r→bS prog 243 [(aL.pv p1)] ((aB.pv r):PV)
def G5(m:nV):Prop:= ∀(pA:Z aB) (p6:Z aL) (r:aB),m pA p6=some r→cF prog 256 [eS pA 0,jF p6] ⟨[],[⟨189,2,aB.trs (pA),false⟩]⟩ (fun q t=>q=(.agg [pS r.aEa,eS r.aD7 0]:PV)∧t=⟨[],[⟨189,2,aB.trs (r.aD7),false⟩]⟩)
def aoJ(fu:Nat)(p8:t0)(p2:nV)(p1:aL)(x68 x70:aB):Nat→((Z aB))→J (LR ((Z aB)) aB):=fun i71 v73=>lt (aR p1.aEo i71) fun y76=>bd (cI fu y76.aEt) fun x79=>bd (HO fu y76.aEh) fun x81=>gd ((([x79]:Z aB)).length+x81.length≤68719476736) (bd (p8 y76.aEe) fun x84=>gd ((([x79]:Z aB)++x81).length+(([x84]:Z aB)).length≤68719476736) (gd ((v73).length+(([(aB.mk s_ ((([x79]:Z aB)++x81)++([x84]:Z aB)))]:Z aB)).length≤68719476736) (some (.next (v73++([(aB.mk s_ ((([x79]:Z aB)++x81)++([x84]:Z aB)))]:Z aB))))))
def X9(fu:Nat)(p8:t0)(p2:nV)(p1:aL):J aB:=sw (decide (p1.aD8=1)) (bd (pX fu p1.aEM) fun x3=>bd (cI fu x3) fun x5=>some x5) (sw (decide (p1.aD8=2)) (gd (0≤p1.aEM∧(p1.aEM).toNat<(([mM,rQ]:LB)).length) (bd (cI fu (aR ([mM,rQ]:LB) ((p1.aEM).toNat))) fun x9=>some x9)) (sw (decide (p1.aD8=3)) (bd (cI fu p1.aD4) fun x12=>some x12) (sw (decide (p1.aD8=4)) (bd (cI fu S3) fun x15=>bd (cI fu p1.aD4) fun x17=>bd (p2 ([x15,x17]:Z aB) p1.aD5) fun x19=>some (aB.mk x19.aEa x19.aD7)) (sw (decide (p1.aD8=5)) (bd (cI fu q7) fun x22=>bd (cI fu p1.aEb) fun x24=>bd (cI fu p1.aD4) fun x26=>bd (p2 ([x22,x24,x26]:Z aB) p1.aD5) fun x28=>some (aB.mk x28.aEa x28.aD7)) (sw (decide (p1.aD8=6)) (bd (cI fu IA) fun x31=>bd (cI fu p1.aD4) fun x33=>bd (p2 ([x31,x33]:Z aB) p1.aD5) fun x35=>some (aB.mk x35.aEa x35.aD7)) (sw (decide (p1.aD8=8)) (bd (cI fu H9) fun x38=>bd (cI fu p1.aD4) fun x40=>bd (p2 ([x38,x40]:Z aB) p1.aD5) fun x42=>some (aB.mk x42.aEa x42.aD7)) (sw (decide (p1.aD8=9)) (bd (cI fu GZ) fun x45=>bd (p2 ([x45]:Z aB) p1.aD5) fun x47=>some (aB.mk x47.aEa x47.aD7)) (sw (decide (p1.aD8=10)) (bd (cI fu p1.aD4) fun x50=>bd (p2 ([x50]:Z aB) p1.aD5) fun x52=>some (aB.mk x52.aEa x52.aD7)) (sw (decide (p1.aD8=11)) (bd (cI fu AF) fun x55=>bd (cI fu p1.aEb) fun x57=>bd (p2 ([x55,x57]:Z aB) p1.aD5) fun x59=>some (aB.mk x59.aEa x59.aD7)) (sw (decide (p1.aD8=12)) (bd (cI fu abU) fun x62=>bd (nO fu p1.aD6) fun x64=>bd (p2 ([x62,x64]:Z aB) p1.aD5) fun x66=>some (aB.mk x66.aEa x66.aD7)) (bd (cI fu AE) fun x68=>bd (p2 ([x68]:Z aB) p1.aD5) fun x70=>so (loopN (aoJ fu p8 p2 p1 x68 x70) (p1.aEo.length-0) 0 x70.aD7) fun v73=>some (aB.mk x70.aEa v73))))))))))))
theorem ahZ(fu:Nat)(p8:t0)(p2:nV)(pE:JR p8)(p7:G5 p2):JR (X9 fu p8 p2):=by
 intro p1 r H
 refine qJ func243 H (fun C hC H=>?_)
 refine gQ 2 ?_;refine q1 (fN (jR p1)) ?_;refine gQ 14 ?_;refine bE H (fun h1 H=>?_) (fun h1 H=>?_)
 ·refine gQ 4 ?_;refine bM H fun x3 z2 H=>(q1 (bI func255 (EU fu p1.aEM _ z2)) (bM H fun x5 z4 H=>(q1 (bI func239 (b8 fu x3 _ z4)) ?_)))
  exact gE 2
 refine gQ 5 ?_;refine bE H (fun h6 H=>?_) (fun h6 H=>?_)
 ·refine gQ 2 ?_;refine q1 (iQ ([mM,rQ]:LB)) ?_;refine gQ 2 ?_;refine cK H fun z7 H=>(q1 (rIy z7 ZI.h) (q1 yB (bM H fun x9 z8 H=>(q1 (bI func239 (b8 fu (aR ([mM,rQ]:LB) ((p1.aEM).toNat)) _ z8)) ?_))))
  exact gE 2
 refine gQ 5 ?_;refine bE H (fun h10 H=>?_) (fun h10 H=>?_)
 ·refine gQ 4 ?_;refine bM H fun x12 z11 H=>(q1 (bI func239 (b8 fu p1.aD4 _ z11)) ?_)
  exact gE 2
 refine gQ 5 ?_;refine bE H (fun h13 H=>?_) (fun h13 H=>?_)
 ·refine qS (bM H fun x15 z14 H=>(bM H fun x17 z16 H=>(bM H fun x19 z18 H=>(dW (dI [] (bI func239 (b8 fu S3 _ z14)) (dI [1] bY (dD [31] eI (dI [32] (bI func239 (b8 fu p1.aD4 _ z16)) (dE [30,33] (sA ([x15,x17]:Z aB)) (dI [1] bY (dB [35] 0 1 vE (dE [34,36] (fJ [] [0] func256 (p7 ([x15,x17]:Z aB) p1.aD5 _ z18)) (mK [2,37] lT ?_)))))))))))))
  refine dN ?_;exact gE 0
 refine gQ 5 ?_;refine bE H (fun h20 H=>?_) (fun h20 H=>?_)
 ·refine qS (bM H fun x22 z21 H=>(bM H fun x24 z23 H=>(bM H fun x26 z25 H=>(bM H fun x28 z27 H=>(dW (dI [] (bI func239 (b8 fu q7 _ z21)) (dI [1] bY (dD [41] eI (dI [42] (bI func239 (b8 fu p1.aEb _ z23)) (dI [1] bY (dD [44] eI (dI [45] (bI func239 (b8 fu p1.aD4 _ z25)) (dE [40,43,46] (sA ([x22,x24,x26]:Z aB)) ?_)))))))))))))
  refine dI [1] bY (dB [48] 0 1 vE (dE [47,49] (fJ [] [0] func256 (p7 ([x22,x24,x26]:Z aB) p1.aD5 _ z27)) (mK [2,50] lT (dN ?_))))
  exact gE 0
 refine gQ 5 ?_;refine bE H (fun h29 H=>?_) (fun h29 H=>?_)
 ·refine qS (bM H fun x31 z30 H=>(bM H fun x33 z32 H=>(bM H fun x35 z34 H=>(dW (dI [] (bI func239 (b8 fu IA _ z30)) (dI [1] bY (dD [54] eI (dI [55] (bI func239 (b8 fu p1.aD4 _ z32)) (dE [53,56] (sA ([x31,x33]:Z aB)) (dI [1] bY (dB [58] 0 1 vE (dE [57,59] (fJ [] [0] func256 (p7 ([x31,x33]:Z aB) p1.aD5 _ z34)) (mK [2,60] lT ?_)))))))))))))
  refine dN ?_;exact gE 0
 refine gQ 5 ?_;refine bE H (fun h36 H=>?_) (fun h36 H=>?_)
 ·refine qS (bM H fun x38 z37 H=>(bM H fun x40 z39 H=>(bM H fun x42 z41 H=>(dW (dI [] (bI func239 (b8 fu H9 _ z37)) (dI [1] bY (dD [64] eI (dI [65] (bI func239 (b8 fu p1.aD4 _ z39)) (dE [63,66] (sA ([x38,x40]:Z aB)) (dI [1] bY (dB [68] 0 1 vE (dE [67,69] (fJ [] [0] func256 (p7 ([x38,x40]:Z aB) p1.aD5 _ z41)) (mK [2,70] lT ?_)))))))))))))
  refine dN ?_;exact gE 0
 refine gQ 5 ?_;refine bE H (fun h43 H=>?_) (fun h43 H=>?_)
 ·refine qS (bM H fun x45 z44 H=>(bM H fun x47 z46 H=>(dW (dI [] (bI func239 (b8 fu GZ _ z44)) (dE [73] (sA ([x45]:Z aB)) (dI [1] bY (dB [75] 0 1 vE (dE [74,76] (fJ [] [0] func256 (p7 ([x45]:Z aB) p1.aD5 _ z46)) (mK [2,77] lT (dN ?_))))))))))
  exact gE 0
 refine gQ 5 ?_;refine bE H (fun h48 H=>?_) (fun h48 H=>?_)
 ·refine qS (bM H fun x50 z49 H=>(bM H fun x52 z51 H=>(dW (dI [1] bY (dD [80] eI (dI [81] (bI func239 (b8 fu p1.aD4 _ z49)) (dE [82] (sA ([x50]:Z aB)) (dI [1] bY (dB [84] 0 1 vE (dE [83,85] (fJ [] [0] func256 (p7 ([x50]:Z aB) p1.aD5 _ z51)) (mK [2,86] lT (dN ?_))))))))))))
  exact gE 0
 refine gQ 5 ?_;refine bE H (fun h53 H=>?_) (fun h53 H=>?_)
 ·refine qS (bM H fun x55 z54 H=>(bM H fun x57 z56 H=>(bM H fun x59 z58 H=>(dW (dI [] (bI func239 (b8 fu AF _ z54)) (dI [1] bY (dD [90] eI (dI [91] (bI func239 (b8 fu p1.aEb _ z56)) (dE [89,92] (sA ([x55,x57]:Z aB)) (dI [1] bY (dB [94] 0 1 vE (dE [93,95] (fJ [] [0] func256 (p7 ([x55,x57]:Z aB) p1.aD5 _ z58)) (mK [2,96] lT ?_)))))))))))))
  refine dN ?_;exact gE 0
 refine gQ 5 ?_;refine bE H (fun h60 H=>?_) (fun h60 H=>?_)
 ·refine qS (bM H fun x62 z61 H=>(bM H fun x64 z63 H=>(bM H fun x66 z65 H=>(dW (dI [] (bI func239 (b8 fu abU _ z61)) (dI [1] bY (dD [100] (b5 [pI p1.aD6.aD8,pS p1.aD6.aD4,aT p1.aD6.aD5]) (dI [101] (bI func242 (zJ fu p1.aD6 _ z63)) (dE [99,102] (sA ([x62,x64]:Z aB)) (dI [1] bY (dB [104] 0 1 vE (dE [103,105] (fJ [] [0] func256 (p7 ([x62,x64]:Z aB) p1.aD5 _ z65)) (mK [2,106] lT ?_)))))))))))))
  refine dN ?_;exact gE 0
 refine gQ 2 ?_;refine bM H fun x68 z67 H=>(bM H fun x70 z69 H=>(dWa (dI [] (bI func239 (b8 fu AE _ z67)) ?_)))
 refine dEz [107] (fun _ z=>by cases z<;>exact rBa ([x68]:Z aB) DL.h ab6.h) ?_;refine dI [1] bY (dBz [109] 0 1 vE ?_)
 refine dEz [108,110] (fun _ z=>by cases z<;>exact fJ [] [0] func256 (p7 ([x68]:Z aB) p1.aD5 _ z69)) ?_;refine dA (fun _ st h=>vAl h ab6.h) (dZ 3 [3,111] lT (dN ?_))
 refine gQ 5 ?_;refine c7.fact (cQ 0 8 rfl rfl rfl (bW.trs_len _)) (fun hl74=>?_)
 refine bV (σ:=(Z aB)) (fun i71 v73=>⟨[(1,.ptr 0 0),(2,.ptr 1 0),(3,.ptr 2 0),(4,pN i71)],⟨[some ⟨211,jR p1⟩,some ⟨189,[pS s_,.nil]⟩,some ⟨189,[pS x70.aEa,eS v73 0]⟩],[⟨189,2,aB.trs (v73),false⟩]⟩⟩) (fun v73=>⟨[(2,.ptr 1 0),(3,.ptr 2 0)],⟨[some ⟨211,jR p1⟩,some ⟨189,[pS s_,.nil]⟩,some ⟨189,[pS x70.aEa,eS v73 0]⟩],[⟨189,2,aB.trs (v73),false⟩]⟩⟩) (eX H) ?_ ?_
 ·rintro i71 v73 H
  refine gQ 9 ?_;refine c5 H (fun h75 h75l H=>?_) (fun h75 H=>?_)
  ·refine gQ 8 ?_;refine gI H fun y76 h77 H=>(q1 (zM h77 h75l) (q1 (iR (bW.cs y76)) ?_))
   refine gQ 4 ?_;refine bM H fun x79 z78 H=>(bM H fun x81 z80 H=>(cK H fun z82 H=>(dW (dI [5] bY (dD [124] eI (dI [125] (bI func239 (b8 fu y76.aEt _ z78)) (dE [126] (sA ([x79]:Z aB)) (dI [5] bY (dB [128] 0 1 vE (dI [129] (bI func254 (UD fu y76.aEh _ z80)) (dE [127,130] (mA z82) (dI [131] bG (dN ?_)))))))))))))
   refine bM H fun x84 z83 H=>(cK H fun z85 H=>(cK H fun z86 H=>(dW (dI [3] bY (dB [132] 0 1 vE (dI [6] bG (dI [5] bY (dD [135] (b5 [pI y76.aEe.aD8,pS y76.aEe.aEb,pS y76.aEe.aD4,pI y76.aEe.aEM,pI y76.aEe.aD6.aD8,pS y76.aEe.aD6.aD4,aT y76.aEe.aD6.aD5,jF y76.aEe.aD5,tA y76.aEe.aEo]) (dI [136] (bI func243 (pE y76.aEe _ z83)) (dI [137] (iQ ([x84]:Z aB)) (dE [134,138] (mA z85) (dI [139] rR (dI [140] (iQ ([(aB.mk s_ ((([x79]:Z aB)++x81)++([x84]:Z aB)))]:Z aB)) ?_)))))))))))))
   refine dE [133,141] (mA z86) (dI [3] bY (mK [143,142] lT (dN ?_)))
   exact gE 5
  exact gE 0
 rintro v73 H
 refine gQ 2 ?_;refine q1 (b5 [pS x70.aEa,eS v73 0]) ?_;exact gE 2
def ahV(fu:Nat)(p8:t0)(p2:nV)(pA:Z aB)(p6:Z aL):Nat→((Z aB))→J (LR ((Z aB)) aB):=fun i1 v3=>lt (aR p6 i1) fun y6=>bd (p8 y6) fun x9=>gd ((v3).length+(([x9]:Z aB)).length≤68719476736) (some (.next (v3++([x9]:Z aB))))
def N6(fu:Nat)(p8:t0)(p2:nV)(pA:Z aB)(p6:Z aL):J aB:=so (loopN (ahV fu p8 p2 pA p6) (p6.length-0) 0 pA) fun v3=>some (aB.mk s_ v3)
theorem aaI(fu:Nat)(p8:t0)(p2:nV)(pE:JR p8)(p7:G5 p2):G5 (N6 fu p8 p2):=by
 intro pA p6 r H
 refine qJ func256 H (fun C hC H=>?_)
 refine gQ 16 ?_;refine gM 1 (aL.trs_len _) (fun hl4=>?_)
 refine bV (σ:=(Z aB)) (fun i1 v3=>⟨[(1,jF p6),(4,.ptr 0 0),(5,.ptr 1 0),(6,pN i1)],⟨[some ⟨189,[pS s_,.nil]⟩,some ⟨189,[pS s_,eS v3 0]⟩],[⟨189,2,aB.trs (v3),false⟩]⟩⟩) (fun v3=>⟨[(4,.ptr 0 0),(5,.ptr 1 0)],⟨[some ⟨189,[pS s_,.nil]⟩,some ⟨189,[pS s_,eS v3 0]⟩],[⟨189,2,aB.trs (v3),false⟩]⟩⟩) (eX H) ?_ ?_
 ·rintro i1 v3 H
  refine gQ 8 ?_;refine c5 H (fun h5 h5l H=>?_) (fun h5 H=>?_)
  ·refine gQ 3 ?_;refine gI H fun y6 h7 H=>(bM H fun x9 z8 H=>(cK H fun z10 H=>(dW (dI [5] bY (dD [15] eI (dI [1] bG (dI [6] bG (dI [17,18] (zM h7 h5l) (dI [19] (iR (aL.cs y6)) (dI [20] (bI func243 (pE y6 _ z8)) (dI [21] (iQ ([x9]:Z aB)) (dE [16,22] (mA z10) (dI [5] bY ?_)))))))))))))
   refine mK [24,23] lT (dN ?_)
   exact gE 5
  exact gE 0
 rintro v3 H
 refine gQ 2 ?_;refine q1 (b5 [pS s_,eS v3 0]) ?_;exact gE 2
mutual
def nK:Nat→aL→J aB
 |0,_=>none
 |fu+1,p1=>X9 fu (nK fu) (qA fu) p1
def qA:Nat→(Z aB)→(Z aL)→J aB
 |0,_,_=>none
 |fu+1,pA,p6=>N6 fu (nK fu) (qA fu) pA p6
end
theorem akR(fu:Nat):JR (nK fu)∧G5 (qA fu):=by
 induction fu with
 |zero=>exact⟨(fun p1 r H=>by simp only [nK] at H;cases H),(fun pA p6 r H=>by simp only [qA] at H;cases H)⟩
 |succ fu ih=>exact⟨(fun p1 r H=>by simp only [nK] at H;exact ahZ fu (nK fu) (qA fu) ih.1 ih.2 p1 r H),(fun pA p6 r H=>by simp only [qA] at H;exact aaI fu (nK fu) (qA fu) ih.1 ih.2 pA p6 r H)⟩
theorem S8(fu:Nat):JR (nK fu):=(akR fu).1
end
end Go.Proofs.YtfcoaagbccmahaaGreat.W
