/- The reference's parser, pG 4. No conditions. -/
import Derived.Test.YtfcoaagbccmahaaGreatQh0000250d
set_option linter.unusedSimpArgs false
set_option linter.unusedVariables false
namespace Go.Proofs.YtfcoaagbccmahaaGreat.W
set_option maxRecDepth 100000
set_option maxHeartbeats 40000000
noncomputable section
open Tryz Go.RowKit Go.Proofs
attribute [local irreducible] lt
abbrev pY:=aG→Int→Option Int
def AD(m:pY):Prop:= ∀(pe:aG) (p8:Int) (r:Int),m pe p8=some r→bP Tryz.prog 268 [(aG.pv pe),pI p8] (pI r:PV)
def WG(fu:Nat)(p6:pY)(pe:aG)(p8:Int):Nat→Int→Option (LR Int Int):=fun i1 v2=>sw (decide (v2≥0)) (lt (aP pe.asG i1) fun y6=>bd (p6 y6 v2) fun x9=>some (.next x9)) (some (.brk v2))
def WH(fu:Nat)(p6:pY)(pe:aG)(p8 v2:Int):Nat→Int→Option (LR Int Int):=fun i10 v11=>sw (decide (v11≥0)) (lt (aP pe.asV i10) fun y15=>bd (p6 y15.asM v11) fun x18=>some (.next x18)) (some (.brk v11))
def GA(fu:Nat)(p6:pY)(pe:aG)(p8:Int):Option Int:=so (loopN (WG fu p6 pe p8) (pe.asG.length-0) 0 (aY (p8-1))) fun v2=>so (loopN (WH fu p6 pe p8 v2) (pe.asV.length-0) 0 v2) fun v11=>some v11
theorem QH(fu:Nat)(p6:pY)(pC:AD p6):AD (GA fu p6):=by
 intro pe p8 r H
 refine qJ func268 H (fun C hC H=>?_)
 refine gQ 2 ?_;refine q1 (iR (gF pe)) ?_;refine gQ 13 ?_;refine cF.fact (b6 0 7 rfl rfl rfl (aG.trs_len _)) (fun hl3=>?_)
 refine bM (σ:=Int) (fun i1 v2=>⟨[(1,pI v2),(2,.ptr 0 0),(4,pI 0),(5,pN i1)],⟨[some ⟨211,gF pe⟩],[]⟩⟩) (fun v2=>⟨[(1,pI v2),(2,.ptr 0 0),(4,pI 0)],⟨[some ⟨211,gF pe⟩],[]⟩⟩) (eR H) ?_ ?_
 ·rintro i1 v2 H
  refine gQ 9 ?_;refine AL.splitB 14 rfl (fun g4=>?_) (fun g4=>?_)
  ·have g4l:=sE g4
   have H:=lnT g4l H
   have g4n:=uZ g4
   refine gQ 4 ?_;refine a7 H (fun h5 H=>?_) (fun h5 H=>?_)
   ·refine gQ 7 ?_;refine fI H fun y6 h7 H=>(q1 (uG h7 g4n) (q1 (jB (aG.cs y6)) (q1 bG (bD H fun x9 z8 H=>(q1 (bC func268 (pC y6 v2 _ z8)) ?_)))))
    exact gE 7
   exact gE 0
  have H:=lnE (sD g4) H
  exact gE 5
 rintro v2 H
 refine gQ 5 ?_;refine cF.fact (b6 0 8 rfl rfl rfl (bH.trs_len _)) (fun hl12=>?_)
 refine bM (σ:=Int) (fun i10 v11=>⟨[(1,pI v11),(2,.ptr 0 0),(4,pI 0),(6,pN i10)],⟨[some ⟨211,gF pe⟩],[]⟩⟩) (fun v11=>⟨[(1,pI v11),(4,pI 0)],⟨[some ⟨211,gF pe⟩],[]⟩⟩) (eR H) ?_ ?_
 ·rintro i10 v11 H
  refine gQ 9 ?_;refine AL.splitB 32 rfl (fun g13=>?_) (fun g13=>?_)
  ·have g13l:=sE g13
   have H:=lnT g13l H
   have g13n:=uZ g13
   refine gQ 4 ?_;refine a7 H (fun h14 H=>?_) (fun h14 H=>?_)
   ·refine gQ 7 ?_;refine fI H fun y15 h16 H=>(q1 (uG h16 g13n) (q1 y2 (q1 (jB (aG.cs y15.asM)) (q1 bG (bD H fun x18 z17 H=>(q1 (bC func268 (pC y15.asM v11 _ z17)) ?_))))))
    exact gE 7
   exact gE 0
  have H:=lnE (sD g13) H
  exact gE 5
 rintro v11 H
 exact gE 5
def kY:Nat→aG→Int→Option Int
 |0,_,_=>none
 |fu+1,pe,p8=>GA fu (kY fu) pe p8
theorem S9(fu:Nat):AD (kY fu):=by
 induction fu with
 |zero=>exact(fun pe p8 r H=>by simp only [kY] at H;cases H)
 |succ fu ih=>exact(fun pe p8 r H=>by simp only [kY] at H;exact QH fu (kY fu) ih pe p8 r H)
theorem WJ(fu:Nat):AD (kY fu):=(S9 fu)
def Y7(fu:Nat)(pk:Int):Option ((Bool×Bool×Bool×Bool×Int×Bool)⊕Bool):=sw (decide (pk=1)) (some (.inr (decide (pk=1)))) (some (.inr (decide (pk=2))))
def Y8(fu:Nat)(pk:Int)(v1:Bool):Option ((Bool×Bool×Bool×Bool×Int×Bool)⊕Bool):=sw (decide (pk=4)) (some (.inr (decide (pk=4)))) (some (.inr (decide (pk=6))))
def Y9(fu:Nat)(pk:Int)(v1 v5:Bool):Option ((Bool×Bool×Bool×Bool×Int×Bool)⊕Bool):=sw (decide (pk=8)) (some (.inr (decide (pk=8)))) (some (.inr (decide (pk=10))))
def KD(fu:Nat)(pk:Int):Option (Bool×Bool×Bool×Bool×Int×Bool):=so (Y7 fu pk) fun v1=>sw (v1) (some (false,false,true,false,0,false)) (sw (decide (pk=3)) (some (false,true,false,false,0,false)) (so (Y8 fu pk v1) fun v5=>sw (v5) (some (false,true,false,false,(-1),false)) (sw (decide (pk=5)) (some (true,true,false,false,(-1),false)) (sw (decide (pk=7)) (some (false,false,false,false,1,true)) (so (Y9 fu pk v1 v5) fun v10=>sw (v10) (some (false,true,false,false,2,false)) (sw (decide (pk=9)) (some (false,false,false,false,3,false)) (sw (decide (pk=11)) (some (true,false,false,false,1,false)) (some (false,false,false,true,1,false)))))))))
theorem ZA(fu:Nat)(pk:Int)(r:Bool×Bool×Bool×Bool×Int×Bool)(H:KD fu pk=some r):bP Tryz.prog 271 [pI pk] (.tup [pB r.1,pB r.2.1,pB r.2.2.1,pB r.2.2.2.1,pI r.2.2.2.2.1,pB r.2.2.2.2.2]):=by
 refine qJ func271 H (fun C hC H=>?_)
 refine gQ 16 ?_;refine m3 (σ:=Bool) (fun v1=>⟨[(2,pB false),(3,pB false),(4,pB false),(5,pB false),(6,pI 0),(7,pB false),(8,pI pk),(9,pB v1)],⟨[],[]⟩⟩) (eR H) (fun H=>?_) ?_
 ·refine gQ 5 ?_;refine a7 H (fun h2 H=>gE 1) fun h2 H=>?_;exact gE 4
 rintro v1 H
 refine a7 H (fun h3 H=>gE 9) fun h3 H=>?_;refine gQ 5 ?_;refine a7 H (fun h4 H=>gE 9) fun h4 H=>?_;refine qS ?_;refine m3 (σ:=Bool) (fun v5=>⟨[(2,pB false),(3,pB false),(4,pB false),(5,pB false),(6,pI 0),(7,pB false),(8,pI pk),(14,pB v5)],⟨[],[]⟩⟩) (eR H) (fun H=>?_) ?_
 ·refine gQ 5 ?_;refine a7 H (fun h6 H=>gE 1) fun h6 H=>?_;exact gE 4
 rintro v5 H
 refine a7 H (fun h7 H=>gE 9) fun h7 H=>?_;refine gQ 5 ?_;refine a7 H (fun h8 H=>gE 9) fun h8 H=>?_;refine gQ 5 ?_;refine a7 H (fun h9 H=>gE 9) fun h9 H=>?_;refine qS ?_;refine m3 (σ:=Bool) (fun v10=>⟨[(2,pB false),(3,pB false),(4,pB false),(5,pB false),(6,pI 0),(7,pB false),(8,pI pk),(21,pB v10)],⟨[],[]⟩⟩) (eR H) (fun H=>?_) ?_
 ·refine gQ 5 ?_;refine a7 H (fun h11 H=>gE 1) fun h11 H=>?_;exact gE 4
 rintro v10 H
 refine a7 H (fun h12 H=>gE 9) fun h12 H=>?_;refine gQ 5 ?_;refine a7 H (fun h13 H=>gE 9) fun h13 H=>?_;refine gQ 5 ?_;refine a7 H (fun h14 H=>gE 9) fun h14 H=>?_;exact gE 10
def GB(fu:Nat)(ps:ByteArray):Option Bool:=bd (iW fu ([wH,A5,IQ,IR,IS]:LB) ps) fun x2=>some x2
theorem WK(fu:Nat)(ps:ByteArray)(r:Bool)(H:GB fu ps=some r):bP Tryz.prog 272 [pS ps] (pB r):=by
 refine qJ func272 H (fun C hC H=>?_)
 refine gQ 6 ?_;refine q1 (gC ([wH,A5,IQ,IR,IS]:LB)) (q1 bG (bD H fun x2 z1 H=>(q1 (bC func153 (jY fu ([wH,A5,IQ,IR,IS]:LB) ps _ z1)) ?_)))
 exact gE 2
def lY(fu:Nat)(pt:aA):Option Bool:=sw (decide (pt.asJ=0)) (sw (decide (pt.asD=s_)) (some (decide ((pt.asG.length:Int)=0))) (some false)) (some false)
theorem tE(fu:Nat)(pt:aA)(r:Bool)(H:lY fu pt=some r):bP Tryz.prog 251 [(aA.pv pt)] (pB r):=by
 refine qJ func251 H (fun C hC H=>?_)
 refine gQ 2 ?_;refine q1 (iR (cN pt)) ?_;refine gQ 8 ?_;refine dF 6 H (fun g1 H=>?_) fun g1 H=>?_
 ·refine gQ 5 ?_;refine dF 11 H (fun g2 H=>gE 7) fun g2 H=>?_;exact gE 7
 exact gE 12
abbrev jM:=aG→Option Bool
def AB(m:jM):Prop:= ∀(p0:aG) (r:Bool),m p0=some r→bP Tryz.prog 269 [(aG.pv p0)] (pB r:PV)
def V2(fu:Nat)(p1:jM)(p0:aG)(x2 x3 x4 x5:Bool)(x6:Int)(x7:Bool):Option (Bool⊕Unit):=bd (AI fu p0.asJ 1 12) fun x9=>sw (!(x9)) (some (.inl false)) (bd (cO fu p0.asN) fun x12=>sw (!decide (x12=x2)) (some (.inl false)) (sw (!(x2)) (sw (!decide (p0.asN=s_)) (some (.inl false)) (sw (!(x4)) (sw (!decide (p0.atN=0)) (some (.inl false)) (sw (!decide ((decide ((p0.asV.length:Int)>0):Bool)=x7)) (some (.inl false)) (some (.inr ())))) (sw (!decide ((decide ((p0.asV.length:Int)>0):Bool)=x7)) (some (.inl false)) (some (.inr ()))))) (sw (!(x4)) (sw (!decide (p0.atN=0)) (some (.inl false)) (sw (!decide ((decide ((p0.asV.length:Int)>0):Bool)=x7)) (some (.inl false)) (some (.inr ())))) (sw (!decide ((decide ((p0.asV.length:Int)>0):Bool)=x7)) (some (.inl false)) (some (.inr ()))))))
def V3(fu:Nat)(p1:jM)(p0:aG)(x2 x3 x4 x5:Bool)(x6:Int)(x7:Bool):Option (Bool⊕Unit):=sw (decide (p0.asJ=10)) (bd (GB fu p0.asD) fun x26=>sw (!(x26)) (some (.inl false)) (sw (!decide (p0.asJ=10)) (bd (cO fu p0.asD) fun x30=>sw (!decide (x30=x3)) (some (.inl false)) (sw (!(x3)) (sw (!decide (p0.asD=s_)) (some (.inl false)) (some (.inr ()))) (some (.inr ())))) (some (.inr ())))) (sw (!decide (p0.asJ=10)) (bd (cO fu p0.asD) fun x36=>sw (!decide (x36=x3)) (some (.inl false)) (sw (!(x3)) (sw (!decide (p0.asD=s_)) (some (.inl false)) (some (.inr ()))) (some (.inr ())))) (some (.inr ())))
def V4(fu:Nat)(p1:jM)(p0:aG)(x2 x3 x4 x5:Bool)(x6:Int)(x7:Bool):Option (Bool⊕Unit):=sw (decide (x6≥0)) (sw (!decide ((p0.asG.length:Int)=x6)) (some (.inl false)) (sw (decide (p0.asJ=5)) (sw (decide ((p0.asG.length:Int)=0)) (some (.inl false)) (sw x5 (bd (fS fu p0.asH) fun x46=>sw (!(x46)) (some (.inl false)) (some (.inr ()))) (bd (lY fu p0.asH) fun x49=>sw (!(x49)) (some (.inl false)) (some (.inr ()))))) (sw x5 (bd (fS fu p0.asH) fun x53=>sw (!(x53)) (some (.inl false)) (some (.inr ()))) (bd (lY fu p0.asH) fun x56=>sw (!(x56)) (some (.inl false)) (some (.inr ())))))) (sw (decide (p0.asJ=5)) (sw (decide ((p0.asG.length:Int)=0)) (some (.inl false)) (sw x5 (bd (fS fu p0.asH) fun x62=>sw (!(x62)) (some (.inl false)) (some (.inr ()))) (bd (lY fu p0.asH) fun x65=>sw (!(x65)) (some (.inl false)) (some (.inr ()))))) (sw x5 (bd (fS fu p0.asH) fun x69=>sw (!(x69)) (some (.inl false)) (some (.inr ()))) (bd (lY fu p0.asH) fun x72=>sw (!(x72)) (some (.inl false)) (some (.inr ())))))
def V5(fu:Nat)(p1:jM)(p0:aG)(x2 x3 x4 x5:Bool)(x6:Int)(x7:Bool):Option (Bool⊕Unit):=sw (decide (p0.asJ=1)) (bd (AI fu p0.atN (-999999) 999999) fun x76=>sw (!(x76)) (some (.inl false)) (some (.inr ()))) (sw (decide (p0.asJ=2)) (bd (AI fu p0.atN 0 1) fun x80=>sw (!(x80)) (some (.inl false)) (some (.inr ()))) (some (.inr ())))
def V6(fu:Nat)(p1:jM)(p0:aG)(x2 x3 x4 x5:Bool)(x6:Int)(x7:Bool):Nat→Unit→Option (LR Unit Bool):=fun i82 _=>lt (aP p0.asG i82) fun y85=>bd (p1 y85) fun x88=>sw (!(x88)) (some (.ret false)) (some (.next ()))
def V7(fu:Nat)(p1:jM)(p0:aG)(x2 x3 x4 x5:Bool)(x6:Int)(x7:Bool):Nat→Unit→Option (LR Unit Bool):=fun i90 _=>lt (aP p0.asV i90) fun y93=>bd (cO fu y93.asZ) fun x96=>sw (!(x96)) (some (.ret false)) (bd (AP fu y93.asP) fun x99=>sw (!(x99)) (some (.ret false)) (bd (iH fu y93.asP) fun x102=>sw (!(x102)) (some (.ret false)) (bd (p1 y93.asM) fun x105=>sw (!(x105)) (some (.ret false)) (some (.next ())))))
def F8(fu:Nat)(p1:jM)(p0:aG):Option Bool:=bd (KD fu p0.asJ) fun(x2,x3,x4,x5,x6,x7)=>so (V2 fu p1 p0 x2 x3 x4 x5 x6 x7) fun _=>so (V3 fu p1 p0 x2 x3 x4 x5 x6 x7) fun _=>so (V4 fu p1 p0 x2 x3 x4 x5 x6 x7) fun _=>so (V5 fu p1 p0 x2 x3 x4 x5 x6 x7) fun _=>so (loopN (V6 fu p1 p0 x2 x3 x4 x5 x6 x7) (p0.asG.length-0) 0 ()) fun _=>so (loopN (V7 fu p1 p0 x2 x3 x4 x5 x6 x7) (p0.asV.length-0) 0 ()) fun _=>some true
theorem QF(fu:Nat)(p1:jM)(pD:AB p1):AB (F8 fu p1):=by
 intro p0 r H
 refine qJ func269 H (fun C hC H=>?_)
 refine gQ 2 ?_;refine q1 (iR (gF p0)) ?_;refine gQ 6 ?_
 obtain⟨⟨x2,x3,x4,x5,x6,x7⟩,z1,H⟩:=bdI H
 refine q1 (bC func271 (ZA fu p0.asJ _ z1)) ?_;refine gQ 15 ?_;refine m3 (σ:=Unit) (fun _=>⟨[(1,.ptr 0 0),(2,pB false),(4,pB x3),(6,pB x5),(7,pI x6)],⟨[some ⟨211,gF p0⟩],[]⟩⟩) (eR H) (fun H=>?_) ?_
 ·refine gQ 4 ?_;refine bD H fun x9 z8 H=>(q1 (bC func64 (CG fu p0.asJ 1 12 _ z8)) ?_)
  refine gQ 2 ?_;refine dF 26 H (fun g10 H=>gE 38) fun g10 H=>?_;refine gQ 2 ?_;refine bD H fun x12 z11 H=>(qg g10 (bC func205 (c8 fu p0.asN _ z11)) (qg g10 bG (qg g10 (a5.neqB rfl rfl rfl rfl Tryz.underlying4) ?_)))
  refine gQ 2 ?_;refine dF 33 H (fun g13 H=>gE 31) fun g13 H=>?_;refine gQ 3 ?_;refine dF 36 H (fun g14 H=>?_) fun g14 H=>?_
  ·refine gQ 6 ?_;refine dF 42 H (fun g15 H=>gE 22) fun g15 H=>?_;refine gQ 3 ?_;refine dF 45 H (fun g16 H=>?_) fun g16 H=>?_
   ·refine gQ 6 ?_;refine dF 51 H (fun g17 H=>gE 13) fun g17 H=>?_;refine gQ 5 ?_;refine qg g17 (a5.neqB rfl rfl rfl rfl Tryz.underlying4) ?_;refine gQ 2 ?_;refine a7 H (fun h18 H=>gE 4) fun h18 H=>?_;exact gE 1
   refine gQ 11 ?_;refine qg rfl (a5.neqB rfl rfl rfl rfl Tryz.underlying4) ?_;refine gQ 2 ?_;refine a7 H (fun h19 H=>gE 4) fun h19 H=>?_;exact gE 1
  refine gQ 9 ?_;refine dF 45 H (fun g20 H=>?_) fun g20 H=>?_
  ·refine gQ 6 ?_;refine dF 51 H (fun g21 H=>gE 13) fun g21 H=>?_;refine gQ 5 ?_;refine qg g21 (a5.neqB rfl rfl rfl rfl Tryz.underlying4) ?_;refine gQ 2 ?_;refine a7 H (fun h22 H=>gE 4) fun h22 H=>?_;exact gE 1
  refine gQ 11 ?_;refine qg rfl (a5.neqB rfl rfl rfl rfl Tryz.underlying4) ?_;refine gQ 2 ?_;refine a7 H (fun h23 H=>gE 4) fun h23 H=>?_;exact gE 1
 rintro⟨⟩ H
 refine qS ?_;refine m3 (σ:=Unit) (fun _=>⟨[(1,.ptr 0 0),(2,pB false),(6,pB x5),(7,pI x6)],⟨[some ⟨211,gF p0⟩],[]⟩⟩) (eR H) (fun H=>?_) ?_
 ·refine gQ 6 ?_;refine dF 62 H (fun g24 H=>?_) fun g24 H=>?_
  ·refine gQ 2 ?_;refine bD H fun x26 z25 H=>(qg g24 (bC func272 (WK fu p0.asD _ z25)) ?_)
   refine gQ 3 ?_;refine dF 68 H (fun g27 H=>gE 26) fun g27 H=>?_;refine gQ 4 ?_;refine dF 72 H (fun g28 H=>?_) fun g28 H=>?_
   ·refine gQ 2 ?_;refine bD H fun x30 z29 H=>(qg g28 (bC func205 (c8 fu p0.asD _ z29)) (qg g28 bG (qg g28 (a5.neqB rfl rfl rfl rfl Tryz.underlying4) (qg g28 bG ?_))))
    refine dF 78 H (fun g31 H=>gE 16) fun g31 H=>?_;refine gQ 3 ?_;refine dF 81 H (fun g32 H=>?_) fun g32 H=>?_
    ·refine gQ 8 ?_;refine a7 H (fun h33 H=>gE 4) fun h33 H=>?_;exact gE 1
    exact gE 10
   exact gE 19
  refine gQ 10 ?_;refine dF 72 H (fun g34 H=>?_) fun g34 H=>?_
  ·refine gQ 2 ?_;refine bD H fun x36 z35 H=>(qg g34 (bC func205 (c8 fu p0.asD _ z35)) (qg g34 bG (qg g34 (a5.neqB rfl rfl rfl rfl Tryz.underlying4) (qg g34 bG ?_))))
   refine dF 78 H (fun g37 H=>gE 16) fun g37 H=>?_;refine gQ 3 ?_;refine dF 81 H (fun g38 H=>?_) fun g38 H=>?_
   ·refine gQ 8 ?_;refine a7 H (fun h39 H=>gE 4) fun h39 H=>?_;exact gE 1
   exact gE 10
  exact gE 19
 rintro⟨⟩ H
 refine qS ?_;refine m3 (σ:=Unit) (fun _=>⟨[(1,.ptr 0 0),(2,pB false)],⟨[some ⟨211,gF p0⟩],[]⟩⟩) (eR H) (fun H=>?_) ?_
 ·refine gQ 5 ?_;refine dF 91 H (fun g40 H=>?_) fun g40 H=>?_
  ·refine gQ 7 ?_;refine dF 98 H (fun g41 H=>gE 35) fun g41 H=>?_;refine gQ 4 ?_;refine dF 102 H (fun g42 H=>?_) fun g42 H=>?_
   ·refine gQ 7 ?_;refine dF 109 H (fun g43 H=>gE 24) fun g43 H=>?_;refine gQ 2 ?_;refine dF 111 H (fun g44 H=>?_) fun g44 H=>?_
    ·refine qg g44 bS (qg g44 (cK [pI p0.asH.asJ,pS p0.asH.asD,aX p0.asH.asG]) (bD H fun x46 z45 H=>(qg g44 (bC func258 (jW fu p0.asH _ z45)) ?_)))
     refine gQ 4 ?_;refine dF 118 H (fun g47 H=>gE 15) fun g47 H=>?_;refine gQ 3 ?_
     iterate 4 refine qk (congrArg (fun b=> !b) g44) ?_
     refine qg g47 (DZ (congrArg (fun b=> !b) g44)) ?_;exact gE 4
    refine gQ 10 ?_;refine qg (congrArg (fun b=> !b) g44) bS (qg (congrArg (fun b=> !b) g44) (cK [pI p0.asH.asJ,pS p0.asH.asD,aX p0.asH.asG]) (bD H fun x49 z48 H=>(qg (congrArg (fun b=> !b) g44) (bC func251 (tE fu p0.asH _ z48)) (qg (congrArg (fun b=> !b) g44) F0 (qg rfl (A6 (congrArg (fun b=> !b) g44)) ?_)))))
    refine gQ 2 ?_;refine a7 H (fun h50 H=>gE 4) fun h50 H=>?_;exact gE 1
   refine gQ 9 ?_;refine dF 111 H (fun g51 H=>?_) fun g51 H=>?_
   ·refine qg g51 bS (qg g51 (cK [pI p0.asH.asJ,pS p0.asH.asD,aX p0.asH.asG]) (bD H fun x53 z52 H=>(qg g51 (bC func258 (jW fu p0.asH _ z52)) ?_)))
    refine gQ 4 ?_;refine dF 118 H (fun g54 H=>gE 15) fun g54 H=>?_;refine gQ 3 ?_
    iterate 4 refine qk (congrArg (fun b=> !b) g51) ?_
    refine qg g54 (DZ (congrArg (fun b=> !b) g51)) ?_;exact gE 4
   refine gQ 10 ?_;refine qg (congrArg (fun b=> !b) g51) bS (qg (congrArg (fun b=> !b) g51) (cK [pI p0.asH.asJ,pS p0.asH.asD,aX p0.asH.asG]) (bD H fun x56 z55 H=>(qg (congrArg (fun b=> !b) g51) (bC func251 (tE fu p0.asH _ z55)) (qg (congrArg (fun b=> !b) g51) F0 (qg rfl (A6 (congrArg (fun b=> !b) g51)) ?_)))))
   refine gQ 2 ?_;refine a7 H (fun h57 H=>gE 4) fun h57 H=>?_;exact gE 1
  refine gQ 11 ?_;refine dF 102 H (fun g58 H=>?_) fun g58 H=>?_
  ·refine gQ 7 ?_;refine dF 109 H (fun g59 H=>gE 24) fun g59 H=>?_;refine gQ 2 ?_;refine dF 111 H (fun g60 H=>?_) fun g60 H=>?_
   ·refine qg g60 bS (qg g60 (cK [pI p0.asH.asJ,pS p0.asH.asD,aX p0.asH.asG]) (bD H fun x62 z61 H=>(qg g60 (bC func258 (jW fu p0.asH _ z61)) ?_)))
    refine gQ 4 ?_;refine dF 118 H (fun g63 H=>gE 15) fun g63 H=>?_;refine gQ 3 ?_
    iterate 4 refine qk (congrArg (fun b=> !b) g60) ?_
    refine qg g63 (DZ (congrArg (fun b=> !b) g60)) ?_;exact gE 4
   refine gQ 10 ?_;refine qg (congrArg (fun b=> !b) g60) bS (qg (congrArg (fun b=> !b) g60) (cK [pI p0.asH.asJ,pS p0.asH.asD,aX p0.asH.asG]) (bD H fun x65 z64 H=>(qg (congrArg (fun b=> !b) g60) (bC func251 (tE fu p0.asH _ z64)) (qg (congrArg (fun b=> !b) g60) F0 (qg rfl (A6 (congrArg (fun b=> !b) g60)) ?_)))))
   refine gQ 2 ?_;refine a7 H (fun h66 H=>gE 4) fun h66 H=>?_;exact gE 1
  refine gQ 9 ?_;refine dF 111 H (fun g67 H=>?_) fun g67 H=>?_
  ·refine qg g67 bS (qg g67 (cK [pI p0.asH.asJ,pS p0.asH.asD,aX p0.asH.asG]) (bD H fun x69 z68 H=>(qg g67 (bC func258 (jW fu p0.asH _ z68)) ?_)))
   refine gQ 4 ?_;refine dF 118 H (fun g70 H=>gE 15) fun g70 H=>?_;refine gQ 3 ?_
   iterate 4 refine qk (congrArg (fun b=> !b) g67) ?_
   refine qg g70 (DZ (congrArg (fun b=> !b) g67)) ?_;exact gE 4
  refine gQ 10 ?_;refine qg (congrArg (fun b=> !b) g67) bS (qg (congrArg (fun b=> !b) g67) (cK [pI p0.asH.asJ,pS p0.asH.asD,aX p0.asH.asG]) (bD H fun x72 z71 H=>(qg (congrArg (fun b=> !b) g67) (bC func251 (tE fu p0.asH _ z71)) (qg (congrArg (fun b=> !b) g67) F0 (qg rfl (A6 (congrArg (fun b=> !b) g67)) ?_)))))
  refine gQ 2 ?_;refine a7 H (fun h73 H=>gE 4) fun h73 H=>?_;exact gE 1
 rintro⟨⟩ H
 refine qS ?_;refine m3 (σ:=Unit) (fun _=>⟨[(1,.ptr 0 0),(2,pB false)],⟨[some ⟨211,gF p0⟩],[]⟩⟩) (eR H) (fun H=>?_) ?_
 ·refine gQ 6 ?_;refine dF 131 H (fun g74 H=>?_) fun g74 H=>?_
  ·refine gQ 2 ?_;refine bD H fun x76 z75 H=>(qg g74 (bC func64 (CG fu p0.atN (-999999) 999999 _ z75)) ?_)
   refine gQ 3 ?_;refine dF 137 H (fun g77 H=>gE 16) fun g77 H=>?_;refine gQ 4 ?_
   iterate 4 refine qk (dne (b:=2) g74 (by decide)) ?_
   refine qg g77 (DZ (dne (b:=2) g74 (by decide))) ?_;exact gE 4
  refine gQ 10 ?_;refine dF 141 H (fun g78 H=>?_) fun g78 H=>?_
  ·refine gQ 2 ?_;refine bD H fun x80 z79 H=>(qg g78 (bC func64 (CG fu p0.atN 0 1 _ z79)) ?_)
   refine gQ 4 ?_;refine a7 H (fun h81 H=>gE 4) fun h81 H=>?_;exact gE 1
  exact gE 9
 rintro⟨⟩ H
 refine gQ 5 ?_;refine cF.fact (b6 0 7 rfl rfl rfl (aG.trs_len _)) (fun hl83=>?_)
 refine bM (σ:=Unit) (fun i82 _=>⟨[(1,.ptr 0 0),(2,pB false),(9,pN i82)],⟨[some ⟨211,gF p0⟩],[]⟩⟩) (fun _=>⟨[(1,.ptr 0 0),(2,pB false)],⟨[some ⟨211,gF p0⟩],[]⟩⟩) (eR H) ?_ ?_
 ·rintro i82 ⟨⟩ H
  refine gQ 9 ?_;refine cW H (fun h84 h84l H=>?_) (fun h84 H=>?_)
  ·refine gQ 8 ?_;refine fI H fun y85 h86 H=>(q1 (uG h86 h84l) (q1 (jB (aG.cs y85)) (bD H fun x88 z87 H=>(q1 (bC func269 (pD y85 _ z87)) ?_))))
   refine gQ 2 ?_;refine a7 H (fun h89 H=>gE 4) fun h89 H=>?_;exact gE 6
  exact gE 0
 rintro⟨⟩ H
 refine gQ 5 ?_;refine cF.fact (b6 0 8 rfl rfl rfl (bH.trs_len _)) (fun hl91=>?_)
 refine bM (σ:=Unit) (fun i90 _=>⟨[(1,.ptr 0 0),(2,pB false),(10,pN i90)],⟨[some ⟨211,gF p0⟩],[]⟩⟩) (fun _=>⟨[(2,pB false)],⟨[some ⟨211,gF p0⟩],[]⟩⟩) (eR H) ?_ ?_
 ·rintro i90 ⟨⟩ H
  refine gQ 9 ?_;refine cW H (fun h92 h92l H=>?_) (fun h92 H=>?_)
  ·refine gQ 8 ?_;refine fI H fun y93 h94 H=>(q1 (uG h94 h92l) (q1 (jB (bH.cs y93)) ?_))
   refine gQ 7 ?_;refine bD H fun x96 z95 H=>(q1 (bC func205 (c8 fu y93.asZ _ z95)) ?_)
   refine gQ 2 ?_;refine dF 178 H (fun g97 H=>gE 23) fun g97 H=>?_;refine gQ 2 ?_;refine bD H fun x99 z98 H=>(qg g97 (bC func228 (LD fu y93.asP _ z98)) ?_)
   refine gQ 3 ?_;refine dF 184 H (fun g100 H=>gE 17) fun g100 H=>?_;refine gQ 2 ?_;refine bD H fun x102 z101 H=>(qg g100 (bC func207 (jV fu y93.asP _ z101)) ?_)
   refine gQ 3 ?_;refine dF 190 H (fun g103 H=>gE 11) fun g103 H=>?_;refine qg g103 bS (qg g103 (cK [pI y93.asM.asJ,pS y93.asM.asN,pS y93.asM.asD,pI y93.asM.atN,pI y93.asM.asH.asJ,pS y93.asM.asH.asD,aX y93.asM.asH.asG,fZ y93.asM.asG,nL y93.asM.asV]) (bD H fun x105 z104 H=>(qg g103 (bC func269 (pD y93.asM _ z104)) ?_)))
   refine gQ 3 ?_;refine a7 H (fun h106 H=>gE 4) fun h106 H=>?_;exact gE 6
  exact gE 0
 rintro⟨⟩ H
 exact gE 4
def kV:Nat→aG→Option Bool
 |0,_=>none
 |fu+1,p0=>F8 fu (kV fu) p0
theorem S7(fu:Nat):AB (kV fu):=by
 induction fu with
 |zero=>exact(fun p0 r H=>by simp only [kV] at H;cases H)
 |succ fu ih=>exact(fun p0 r H=>by simp only [kV] at H;exact QF fu (kV fu) ih p0 r H)
theorem V9(fu:Nat):AB (kV fu):=(S7 fu)
def vR(fu:Nat)(pe:aG):Option Bool:=bd (kY fu pe 300) fun x2=>sw (decide (x2≥0)) (bd (kV fu pe) fun x5=>some x5) (some false)
theorem L5(fu:Nat)(pe:aG)(r:Bool)(H:vR fu pe=some r):bP Tryz.prog 262 [(aG.pv pe)] (pB r):=by
 refine qJ func262 H (fun C hC H=>?_)
 refine gQ 2 ?_;refine q1 (iR (gF pe)) ?_;refine gQ 4 ?_;refine q1 (cK [pI pe.asJ,pS pe.asN,pS pe.asD,pI pe.atN,pI pe.asH.asJ,pS pe.asH.asD,aX pe.asH.asG,fZ pe.asG,nL pe.asV]) (bD H fun x2 z1 H=>(q1 (bC func268 (WJ fu pe 300 _ z1)) ?_))
 refine gQ 2 ?_;refine dF 6 H (fun g3 H=>?_) fun g3 H=>?_
 ·refine qg g3 (cK [pI pe.asJ,pS pe.asN,pS pe.asD,pI pe.atN,pI pe.asH.asJ,pS pe.asH.asD,aX pe.asH.asG,fZ pe.asG,nL pe.asV]) (bD H fun x5 z4 H=>(qg g3 (bC func269 (V9 fu pe _ z4)) ?_))
  exact gE 3
 exact gE 5
def TA(fu:Nat)(pa pb:LB):Nat→Unit→Option (LR Unit Bool):=fun i2 _=>gd (i2<(pb).length) (sw (!decide (aP pa i2=aP pb i2)) (some (.ret false)) (some (.next ())))
def B7(fu:Nat)(pa pb:LB):Option Bool:=sw (!decide ((pa.length:Int)=(pb.length:Int))) (some false) (so (loopN (TA fu pa pb) (pa.length-0) 0 ()) fun _=>some true)
theorem H7(fu:Nat)(pa:LB)(pb:LB)(r:Bool)(H:B7 fu pa pb=some r):bP Tryz.prog 270 [rS pa,rS pb] (pB r):=by
 refine qJ func270 H (fun C hC H=>?_)
 refine gQ 13 ?_;refine a7 H (fun h1 H=>gE 4) fun h1 H=>?_;refine gQ 6 ?_;refine iG 0 (bI _) (fun hl3=>?_)
 refine bM (σ:=Unit) (fun i2 _=>⟨[(0,rS pa),(1,rS pb),(4,pB false),(5,pN i2)],⟨[],[]⟩⟩) (fun _=>⟨[(4,pB false)],⟨[],[]⟩⟩) (eR H) ?_ ?_
 ·rintro i2 ⟨⟩ H
  refine gQ 8 ?_;refine cW H (fun h4 h4l H=>?_) (fun h4 H=>?_)
  ·refine gQ 4 ?_;refine cQ H fun z5 H=>(dW (dI [0] bG (dI [5] bG (dI [17,18] qY (dI [19] xR (dI [1] bG (dI [5] bG (dI [21,22] qY (dI [23] xR (dI [20,24] rSn (dN ?_)))))))))))
   refine a7 H (fun h6 H=>gE 4) fun h6 H=>?_;exact gE 6
  exact gE 0
 rintro⟨⟩ H
 exact gE 4
abbrev lU:=aG→aG→Option Bool
def uN(m:lU):Prop:= ∀(p0:aG) (p7:aG) (r:Bool),m p0 p7=some r→bP Tryz.prog 263 [(aG.pv p0),(aG.pv p7)] (pB r:PV)
def PU(fu:Nat)(p5:lU)(p0 p7:aG)(x6:Bool):Nat→Unit→Option (LR Unit Bool):=fun i10 _=>lt (aP p0.asG i10) fun y13=>gd (i10<(p7.asG).length) (lt (aP p7.asG i10) fun y16=>bd (p5 y13 y16) fun x19=>sw (!(x19)) (some (.ret false)) (some (.next ())))
def PW(fu:Nat)(p5:lU)(p0 p7:aG)(x6:Bool):Nat→Unit→Option (LR Unit Bool):=fun i21 _=>lt (aP p0.asV i21) fun y24=>gd (i21<(p7.asV).length) (lt (aP p7.asV i21) fun y27=>sw (!decide (y24.asZ=y27.asZ)) (some (.ret false)) (bd (B7 fu y24.asP y27.asP) fun x31=>sw (!(x31)) (some (.ret false)) (bd (p5 y24.asM y27.asM) fun x34=>sw (!(x34)) (some (.ret false)) (some (.next ())))))
def zX(fu:Nat)(p5:lU)(p0 p7:aG):Option Bool:=sw (!decide (p0.asJ=p7.asJ)) (some false) (sw (!decide (p0.asN=p7.asN)) (some false) (sw (!decide (p0.asD=p7.asD)) (some false) (sw (!decide (p0.atN=p7.atN)) (some false) (bd (eH fu p0.asH p7.asH) fun x6=>sw (!(x6)) (some false) (sw (!decide ((p0.asG.length:Int)=(p7.asG.length:Int))) (some false) (sw (!decide ((p0.asV.length:Int)=(p7.asV.length:Int))) (some false) (so (loopN (PU fu p5 p0 p7 x6) (p0.asG.length-0) 0 ()) fun _=>so (loopN (PW fu p5 p0 p7 x6) (p0.asV.length-0) 0 ()) fun _=>some true)))))))
theorem LX(fu:Nat)(p5:lU)(pA:uN p5):uN (zX fu p5):=by
 intro p0 p7 r H
 refine qJ func263 H (fun C hC H=>?_)
 refine gQ 2 ?_;refine q1 (iR (gF p0)) (q1 (iR (gF p7)) ?_)
 refine gQ 11 ?_;refine dF 12 H (fun g1 H=>gE 52) fun g1 H=>?_;refine gQ 7 ?_;refine dF 19 H (fun g2 H=>gE 45) fun g2 H=>?_;refine gQ 7 ?_;refine dF 26 H (fun g3 H=>gE 38) fun g3 H=>?_;refine gQ 7 ?_;refine dF 33 H (fun g4 H=>gE 31) fun g4 H=>?_;refine qg g4 bS (qg g4 (cK [pI p0.asH.asJ,pS p0.asH.asD,aX p0.asH.asG]) (qg g4 bS (qg g4 (cK [pI p7.asH.asJ,pS p7.asH.asD,aX p7.asH.asG]) (bD H fun x6 z5 H=>(qg g4 (bC func38 (EO fu p0.asH p7.asH _ z5)) ?_)))))
 refine gQ 3 ?_;refine dF 41 H (fun g7 H=>gE 23) fun g7 H=>?_;refine gQ 9 ?_;refine dF 50 H (fun g8 H=>gE 14) fun g8 H=>?_;refine gQ 9 ?_;refine a7 H (fun h9 H=>gE 4) fun h9 H=>?_;refine gQ 6 ?_;refine iG 43 (aG.trs_len _) (fun hl11=>?_)
 refine bM (σ:=Unit) (fun i10 _=>⟨[(2,.ptr 0 0),(3,.ptr 1 0),(4,pB false),(5,pN i10)],⟨[some ⟨211,gF p0⟩,some ⟨211,gF p7⟩],[]⟩⟩) (fun _=>⟨[(2,.ptr 0 0),(3,.ptr 1 0),(4,pB false)],⟨[some ⟨211,gF p0⟩,some ⟨211,gF p7⟩],[]⟩⟩) (eR H) ?_ ?_
 ·rintro i10 ⟨⟩ H
  refine gQ 9 ?_;refine cW H (fun h12 h12l H=>?_) (fun h12 H=>?_)
  ·refine gQ 4 ?_;refine fI H fun y13 h14 H=>(cQ H fun z15 H=>(fI H fun y16 h17 H=>(bD H fun x19 z18 H=>(dW (dI [2] bS (dD [66] eE (dI [5] bG (dI [67,68] (uG h14 h12l) (dI [69] (jB (aG.cs y13)) (dI [3] bS (dD [71] eE (dI [5] bG (dI [72,73] (uG h17 z15) ?_)))))))))))))
   refine dI [74] (jB (aG.cs y16)) (dI [70,75] (bC func263 (pA y13 y16 _ z18)) (dI [76] F0 (dN ?_)))
   refine a7 H (fun h20 H=>gE 4) fun h20 H=>?_;exact gE 6
  exact gE 0
 rintro⟨⟩ H
 refine gQ 5 ?_;refine cF.fact (b6 0 8 rfl rfl rfl (bH.trs_len _)) (fun hl22=>?_)
 refine bM (σ:=Unit) (fun i21 _=>⟨[(2,.ptr 0 0),(3,.ptr 1 0),(4,pB false),(6,pN i21)],⟨[some ⟨211,gF p0⟩,some ⟨211,gF p7⟩],[]⟩⟩) (fun _=>⟨[(4,pB false)],⟨[some ⟨211,gF p0⟩,some ⟨211,gF p7⟩],[]⟩⟩) (eR H) ?_ ?_
 ·rintro i21 ⟨⟩ H
  refine gQ 9 ?_;refine cW H (fun h23 h23l H=>?_) (fun h23 H=>?_)
  ·refine gQ 4 ?_;refine fI H fun y24 h25 H=>(cQ H fun z26 H=>(fI H fun y27 h28 H=>?_))
   rcases qB (!decide (y24.asZ=y27.asZ)) with g29|g29
   ·have H:=wF H g29
    refine dW (dI [2] bS (dD [85] eE (dI [6] bG (dI [86,87] (uG h25 h23l) (dI [88] y2 (dI [89] xR (dI [3] bS (dD [91] eE (dI [6] bG (dI [92,93] (uG h28 z26) (dI [94] y2 (dI [95] xR (dI [90,96] rSn ?_)))))))))))))
    refine dI [97] bG ?_
    iterate 14 refine ME g29 ?_
    refine dI [98] (A6 g29) (dI [113] bG ?_)
    iterate 14 refine ME rfl ?_
    refine dI [114] (A6 rfl) (dN ?_)
    exact gE 5
   have H:=wE H g29
   refine bD H fun x31 z30 H=>?_
   rcases qB (!(x31)) with g32|g32
   ·have H:=wF H g32
    refine dW (dI [2] bS (dD [85] eE (dI [6] bG (dI [86,87] (uG h25 h23l) (dI [88] y2 (dI [89] xR (dI [3] bS (dD [91] eE (dI [6] bG (dI [92,93] (uG h28 z26) (dI [94] y2 (dI [95] xR (dI [90,96] rSn ?_)))))))))))))
    refine dI [97] bG (dI (hg:=a6 g29) [2] bS (dD (hg:=a6 g29) [99] eE (dI (hg:=a6 g29) [6] bG (dI (hg:=a6 g29) [100,101] (uG h25 h23l) (dI (hg:=a6 g29) [102] y2 (dI (hg:=a6 g29) [103] xR (dI (hg:=a6 g29) [3] bS (dD (hg:=a6 g29) [105] eE (dI (hg:=a6 g29) [6] bG (dI (hg:=a6 g29) [106,107] (uG h28 z26) (dI (hg:=a6 g29) [108] y2 (dI (hg:=a6 g29) [109] xR (dI (hg:=a6 g29) [104,110] (bC func270 (H7 fu y24.asP y27.asP _ z30)) ?_)))))))))))))
    refine dI (hg:=a6 g29) [111] F0 (dI [98,112] (DZ g29) (dI [113] bG ?_))
    iterate 14 refine ME g32 ?_
    refine dI [114] (A6 g32) (dN ?_)
    exact gE 5
   have H:=wE H g32
   refine bD H fun x34 z33 H=>(dW (dI [2] bS (dD [85] eE (dI [6] bG (dI [86,87] (uG h25 h23l) (dI [88] y2 (dI [89] xR (dI [3] bS (dD [91] eE (dI [6] bG (dI [92,93] (uG h28 z26) (dI [94] y2 (dI [95] xR ?_)))))))))))))
   refine dI [90,96] rSn (dI [97] bG (dI (hg:=a6 g29) [2] bS (dD (hg:=a6 g29) [99] eE (dI (hg:=a6 g29) [6] bG (dI (hg:=a6 g29) [100,101] (uG h25 h23l) (dI (hg:=a6 g29) [102] y2 (dI (hg:=a6 g29) [103] xR (dI (hg:=a6 g29) [3] bS (dD (hg:=a6 g29) [105] eE (dI (hg:=a6 g29) [6] bG (dI (hg:=a6 g29) [106,107] (uG h28 z26) (dI (hg:=a6 g29) [108] y2 (dI (hg:=a6 g29) [109] xR ?_)))))))))))))
   refine dI (hg:=a6 g29) [104,110] (bC func270 (H7 fu y24.asP y27.asP _ z30)) (dI (hg:=a6 g29) [111] F0 (dI [98,112] (DZ g29) (dI [113] bG (dI (hg:=a6 g32) [2] bS (dD (hg:=a6 g32) [115] eE (dI (hg:=a6 g32) [6] bG (dI (hg:=a6 g32) [116,117] (uG h25 h23l) (dI (hg:=a6 g32) [118] y2 (dI (hg:=a6 g32) [119] (jB (aG.cs y24.asM)) (dI (hg:=a6 g32) [3] bS (dD (hg:=a6 g32) [121] eE (dI (hg:=a6 g32) [6] bG (dI (hg:=a6 g32) [122,123] (uG h28 z26) ?_)))))))))))))
   refine dI (hg:=a6 g32) [124] y2 (dI (hg:=a6 g32) [125] (jB (aG.cs y27.asM)) (dI (hg:=a6 g32) [120,126] (bC func263 (pA y24.asM y27.asM _ z33)) (dI (hg:=a6 g32) [127] F0 (dI [114,128] (DZ g32) (dN ?_)))))
   refine a7 H (fun h35 H=>gE 4) fun h35 H=>?_;exact gE 6
  exact gE 0
 rintro⟨⟩ H
 exact gE 4
def hZ:Nat→aG→aG→Option Bool
 |0,_,_=>none
 |fu+1,p0,p7=>zX fu (hZ fu) p0 p7
theorem NW(fu:Nat):uN (hZ fu):=by
 induction fu with
 |zero=>exact(fun p0 p7 r H=>by simp only [hZ] at H;cases H)
 |succ fu ih=>exact(fun p0 p7 r H=>by simp only [hZ] at H;exact LX fu (hZ fu) ih p0 p7 r H)
theorem PY(fu:Nat):uN (hZ fu):=(NW fu)
abbrev nE:=aG→(LB)→(LB)→Option ((LB))
def AC(m:nE):Prop:= ∀(p0:aG) (p7:LB) (pE:LB) (r:(LB)),m p0 p7 pE=some r→cJ Tryz.prog 267 [(aG.pv p0),rS p7,aS pE 0] ⟨[],[⟨9,1,aW (pE),false⟩]⟩ (fun q t=>q=(aS r 0:PV)∧t=⟨[],[⟨9,1,aW (r),false⟩]⟩)
def WA(fu:Nat)(p3:nE)(p0:aG)(p7 pE:LB):Option (((LB))⊕((LB))):=sw (decide (p0.asJ=3)) (bd (iW fu p7 p0.asD) fun x5=>sw (!(x5)) (bd (iW fu pE p0.asD) fun x8=>sw (!(x8)) (gd ((pE).length+(([p0.asD]:LB)).length≤68719476736) (some (.inr (pE++([p0.asD]:LB))))) (some (.inr pE))) (some (.inr pE))) (some (.inr pE))
def WB(fu:Nat)(p3:nE)(p0:aG)(p7 pE v2:LB):Nat→((LB))→Option (LR ((LB)) ((LB))):=fun i11 v13=>sw (decide (p0.asJ=8)) (sw (decide ((i11:Int)=1)) (gd (([]:LB).length+(p7).length≤68719476736) (gd ((([])++p7).length+(([p0.asD]:LB)).length≤68719476736) (lt (aP p0.asG i11) fun y20=>bd (p3 y20 ((([])++p7)++([p0.asD]:LB)) v13) fun x23=>some (.next x23)))) (lt (aP p0.asG i11) fun y24=>bd (p3 y24 p7 v13) fun x27=>some (.next x27))) (lt (aP p0.asG i11) fun y28=>bd (p3 y28 p7 v13) fun x31=>some (.next x31))
def WC(fu:Nat)(p3:nE)(p0:aG)(p7 pE v2 v13:LB):Nat→((LB))→Option (LR ((LB)) ((LB))):=fun i32 v34=>lt (aP p0.asV i32) fun y37=>gd (([]:LB).length+(p7).length≤68719476736) (gd ((([])++p7).length+(y37.asP).length≤68719476736) (bd (p3 y37.asM ((([])++p7)++y37.asP) v34) fun x42=>some (.next x42)))
def F9(fu:Nat)(p3:nE)(p0:aG)(p7 pE:LB):Option ((LB)):=so (WA fu p3 p0 p7 pE) fun v2=>so (loopN (WB fu p3 p0 p7 pE v2) (p0.asG.length-0) 0 v2) fun v13=>so (loopN (WC fu p3 p0 p7 pE v2 v13) (p0.asV.length-0) 0 v13) fun v34=>some v34
theorem QG(fu:Nat)(p3:nE)(p9:AC p3):AC (F9 fu p3):=by
 intro p0 p7 pE r H
 refine qJ func267 H (fun C hC H=>?_)
 refine gQ 2 ?_;refine q1 (iR (gF p0)) ?_;refine gQ 3 ?_;refine m3 (σ:=(LB)) (fun v2=>⟨[(1,rS p7),(2,aS v2 0),(3,.ptr 0 0),(6,.nil)],⟨[some ⟨211,gF p0⟩],[⟨9,1,aW (v2),false⟩]⟩⟩) (eR H) (fun H=>?_) ?_
 ·refine gQ 6 ?_;refine dF 13 H (fun g3 H=>?_) fun g3 H=>?_
  ·refine gQ 3 ?_;refine bD H fun x5 z4 H=>(qg g3 (bC func153 (jY fu p7 p0.asD _ z4)) ?_)
   refine gQ 3 ?_;refine dF 20 H (fun g6 H=>?_) fun g6 H=>?_
   ·refine gQ 3 ?_;refine bD H fun x8 z7 H=>(qg g6 (bC func153 (jY fu pE p0.asD _ z7)) ?_)
    refine gQ 3 ?_;refine a7 H (fun h9 H=>?_) (fun h9 H=>?_)
    ·refine gQ 4 ?_;refine q1 (gC ([p0.asD]:LB)) (cQ H fun z10 H=>(q1 (jS z10) ?_))
     exact gE 2
    exact gE 1
   exact gE 9
  exact gE 16
 rintro v2 H
 refine gQ 5 ?_;refine cF.fact (b6 0 7 rfl rfl rfl (aG.trs_len _)) (fun hl14=>?_)
 refine bM (σ:=(LB)) (fun i11 v13=>⟨[(1,rS p7),(2,aS v13 0),(3,.ptr 0 0),(6,.nil),(7,pN i11)],⟨[some ⟨211,gF p0⟩],[⟨9,1,aW (v13),false⟩]⟩⟩) (fun v13=>⟨[(1,rS p7),(2,aS v13 0),(3,.ptr 0 0),(6,.nil)],⟨[some ⟨211,gF p0⟩],[⟨9,1,aW (v13),false⟩]⟩⟩) (eR H) ?_ ?_
 ·rintro i11 v13 H
  refine gQ 9 ?_;refine cW H (fun h15 h15l H=>?_) (fun h15 H=>?_)
  ·refine gQ 15 ?_;refine dF 43 H (fun g16 H=>?_) fun g16 H=>?_
   ·refine gQ 4 ?_;refine a7 H (fun h17 H=>?_) (fun h17 H=>?_)
    ·refine cQ H fun z18 H=>(cQ H fun z19 H=>(dW (dE [] (n0 ([]:LB)) (dI [1] bG (dE [47,48] (jS z18) (dI [3] bS (dB [50] 0 2 t7 (dI [51] (gC ([p0.asD]:LB)) (dE [49,52] (jS z19) (dI [53] bG (dN ?_)))))))))))
     refine gQ 4 ?_;refine fI H fun y20 h21 H=>(q1 (uG h21 h15l) (q1 (jB (aG.cs y20)) ?_))
     refine gQ 2 ?_;refine bD H fun x23 z22 H=>(q1 (eW [] [0] func267 (p9 y20 ((([])++p7)++([p0.asD]:LB)) v13 _ z22)) ?_)
     exact gE 7
    refine gQ 5 ?_;refine fI H fun y24 h25 H=>(q1 (uG h25 h15l) (q1 (jB (aG.cs y24)) ?_))
    refine gQ 2 ?_;refine bD H fun x27 z26 H=>(q1 (eW [] [0] func267 (p9 y24 p7 v13 _ z26)) ?_)
    exact gE 7
   refine gQ 10 ?_;refine fI H fun y28 h29 H=>(q1 (uG h29 h15l) (q1 (jB (aG.cs y28)) ?_))
   refine gQ 2 ?_;refine bD H fun x31 z30 H=>(q1 (eW [] [0] func267 (p9 y28 p7 v13 _ z30)) ?_)
   exact gE 7
  exact gE 0
 rintro v13 H
 refine gQ 5 ?_;refine cF.fact (b6 0 8 rfl rfl rfl (bH.trs_len _)) (fun hl35=>?_)
 refine bM (σ:=(LB)) (fun i32 v34=>⟨[(1,rS p7),(2,aS v34 0),(3,.ptr 0 0),(6,.nil),(9,pN i32)],⟨[some ⟨211,gF p0⟩],[⟨9,1,aW (v34),false⟩]⟩⟩) (fun v34=>⟨[(2,aS v34 0),(6,.nil)],⟨[some ⟨211,gF p0⟩],[⟨9,1,aW (v34),false⟩]⟩⟩) (eR H) ?_ ?_
 ·rintro i32 v34 H
  refine gQ 9 ?_;refine cW H (fun h36 h36l H=>?_) (fun h36 H=>?_)
  ·refine gQ 3 ?_;refine fI H fun y37 h38 H=>(cQ H fun z39 H=>(cQ H fun z40 H=>(bD H fun x42 z41 H=>(dW (dI [3] bS (dB [69] 0 3 t7 (dI [9] bG (dI [70,71] (uG h38 h36l) (dI [72] y2 (dI [73] (jB (aG.cs y37.asM)) (dE [] (n0 ([]:LB)) (dI [1] bG (dE [75,76] (jS z39) ?_)))))))))))))
   refine dI [3] bS (dB [78] 0 2 t7 (dI [9] bG (dI [79,80] (uG h38 h36l) (dI [81] y2 (dI [82] xR (dE [77,83] (jS z40) (dI [2] bG (dE [74,84,85] (eW [] [0] func267 (p9 y37.asM ((([])++p7)++y37.asP) v34 _ z41)) (dI [86] bG (dN ?_))))))))))
   exact gE 5
  exact gE 0
 rintro v34 H
 exact gE 5
def kX:Nat→aG→(LB)→(LB)→Option ((LB))
 |0,_,_,_=>none
 |fu+1,p0,p7,pE=>F9 fu (kX fu) p0 p7 pE
theorem S8(fu:Nat):AC (kX fu):=by
 induction fu with
 |zero=>exact(fun p0 p7 pE r H=>by simp only [kX] at H;cases H)
 |succ fu ih=>exact(fun p0 p7 pE r H=>by simp only [kX] at H;exact QG fu (kX fu) ih p0 p7 pE r H)
theorem WF(fu:Nat):AC (kX fu):=(S8 fu)
def sG(fu:Nat)(pe:aG):Option ((LB)):=bd (kX fu pe ([]) ([])) fun x2=>some x2
theorem HZ(fu:Nat)(pe:aG)(r:(LB))(H:sG fu pe=some r):bP Tryz.prog 261 [(aG.pv pe)] (rS r):=by
 refine qJ func261 H (fun C hC H=>?_)
 refine gQ 2 ?_;refine q1 (iR (gF pe)) ?_;refine gQ 4 ?_;refine q1 (cK [pI pe.asJ,pS pe.asN,pS pe.asD,pI pe.atN,pI pe.asH.asJ,pS pe.asH.asD,aX pe.asH.asG,fZ pe.asG,nL pe.asV]) ?_
 iterate 2 refine q1 (n0 ([]:LB)) ?_
 refine bD H fun x2 z1 H=>(q1 (eW [] [1] func267 (WF fu pe ([]) ([]) _ z1)) ?_)
 exact gE 2
def K6(fu:Nat)(pt:aA)(p4 x2:LB):Nat→Unit→Option (LR Unit Bool):=fun i3 _=>bd (iW fu p4 (aP x2 i3)) fun x7=>sw (!(x7)) (some (.ret false)) (some (.next ()))
def jN(fu:Nat)(pt:aA)(p4:LB):Option Bool:=bd (sI fu pt) fun x2=>so (loopN (K6 fu pt p4 x2) (x2.length-0) 0 ()) fun _=>bd (fS fu pt) fun x10=>some x10
theorem nF(fu:Nat)(pt:aA)(p4:LB)(r:Bool)(H:jN fu pt p4=some r):bP Tryz.prog 248 [(aA.pv pt),rS p4] (pB r):=by
 refine qJ func248 H (fun C hC H=>?_)
 refine gQ 2 ?_;refine q1 (iR (cN pt)) ?_;refine gQ 4 ?_;refine q1 (cK [pI pt.asJ,pS pt.asD,aX pt.asG]) (bD H fun x2 z1 H=>(q1 (bC func85 (H6 fu pt _ z1)) ?_))
 refine gQ 7 ?_;refine iG 5 (bI _) (fun hl4=>?_)
 refine bM (σ:=Unit) (fun i3 _=>⟨[(1,rS p4),(2,.ptr 0 0),(4,pB false),(5,rS x2),(6,pN i3)],⟨[some ⟨30,cN pt⟩],[]⟩⟩) (fun _=>⟨[(2,.ptr 0 0),(4,pB false)],⟨[some ⟨30,cN pt⟩],[]⟩⟩) (eR H) ?_ ?_
 ·rintro i3 ⟨⟩ H
  refine gQ 8 ?_;refine cW H (fun h5 h5l H=>?_) (fun h5 H=>?_)
  ·refine gQ 10 ?_;refine bD H fun x7 z6 H=>(q1 (bC func153 (jY fu p4 (aP x2 i3) _ z6)) ?_)
   refine gQ 2 ?_;refine a7 H (fun h8 H=>gE 4) fun h8 H=>?_;exact gE 6
  exact gE 0
 rintro⟨⟩ H
 refine gQ 2 ?_;refine q1 (cK [pI pt.asJ,pS pt.asD,aX pt.asG]) (bD H fun x10 z9 H=>(q1 (bC func258 (jW fu pt _ z9)) ?_))
 exact gE 2
def OC(fu:Nat)(p2:List aA)(p4:LB):Nat→Unit→Option (LR Unit Bool):=fun i1 _=>bd (jN fu (aP p2 i1) p4) fun x5=>sw (!(x5)) (some (.ret false)) (some (.next ()))
def u4(fu:Nat)(p2:List aA)(p4:LB):Option Bool:=so (loopN (OC fu p2 p4) (p2.length-0) 0 ()) fun _=>some true
theorem OD(fu:Nat)(p2:List aA)(p4:LB)(r:Bool)(H:u4 fu p2 p4=some r):bP Tryz.prog 247 [aX p2,rS p4] (pB r):=by
 refine qJ func247 H (fun C hC H=>?_)
 refine gQ 9 ?_;refine iG 0 (aA.trs_len _) (fun hl2=>?_)
 refine bM (σ:=Unit) (fun i1 _=>⟨[(0,aX p2),(1,rS p4),(4,pB false),(5,pN i1)],⟨[],[]⟩⟩) (fun _=>⟨[(4,pB false)],⟨[],[]⟩⟩) (eR H) ?_ ?_
 ·rintro i1 ⟨⟩ H
  refine gQ 8 ?_;refine cW H (fun h3 h3l H=>?_) (fun h3 H=>?_)
  ·refine gQ 8 ?_;refine q1 (jB (aA.cs (aP p2 i1))) (q1 bG (bD H fun x5 z4 H=>(q1 (bC func248 (nF fu (aP p2 i1) p4 _ z4)) ?_)))
   refine gQ 2 ?_;refine a7 H (fun h6 H=>gE 4) fun h6 H=>?_;exact gE 6
  exact gE 0
 rintro⟨⟩ H
 exact gE 4
def GE(fu:Nat)(pe:aG):Option Bool:=bd (hZ fu pe (aG.mk 0 s_ s_ 0 (aA.mk 0 s_ []) [] [])) fun x2=>some x2
theorem WV(fu:Nat)(pe:aG)(r:Bool)(H:GE fu pe=some r):bP Tryz.prog 257 [(aG.pv pe)] (pB r):=by
 refine qJ func257 H (fun C hC H=>?_)
 refine gQ 2 ?_;refine q1 (iR (gF pe)) ?_;refine gQ 4 ?_;refine q1 (cK [pI pe.asJ,pS pe.asN,pS pe.asD,pI pe.atN,pI pe.asH.asJ,pS pe.asH.asD,aX pe.asH.asG,fZ pe.asG,nL pe.asV]) (q1 nU (bD H fun x2 z1 H=>(q1 (bC func263 (PY fu pe (aG.mk 0 s_ s_ 0 (aA.mk 0 s_ []) [] []) _ z1)) ?_)))
 exact gE 2
def fA(fu:Nat)(p2:LB)(pF:Int):Option Bool:=sw (decide ((p2.length:Int)≤pF)) (bd (AP fu p2) fun x3=>sw x3 (bd (iH fu p2) fun x6=>some x6) (some false)) (some false)
theorem fH(fu:Nat)(p2:LB)(pF:Int)(r:Bool)(H:fA fu p2 pF=some r):bP Tryz.prog 206 [rS p2,pI pF] (pB r):=by
 refine qJ func206 H (fun C hC H=>?_)
 refine gQ 11 ?_;refine dF 9 H (fun g1 H=>?_) fun g1 H=>?_
 ·refine qg g1 bG (bD H fun x3 z2 H=>(qg g1 (bC func228 (LD fu p2 _ z2)) ?_))
  refine gQ 2 ?_;refine dF 13 H (fun g4 H=>?_) fun g4 H=>?_
  ·refine qg g4 bG (bD H fun x6 z5 H=>(qg g4 (bC func207 (jV fu p2 _ z5)) ?_))
   exact gE 3
  exact gE 5
 exact gE 9
def WR(fu:Nat)(pe:aG)(p4 x2:LB):Nat→Unit→Option (LR Unit Bool):=fun i3 _=>bd (iW fu p4 (aP x2 i3)) fun x7=>sw (!(x7)) (some (.ret false)) (some (.next ()))
def vV(fu:Nat)(pe:aG)(p4:LB):Option Bool:=bd (sG fu pe) fun x2=>so (loopN (WR fu pe p4 x2) (x2.length-0) 0 ()) fun _=>bd (vR fu pe) fun x10=>some x10
theorem CB(fu:Nat)(pe:aG)(p4:LB)(r:Bool)(H:vV fu pe p4=some r):bP Tryz.prog 252 [(aG.pv pe),rS p4] (pB r):=by
 refine qJ func252 H (fun C hC H=>?_)
 refine gQ 2 ?_;refine q1 (iR (gF pe)) ?_;refine gQ 4 ?_;refine q1 (cK [pI pe.asJ,pS pe.asN,pS pe.asD,pI pe.atN,pI pe.asH.asJ,pS pe.asH.asD,aX pe.asH.asG,fZ pe.asG,nL pe.asV]) (bD H fun x2 z1 H=>(q1 (bC func261 (HZ fu pe _ z1)) ?_))
 refine gQ 7 ?_;refine iG 5 (bI _) (fun hl4=>?_)
 refine bM (σ:=Unit) (fun i3 _=>⟨[(1,rS p4),(2,.ptr 0 0),(4,pB false),(5,rS x2),(6,pN i3)],⟨[some ⟨211,gF pe⟩],[]⟩⟩) (fun _=>⟨[(2,.ptr 0 0),(4,pB false)],⟨[some ⟨211,gF pe⟩],[]⟩⟩) (eR H) ?_ ?_
 ·rintro i3 ⟨⟩ H
  refine gQ 8 ?_;refine cW H (fun h5 h5l H=>?_) (fun h5 H=>?_)
  ·refine gQ 10 ?_;refine bD H fun x7 z6 H=>(q1 (bC func153 (jY fu p4 (aP x2 i3) _ z6)) ?_)
   refine gQ 2 ?_;refine a7 H (fun h8 H=>gE 4) fun h8 H=>?_;exact gE 6
  exact gE 0
 rintro⟨⟩ H
 refine gQ 2 ?_;refine q1 (cK [pI pe.asJ,pS pe.asN,pS pe.asD,pI pe.atN,pI pe.asH.asJ,pS pe.asH.asD,aX pe.asH.asG,fZ pe.asG,nL pe.asV]) (bD H fun x10 z9 H=>(q1 (bC func262 (L5 fu pe _ z9)) ?_))
 exact gE 2
def KG(fu:Nat)(ps:aD):Option Bool:=bd (cO fu ps.asD) fun x2=>sw (!(x2)) (some false) (sw (decide ((ps.asU.length:Int)>4)) (some false) (bd (u4 fu ps.asU ([g0]:LB)) fun x6=>sw (!(x6)) (some false) (bd (jN fu ps.asT ([g0]:LB)) fun x9=>sw (!(x9)) (some false) (sw (!(ps.as8)) (sw (decide ((ps.asP.length:Int)=0)) (bd (GE fu ps.asM) fun x14=>some x14) (some false)) (bd (fA fu ps.asP 5) fun x16=>sw x16 (sw (decide ((ps.asP.length:Int)=aY ((ps.asU.length:Int)+1))) (bd (vV fu ps.asM ps.asP) fun x20=>some x20) (some false)) (some false))))))
theorem ZG(fu:Nat)(ps:aD)(r:Bool)(H:KG fu ps=some r):bP Tryz.prog 246 [(aD.pv ps)] (pB r):=by
 refine qJ func246 H (fun C hC H=>?_)
 refine gQ 2 ?_;refine q1 (iR (X4 ps)) ?_;refine gQ 7 ?_;refine bD H fun x2 z1 H=>(q1 (bC func205 (c8 fu ps.asD _ z1)) ?_)
 refine gQ 2 ?_;refine dF 7 H (fun g3 H=>gE 25) fun g3 H=>?_;refine gQ 6 ?_;refine dF 13 H (fun g4 H=>gE 19) fun g4 H=>?_;refine gQ 2 ?_;refine qg g4 (gC ([g0]:LB)) (bD H fun x6 z5 H=>(qg g4 (bC func247 (OD fu ps.asU ([g0]:LB) _ z5)) ?_))
 refine gQ 3 ?_;refine dF 20 H (fun g7 H=>gE 12) fun g7 H=>?_;refine qg g7 bS (qg g7 (cK [pI ps.asT.asJ,pS ps.asT.asD,aX ps.asT.asG]) (qg g7 (gC ([g0]:LB)) (bD H fun x9 z8 H=>(qg g7 (bC func248 (nF fu ps.asT ([g0]:LB) _ z8)) ?_))))
 refine gQ 3 ?_;refine a7 H (fun h10 H=>gE 4) fun h10 H=>?_;refine gQ 8 ?_;refine a7 H (fun h11 H=>?_) (fun h11 H=>?_)
 ·refine gQ 7 ?_;refine dF 34 H (fun g12 H=>?_) fun g12 H=>?_
  ·refine qg g12 bS (qg g12 (cK [pI ps.asM.asJ,pS ps.asM.asN,pS ps.asM.asD,pI ps.asM.atN,pI ps.asM.asH.asJ,pS ps.asM.asH.asD,aX ps.asM.asH.asG,fZ ps.asM.asG,nL ps.asM.asV]) (bD H fun x14 z13 H=>(qg g12 (bC func257 (WV fu ps.asM _ z13)) ?_)))
   exact gE 3
  exact gE 6
 refine gQ 5 ?_;refine bD H fun x16 z15 H=>(q1 (bC func206 (fH fu ps.asP 5 _ z15)) (q1 bG ?_))
 refine dF 42 H (fun g17 H=>?_) fun g17 H=>?_
 ·refine gQ 6 ?_;refine qg g17 rAw ?_;refine gQ 3 ?_;refine dF 52 H (fun g18 H=>?_) fun g18 H=>?_
  ·refine qg g18 bS (qg g18 (cK [pI ps.asM.asJ,pS ps.asM.asN,pS ps.asM.asD,pI ps.asM.atN,pI ps.asM.asH.asJ,pS ps.asM.asH.asD,aX ps.asM.asH.asG,fZ ps.asM.asG,nL ps.asM.asV]) ?_)
   refine gQ 2 ?_;refine bD H fun x20 z19 H=>(qg g18 (bC func252 (CB fu ps.asM ps.asP _ z19)) ?_)
   exact gE 3
  exact gE 8
 exact gE 18
def JZ(fu:Nat)(pt:aQ):Nat→((LB))→Option (LR ((LB)) Bool):=fun i1 v3=>lt (aP pt.asX i1) fun y6=>bd (KG fu y6) fun x9=>sw (!(x9)) (some (.ret false)) (gd ((v3).length+(([y6.asD]:LB)).length≤68719476736) (some (.next (v3++([y6.asD]:LB)))))
def oP(fu:Nat)(pt:aQ):Option Bool:=so (loopN (JZ fu pt) (pt.asX.length-0) 0 ([])) fun v3=>sw (pt.atF) (sw (pt.asW) (some false) (sw (decide ((pt.asX.length:Int)>0)) (some false) (sw (decide ((pt.asO.length:Int)>0)) (some false) (bd (cO fu pt.asD) fun x17=>sw x17 (bd (fA fu pt.asO 4) fun x20=>sw x20 (bd (fA fu v3 6) fun x23=>some x23) (some false)) (some false))))) (bd (cO fu pt.asD) fun x25=>sw x25 (bd (fA fu pt.asO 4) fun x28=>sw x28 (bd (fA fu v3 6) fun x31=>some x31) (some false)) (some false))
theorem yQ(fu:Nat)(pt:aQ)(r:Bool)(H:oP fu pt=some r):bP Tryz.prog 229 [(aQ.pv pt)] (pB r):=by
 refine qJ func229 H (fun C hC H=>?_)
 refine gQ 2 ?_;refine q1 (iR (nX pt)) ?_;refine gQ 4 ?_;refine q1 (n0 ([]:LB)) ?_;refine gQ 7 ?_;refine cF.fact (b6 0 4 rfl rfl rfl (aD.trs_len _)) (fun hl4=>?_)
 refine bM (σ:=(LB)) (fun i1 v3=>⟨[(1,.ptr 0 0),(2,pB false),(3,aS v3 0),(4,pN i1)],⟨[some ⟨156,nX pt⟩],[⟨9,1,aW (v3),false⟩]⟩⟩) (fun v3=>⟨[(1,.ptr 0 0),(2,pB false),(3,aS v3 0)],⟨[some ⟨156,nX pt⟩],[⟨9,1,aW (v3),false⟩]⟩⟩) (eR H) ?_ ?_
 ·rintro i1 v3 H
  refine gQ 9 ?_;refine cW H (fun h5 h5l H=>?_) (fun h5 H=>?_)
  ·refine gQ 9 ?_;refine fI H fun y6 h7 H=>(q1 (uG h7 h5l) (q1 (jB (aD.cs y6)) (bD H fun x9 z8 H=>(q1 (bC func246 (ZG fu y6 _ z8)) ?_))))
   refine gQ 2 ?_;refine a7 H (fun h10 H=>gE 4) fun h10 H=>?_;refine gQ 6 ?_;refine q1 (uG h7 h5l) ?_;refine gQ 2 ?_;refine q1 (gC ([y6.asD]:LB)) (cQ H fun z11 H=>(q1 (jS z11) ?_))
   exact gE 7
  exact gE 0
 rintro v3 H
 refine gQ 6 ?_;refine dF 31 H (fun g12 H=>?_) fun g12 H=>?_
 ·refine gQ 3 ?_;refine dF 34 H (fun g13 H=>gE 18) fun g13 H=>?_;refine gQ 6 ?_;refine dF 40 H (fun g14 H=>gE 12) fun g14 H=>?_;refine gQ 7 ?_;refine a7 H (fun h15 H=>gE 4) fun h15 H=>?_;refine gQ 5 ?_;refine bD H fun x17 z16 H=>(q1 (bC func205 (c8 fu pt.asD _ z16)) (q1 bG ?_))
  refine dF 50 H (fun g18 H=>?_) fun g18 H=>?_
  ·refine gQ 2 ?_;refine bD H fun x20 z19 H=>(qg g18 (bC func206 (fH fu pt.asO 4 _ z19)) ?_)
   refine gQ 2 ?_;refine dF 55 H (fun g21 H=>?_) fun g21 H=>?_
   ·refine qg g21 bG (bD H fun x23 z22 H=>(qg g21 (bC func206 (fH fu v3 6 _ z22)) ?_))
    exact gE 3
   exact gE 5
  exact gE 10
 refine gQ 22 ?_;refine bD H fun x25 z24 H=>(q1 (bC func205 (c8 fu pt.asD _ z24)) (q1 bG ?_))
 refine dF 50 H (fun g26 H=>?_) fun g26 H=>?_
 ·refine gQ 2 ?_;refine bD H fun x28 z27 H=>(qg g26 (bC func206 (fH fu pt.asO 4 _ z27)) ?_)
  refine gQ 2 ?_;refine dF 55 H (fun g29 H=>?_) fun g29 H=>?_
  ·refine qg g29 bG (bD H fun x31 z30 H=>(qg g29 (bC func206 (fH fu v3 6 _ z30)) ?_))
   exact gE 3
  exact gE 5
 exact gE 10
def t8(fu:Nat)(pd:aI):Nat→((LB))→Option (LR ((LB)) Bool):=fun i1 v3=>sw (decide ((((((aP pd.asI i1).asR).length:Nat):Int):Int)>4)) (some (.ret false)) (bd (u4 fu ((aP pd.asI i1).asR) pd.asP) fun x8=>sw (!(x8)) (some (.ret false)) (gd ((v3).length+(([((aP pd.asI i1).asD)]:LB)).length≤68719476736) (some (.next (v3++([((aP pd.asI i1).asD)]:LB))))))
def gY(fu:Nat)(pd:aI):Option Bool:=so (loopN (t8 fu pd) (pd.asI.length-0) 0 ([])) fun v3=>bd (cO fu pd.asD) fun x12=>sw x12 (bd (fA fu pd.asP 3) fun x15=>sw x15 (sw (decide ((v3.length:Int)>0)) (bd (fA fu v3 5) fun x19=>some x19) (some false)) (some false)) (some false)
theorem t9(fu:Nat)(pd:aI)(r:Bool)(H:gY fu pd=some r):bP Tryz.prog 230 [(aI.pv pd)] (pB r):=by
 refine qJ func230 H (fun C hC H=>?_)
 refine gQ 2 ?_;refine q1 (iR (dG pd)) ?_;refine gQ 4 ?_;refine q1 (n0 ([]:LB)) ?_;refine gQ 7 ?_;refine cF.fact (b6 0 2 rfl rfl rfl (aC.trs_len _)) (fun hl4=>?_)
 refine bM (σ:=(LB)) (fun i1 v3=>⟨[(1,.ptr 0 0),(2,pB false),(3,aS v3 0),(4,pN i1)],⟨[some ⟨39,dG pd⟩],[⟨9,1,aW (v3),false⟩]⟩⟩) (fun v3=>⟨[(1,.ptr 0 0),(2,pB false),(3,aS v3 0)],⟨[some ⟨39,dG pd⟩],[⟨9,1,aW (v3),false⟩]⟩⟩) (eR H) ?_ ?_
 ·rintro i1 v3 H
  refine gQ 9 ?_;refine cW H (fun h5 h5l H=>?_) (fun h5 H=>?_)
  ·refine gQ 5 ?_
   rcases qB (decide ((((((aP pd.asI i1).asR).length:Nat):Int):Int)>4)) with g6|g6
   ·have H:=wF H g6
    refine dW (dI [1] bS (dD [13] eE (dI [4] bG (dI [14,15] qY (dI [16] y2 (dI [17] xR (dI [18] XL (dI [19] rGt (dI [20] bG ?_)))))))))
    iterate 10 refine ME g6 ?_
    refine dI [21] (A6 g6) (dN ?_)
    exact gE 5
   have H:=wE H g6
   refine bD H fun x8 z7 H=>(dW (dI [1] bS (dD [13] eE (dI [4] bG (dI [14,15] qY (dI [16] y2 (dI [17] xR (dI [18] XL (dI [19] rGt (dI [20] bG (dI (hg:=a6 g6) [1] bS (dD (hg:=a6 g6) [22] eE (dI (hg:=a6 g6) [4] bG ?_)))))))))))))
   refine dI (hg:=a6 g6) [23,24] qY (dI (hg:=a6 g6) [25] y2 (dI (hg:=a6 g6) [26] xR (dI (hg:=a6 g6) [1] bS (dD (hg:=a6 g6) [28] eE (dI (hg:=a6 g6) [27,29] (bC func247 (OD fu ((aP pd.asI i1).asR) pd.asP _ z7)) (dI (hg:=a6 g6) [30] F0 (dI [21,31] (DZ g6) (dN ?_))))))))
   refine a7 H (fun h9 H=>gE 4) fun h9 H=>?_;refine gQ 9 ?_;refine q1 (gC ([((aP pd.asI i1).asD)]:LB)) (cQ H fun z10 H=>(q1 (jS z10) ?_))
   exact gE 7
  exact gE 0
 rintro v3 H
 refine gQ 4 ?_;refine bD H fun x12 z11 H=>(q1 (bC func205 (c8 fu pd.asD _ z11)) (q1 bG ?_))
 refine dF 45 H (fun g13 H=>?_) fun g13 H=>?_
 ·refine gQ 2 ?_;refine bD H fun x15 z14 H=>(qg g13 (bC func206 (fH fu pd.asP 3 _ z14)) ?_)
  refine gQ 2 ?_;refine dF 50 H (fun g16 H=>?_) fun g16 H=>?_
  ·refine gQ 5 ?_;refine dF 55 H (fun g17 H=>?_) fun g17 H=>?_
   ·refine qg g17 bG (bD H fun x19 z18 H=>(qg g17 (bC func206 (fH fu v3 5 _ z18)) ?_))
    exact gE 3
   exact gE 5
  exact gE 10
 exact gE 15
def tZ(fu:Nat)(pb:aE):Option Bool:=bd (cO fu pb.asN) fun x2=>sw x2 (bd (fS fu pb.asH) fun x5=>some x5) (some false)
theorem JY(fu:Nat)(pb:aE)(r:Bool)(H:tZ fu pb=some r):bP Tryz.prog 259 [(aE.pv pb)] (pB r):=by
 refine qJ func259 H (fun C hC H=>?_)
 refine gQ 2 ?_;refine q1 (iR (eD pb)) ?_;refine gQ 6 ?_;refine bD H fun x2 z1 H=>(q1 (bC func205 (c8 fu pb.asN _ z1)) (q1 bG ?_))
 refine dF 6 H (fun g3 H=>?_) fun g3 H=>?_
 ·refine qg g3 bS (qg g3 (cK [pI pb.asH.asJ,pS pb.asH.asD,aX pb.asH.asG]) (bD H fun x5 z4 H=>(qg g3 (bC func258 (jW fu pb.asH _ z4)) ?_)))
  exact gE 3
 exact gE 6
def H8(fu:Nat)(p2:List aE)(p4:LB):Nat→Unit→Option (LR Unit Bool):=fun i1 _=>bd (tZ fu (aP p2 i1)) fun x5=>sw (!(x5)) (some (.ret false)) (bd (jN fu ((aP p2 i1).asH) p4) fun x8=>sw (!(x8)) (some (.ret false)) (bd (eC fu ((aP p2 i1).asH)) fun x11=>sw x11 (some (.ret false)) (some (.next ()))))
def qQ(fu:Nat)(p2:List aE)(p4:LB):Option Bool:=so (loopN (H8 fu p2 p4) (p2.length-0) 0 ()) fun _=>some (decide ((p2.length:Int)≤4))
theorem H9(fu:Nat)(p2:List aE)(p4:LB)(r:Bool)(H:qQ fu p2 p4=some r):bP Tryz.prog 249 [b4 p2,rS p4] (pB r):=by
 refine qJ func249 H (fun C hC H=>?_)
 refine gQ 9 ?_;refine iG 0 (aE.trs_len _) (fun hl2=>?_)
 refine bM (σ:=Unit) (fun i1 _=>⟨[(0,b4 p2),(1,rS p4),(4,pB false),(5,pN i1)],⟨[],[]⟩⟩) (fun _=>⟨[(0,b4 p2),(4,pB false)],⟨[],[]⟩⟩) (eR H) ?_ ?_
 ·rintro i1 ⟨⟩ H
  refine gQ 8 ?_;refine cW H (fun h3 h3l H=>?_) (fun h3 H=>?_)
  ·refine gQ 8 ?_;refine q1 (jB (aE.cs (aP p2 i1))) (bD H fun x5 z4 H=>(q1 (bC func259 (JY fu (aP p2 i1) _ z4)) ?_))
   refine gQ 2 ?_;refine dF 18 H (fun g6 H=>gE 23) fun g6 H=>?_;refine gQ 4 ?_;refine qg g6 (jB (aA.cs ((aP p2 i1).asH))) (qg g6 bG (bD H fun x8 z7 H=>(qg g6 (bC func248 (nF fu ((aP p2 i1).asH) p4 _ z7)) ?_)))
   refine gQ 3 ?_;refine dF 28 H (fun g9 H=>gE 13) fun g9 H=>?_;refine gQ 4 ?_;refine qg g9 (jB (aA.cs ((aP p2 i1).asH))) (bD H fun x11 z10 H=>(qg g9 (bC func86 (wU fu ((aP p2 i1).asH) _ z10)) ?_))
   refine gQ 2 ?_;refine a7 H (fun h12 H=>gE 4) fun h12 H=>?_;exact gE 6
  exact gE 0
 rintro⟨⟩ H
 exact gE 7
def uC(fu:Nat)(p0:aJ)(x2 x5 x8 x11 x15:Bool):Nat→Unit→Option (LR Unit Bool):=fun i17 _=>bd (B3 fu (aP p0.asP i17) p0.as1) fun x21=>sw (!(x21)) (some (.ret false)) (some (.next ()))
def uB(fu:Nat)(p0:aJ)(x2 x5 x8 x11 x15:Bool):Option (Bool⊕Unit):=sw (p0.as9) (bd (jN fu p0.asW p0.asP) fun x25=>sw (!(x25)) (some (.inl false)) (some (.inr ()))) (bd (lY fu p0.asW) fun x28=>sw (!(x28)) (some (.inl false)) (some (.inr ())))
def uD(fu:Nat)(p0:aJ)(x2 x5 x8 x11 x15:Bool):Nat→((LB))→Option (LR ((LB)) Bool):=fun i30 v32=>lt (aP p0.as2 i30) fun y35=>sw (decide ((y35.asP.length:Int)=0)) (some (.ret false)) (bd (fA fu y35.asP 5) fun x39=>sw (!(x39)) (some (.ret false)) (bd (vV fu y35.asM y35.asP) fun x42=>sw (!(x42)) (some (.ret false)) (gd ((v32).length+(([y35.asD]:LB)).length≤68719476736) (some (.next (v32++([y35.asD]:LB)))))))
def gZ(fu:Nat)(p0:aJ):Option Bool:=bd (cO fu p0.asN) fun x2=>sw (!(x2)) (some false) (bd (fA fu p0.asP 3) fun x5=>sw (!(x5)) (some false) (bd (jN fu p0.as1 p0.asP) fun x8=>sw (!(x8)) (some false) (bd (eC fu p0.as1) fun x11=>sw x11 (some false) (sw (decide (p0.as1.asJ=4)) (some false) (bd (qQ fu p0.as0 p0.asP) fun x15=>sw (!(x15)) (some false) (so (loopN (uC fu p0 x2 x5 x8 x11 x15) (p0.asP.length-0) 0 ()) fun _=>so (uB fu p0 x2 x5 x8 x11 x15) fun _=>so (loopN (uD fu p0 x2 x5 x8 x11 x15) (p0.as2.length-0) 0 ([])) fun v32=>bd (fA fu v32 6) fun x46=>some x46))))))
theorem uE(fu:Nat)(p0:aJ)(r:Bool)(H:gZ fu p0=some r):bP Tryz.prog 231 [(aJ.pv p0)] (pB r):=by
 refine qJ func231 H (fun C hC H=>?_)
 refine gQ 2 ?_;refine q1 (iR (lD p0)) ?_;refine gQ 7 ?_;refine bD H fun x2 z1 H=>(q1 (bC func205 (c8 fu p0.asN _ z1)) ?_)
 refine gQ 2 ?_;refine dF 11 H (fun g3 H=>gE 38) fun g3 H=>?_;refine gQ 2 ?_;refine bD H fun x5 z4 H=>(qg g3 (bC func206 (fH fu p0.asP 3 _ z4)) ?_)
 refine gQ 3 ?_;refine dF 17 H (fun g6 H=>gE 32) fun g6 H=>?_;refine qg g6 bS (qg g6 (cK [pI p0.as1.asJ,pS p0.as1.asD,aX p0.as1.asG]) ?_)
 refine gQ 2 ?_;refine bD H fun x8 z7 H=>(qg g6 (bC func248 (nF fu p0.as1 p0.asP _ z7)) ?_)
 refine gQ 3 ?_;refine dF 25 H (fun g9 H=>gE 24) fun g9 H=>?_;refine qg g9 bS (qg g9 (cK [pI p0.as1.asJ,pS p0.as1.asD,aX p0.as1.asG]) (bD H fun x11 z10 H=>(qg g9 (bC func86 (wU fu p0.as1 _ z10)) ?_)))
 refine gQ 2 ?_;refine dF 30 H (fun g12 H=>gE 19) fun g12 H=>?_;refine gQ 6 ?_;refine dF 36 H (fun g13 H=>gE 13) fun g13 H=>?_;refine gQ 4 ?_;refine bD H fun x15 z14 H=>(qg g13 (bC func249 (H9 fu p0.as0 p0.asP _ z14)) ?_)
 refine gQ 3 ?_;refine a7 H (fun h16 H=>gE 4) fun h16 H=>?_;refine gQ 6 ?_;refine iG 13 (bI _) (fun hl18=>?_)
 refine bM (σ:=Unit) (fun i17 _=>⟨[(1,.ptr 0 0),(2,pB false),(3,pN i17)],⟨[some ⟨163,lD p0⟩],[]⟩⟩) (fun _=>⟨[(1,.ptr 0 0),(2,pB false)],⟨[some ⟨163,lD p0⟩],[]⟩⟩) (eR H) ?_ ?_
 ·rintro i17 ⟨⟩ H
  refine gQ 9 ?_;refine cW H (fun h19 h19l H=>?_) (fun h19 H=>?_)
  ·refine gQ 4 ?_;refine bD H fun x21 z20 H=>(dW (dI [1] bS (dD [51] eE (dI [3] bG (dI [52,53] qY (dI [54] xR (dI [1] bS (dD [56] (cK [pI p0.as1.asJ,pS p0.as1.asD,aX p0.as1.asG]) (dI [55,57] (bC func250 (S2 fu (aP p0.asP i17) p0.as1 _ z20)) (dI [58] F0 (dN ?_)))))))))))
   refine a7 H (fun h22 H=>gE 4) fun h22 H=>?_;exact gE 6
  exact gE 0
 rintro⟨⟩ H
 refine qS ?_;refine m3 (σ:=Unit) (fun _=>⟨[(1,.ptr 0 0),(2,pB false)],⟨[some ⟨163,lD p0⟩],[]⟩⟩) (eR H) (fun H=>?_) ?_
 ·refine gQ 5 ?_;refine dF 62 H (fun g23 H=>?_) fun g23 H=>?_
  ·refine qg g23 bS (qg g23 (cK [pI p0.asW.asJ,pS p0.asW.asD,aX p0.asW.asG]) ?_)
   refine gQ 2 ?_;refine bD H fun x25 z24 H=>(qg g23 (bC func248 (nF fu p0.asW p0.asP _ z24)) ?_)
   refine gQ 3 ?_;refine dF 70 H (fun g26 H=>gE 16) fun g26 H=>?_;refine gQ 4 ?_
   iterate 4 refine qk (congrArg (fun b=> !b) g23) ?_
   refine qg g26 (DZ (congrArg (fun b=> !b) g23)) ?_;exact gE 4
  refine gQ 12 ?_;refine qg (congrArg (fun b=> !b) g23) bS (qg (congrArg (fun b=> !b) g23) (cK [pI p0.asW.asJ,pS p0.asW.asD,aX p0.asW.asG]) (bD H fun x28 z27 H=>(qg (congrArg (fun b=> !b) g23) (bC func251 (tE fu p0.asW _ z27)) (qg (congrArg (fun b=> !b) g23) F0 (qg rfl (A6 (congrArg (fun b=> !b) g23)) ?_)))))
  refine gQ 2 ?_;refine a7 H (fun h29 H=>gE 4) fun h29 H=>?_;exact gE 1
 rintro⟨⟩ H
 refine gQ 2 ?_;refine q1 (n0 ([]:LB)) ?_;refine gQ 7 ?_;refine cF.fact (b6 0 11 rfl rfl rfl (aM.trs_len _)) (fun hl33=>?_)
 refine bM (σ:=(LB)) (fun i30 v32=>⟨[(1,.ptr 0 0),(2,pB false),(4,aS v32 0),(5,pN i30)],⟨[some ⟨163,lD p0⟩],[⟨9,1,aW (v32),false⟩]⟩⟩) (fun v32=>⟨[(2,pB false),(4,aS v32 0)],⟨[some ⟨163,lD p0⟩],[⟨9,1,aW (v32),false⟩]⟩⟩) (eR H) ?_ ?_
 ·rintro i30 v32 H
  refine gQ 9 ?_;refine cW H (fun h34 h34l H=>?_) (fun h34 H=>?_)
  ·refine gQ 8 ?_;refine fI H fun y35 h36 H=>(q1 (uG h36 h34l) (q1 (jB (aM.cs y35)) ?_))
   refine gQ 11 ?_;refine dF 98 H (fun g37 H=>gE 19) fun g37 H=>?_;refine gQ 2 ?_;refine bD H fun x39 z38 H=>(qg g37 (bC func206 (fH fu y35.asP 5 _ z38)) ?_)
   refine gQ 3 ?_;refine dF 104 H (fun g40 H=>gE 13) fun g40 H=>?_;refine qg g40 bS (qg g40 (cK [pI y35.asM.asJ,pS y35.asM.asN,pS y35.asM.asD,pI y35.asM.atN,pI y35.asM.asH.asJ,pS y35.asM.asH.asD,aX y35.asM.asH.asG,fZ y35.asM.asG,nL y35.asM.asV]) ?_)
   refine gQ 2 ?_;refine bD H fun x42 z41 H=>(qg g40 (bC func252 (CB fu y35.asM y35.asP _ z41)) ?_)
   refine gQ 3 ?_;refine a7 H (fun h43 H=>gE 4) fun h43 H=>?_;refine gQ 5 ?_;refine q1 (gC ([y35.asD]:LB)) (cQ H fun z44 H=>(q1 (jS z44) ?_))
   exact gE 7
  exact gE 0
 rintro v32 H
 refine gQ 3 ?_;refine bD H fun x46 z45 H=>(q1 (bC func206 (fH fu v32 6 _ z45)) ?_)
 exact gE 2
def D9(fu:Nat)(pf:aL):Nat→((LB))→Option (LR ((LB)) Bool):=fun i1 v3=>bd (jN fu ((aP pf.asU i1).asH) pf.asP) fun x7=>sw (!(x7)) (some (.ret false)) (gd ((v3).length+(([((aP pf.asU i1).asD)]:LB)).length≤68719476736) (some (.next (v3++([((aP pf.asU i1).asD)]:LB)))))
def lX(fu:Nat)(pf:aL):Option Bool:=so (loopN (D9 fu pf) (pf.asU.length-0) 0 ([])) fun v3=>bd (cO fu pf.asD) fun x11=>sw x11 (bd (fA fu pf.asP 3) fun x14=>sw x14 (bd (qQ fu pf.as0 pf.asP) fun x17=>sw x17 (bd (fA fu v3 5) fun x20=>sw x20 (bd (jN fu pf.asT pf.asP) fun x23=>sw x23 (bd (vV fu pf.asM v3) fun x26=>some x26) (some false)) (some false)) (some false)) (some false)) (some false)
theorem uA(fu:Nat)(pf:aL)(r:Bool)(H:lX fu pf=some r):bP Tryz.prog 232 [(aL.pv pf)] (pB r):=by
 refine qJ func232 H (fun C hC H=>?_)
 refine gQ 2 ?_;refine q1 (iR (uV pf)) ?_;refine gQ 4 ?_;refine q1 (n0 ([]:LB)) ?_;refine gQ 7 ?_;refine cF.fact (b6 0 3 rfl rfl rfl (aR.trs_len _)) (fun hl4=>?_)
 refine bM (σ:=(LB)) (fun i1 v3=>⟨[(1,.ptr 0 0),(2,pB false),(3,aS v3 0),(4,pN i1)],⟨[some ⟨213,uV pf⟩],[⟨9,1,aW (v3),false⟩]⟩⟩) (fun v3=>⟨[(1,.ptr 0 0),(2,pB false),(3,aS v3 0)],⟨[some ⟨213,uV pf⟩],[⟨9,1,aW (v3),false⟩]⟩⟩) (eR H) ?_ ?_
 ·rintro i1 v3 H
  refine gQ 9 ?_;refine cW H (fun h5 h5l H=>?_) (fun h5 H=>?_)
  ·refine gQ 5 ?_;refine bD H fun x7 z6 H=>(dW (dI [1] bS (dD [13] eE (dI [4] bG (dI [14,15] qY (dI [16] y2 (dI [17] (jB (aA.cs ((aP pf.asU i1).asH))) (dI [1] bS (dD [19] eE (dI [18,20] (bC func248 (nF fu ((aP pf.asU i1).asH) pf.asP _ z6)) (dI [21] F0 (dN ?_))))))))))))
   refine a7 H (fun h8 H=>gE 4) fun h8 H=>?_;refine gQ 9 ?_;refine q1 (gC ([((aP pf.asU i1).asD)]:LB)) (cQ H fun z9 H=>(q1 (jS z9) ?_))
   exact gE 7
  exact gE 0
 rintro v3 H
 refine gQ 4 ?_;refine bD H fun x11 z10 H=>(q1 (bC func205 (c8 fu pf.asD _ z10)) (q1 bG ?_))
 refine dF 35 H (fun g12 H=>?_) fun g12 H=>?_
 ·refine gQ 2 ?_;refine bD H fun x14 z13 H=>(qg g12 (bC func206 (fH fu pf.asP 3 _ z13)) ?_)
  refine gQ 2 ?_;refine dF 40 H (fun g15 H=>?_) fun g15 H=>?_
  ·refine gQ 4 ?_;refine bD H fun x17 z16 H=>(qg g15 (bC func249 (H9 fu pf.as0 pf.asP _ z16)) ?_)
   refine gQ 2 ?_;refine dF 47 H (fun g18 H=>?_) fun g18 H=>?_
   ·refine qg g18 bG (bD H fun x20 z19 H=>(qg g18 (bC func206 (fH fu v3 5 _ z19)) ?_))
    refine gQ 2 ?_;refine dF 51 H (fun g21 H=>?_) fun g21 H=>?_
    ·refine qg g21 bS (qg g21 (cK [pI pf.asT.asJ,pS pf.asT.asD,aX pf.asT.asG]) ?_)
     refine gQ 2 ?_;refine bD H fun x23 z22 H=>(qg g21 (bC func248 (nF fu pf.asT pf.asP _ z22)) ?_)
     refine gQ 2 ?_;refine dF 58 H (fun g24 H=>?_) fun g24 H=>?_
     ·refine qg g24 bS (qg g24 (cK [pI pf.asM.asJ,pS pf.asM.asN,pS pf.asM.asD,pI pf.asM.atN,pI pf.asM.asH.asJ,pS pf.asM.asH.asD,aX pf.asM.asH.asG,fZ pf.asM.asG,nL pf.asM.asV]) (qg g24 bG (bD H fun x26 z25 H=>(qg g24 (bC func252 (CB fu pf.asM v3 _ z25)) ?_))))
      exact gE 3
     exact gE 7
    exact gE 14
   exact gE 18
  exact gE 25
 exact gE 30
end
end Go.Proofs.YtfcoaagbccmahaaGreat.W
