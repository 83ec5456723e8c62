/- The reference's parser, pG 4. No conditions. -/
import Derived.Test.YtfcoaagbccmahaaGreatQhf3293a09
set_option linter.unusedSimpArgs false
set_option linter.unusedVariables false
namespace Go.Proofs.YtfcoaagbccmahaaGreat.W
set_option maxRecDepth 100000
set_option maxHeartbeats 40000000
noncomputable section
open Tryz Go.RowKit Go.Proofs
attribute [local irreducible] lt
abbrev t4:=aL→Int→Option Int
def GG(m:t4):Prop:= ∀(pe:aL) (p8:Int) (r:Int),m pe p8=some r→bR Tryz.prog 268 [(aL.pv pe),pI p8] (pI r:PV)
def agK(fu:Nat)(p6:t4)(pe:aL)(p8:Int):Nat→Int→Option (LR Int Int):=fun i1 v2=>sw (decide (v2≥0)) (lt (aT pe.aB4 i1) fun y6=>bd (p6 y6 v2) fun x9=>some (.next x9)) (some (.brk v2))
def agL(fu:Nat)(p6:t4)(pe:aL)(p8 v2:Int):Nat→Int→Option (LR Int Int):=fun i10 v11=>sw (decide (v11≥0)) (lt (aT pe.aCo i10) fun y15=>bd (p6 y15.aCd v11) fun x18=>some (.next x18)) (some (.brk v11))
def MX(fu:Nat)(p6:t4)(pe:aL)(p8:Int):Option Int:=so (loopN (agK fu p6 pe p8) (pe.aB4.length-0) 0 (aX (p8-1))) fun v2=>so (loopN (agL fu p6 pe p8 v2) (pe.aCo.length-0) 0 v2) fun v11=>some v11
theorem ZC(fu:Nat)(p6:t4)(pC:GG p6):GG (MX fu p6):=by
 intro pe p8 r H
 refine qJ func268 H (fun C hC H=>?_)
 refine gQ 2 ?_;refine q1 (eX (jB pe)) ?_;refine gQ 13 ?_;refine cQ.fact (cI 0 7 rfl rfl rfl (aL.trs_len _)) (fun hl3=>?_)
 refine bU (σ:=Int) (fun i1 v2=>⟨[(1,pI v2),(2,.ptr 0 0),(4,pI 0),(5,pN i1)],⟨[some ⟨211,jB pe⟩],[]⟩⟩) (fun v2=>⟨[(1,pI v2),(2,.ptr 0 0),(4,pI 0)],⟨[some ⟨211,jB pe⟩],[]⟩⟩) (eK H) ?_ ?_
 ·rintro i1 v2 H
  refine gQ 9 ?_;refine AL.splitB 14 rfl (fun g4=>?_) (fun g4=>?_)
  ·have g4l:=wK g4
   have H:=lnT g4l H
   have g4n:=AO g4
   refine gQ 4 ?_;refine bC H (fun h5 H=>?_) (fun h5 H=>?_)
   ·refine gQ 7 ?_;refine fZ H fun y6 h7 H=>(q1 (yI h7 g4n) (q1 (iI (aL.cs y6)) (q1 bF (bK H fun x9 z8 H=>(q1 (bE func268 (pC y6 v2 _ z8)) ?_)))))
    exact gE 7
   exact gE 0
  have H:=lnE (wJ g4) H
  exact gE 5
 rintro v2 H
 refine gQ 5 ?_;refine cQ.fact (cI 0 8 rfl rfl rfl (bS.trs_len _)) (fun hl12=>?_)
 refine bU (σ:=Int) (fun i10 v11=>⟨[(1,pI v11),(2,.ptr 0 0),(4,pI 0),(6,pN i10)],⟨[some ⟨211,jB pe⟩],[]⟩⟩) (fun v11=>⟨[(1,pI v11),(4,pI 0)],⟨[some ⟨211,jB pe⟩],[]⟩⟩) (eK H) ?_ ?_
 ·rintro i10 v11 H
  refine gQ 9 ?_;refine AL.splitB 32 rfl (fun g13=>?_) (fun g13=>?_)
  ·have g13l:=wK g13
   have H:=lnT g13l H
   have g13n:=AO g13
   refine gQ 4 ?_;refine bC H (fun h14 H=>?_) (fun h14 H=>?_)
   ·refine gQ 7 ?_;refine fZ H fun y15 h16 H=>(q1 (yI h16 g13n) (q1 wZ (q1 (iI (aL.cs y15.aCd)) (q1 bF (bK H fun x18 z17 H=>(q1 (bE func268 (pC y15.aCd v11 _ z17)) ?_))))))
    exact gE 7
   exact gE 0
  have H:=lnE (wJ g13) H
  exact gE 5
 rintro v11 H
 exact gE 5
def nC:Nat→aL→Int→Option Int
 |0,_,_=>none
 |fu+1,pe,p8=>MX fu (nC fu) pe p8
theorem acT(fu:Nat):GG (nC fu):=by
 induction fu with
 |zero=>exact(fun pe p8 r H=>by simp only [nC] at H;cases H)
 |succ fu ih=>exact(fun pe p8 r H=>by simp only [nC] at H;exact ZC fu (nC fu) ih pe p8 r H)
theorem agN(fu:Nat):GG (nC fu):=(acT fu)
def ai9(fu:Nat)(pk:Int):Option ((Bool×Bool×Bool×Bool×Int×Bool)⊕Bool):=sw (decide (pk=1)) (some (.inr (decide (pk=1)))) (some (.inr (decide (pk=2))))
def ajA(fu:Nat)(pk:Int)(v1:Bool):Option ((Bool×Bool×Bool×Bool×Int×Bool)⊕Bool):=sw (decide (pk=4)) (some (.inr (decide (pk=4)))) (some (.inr (decide (pk=6))))
def ajB(fu:Nat)(pk:Int)(v1 v5:Bool):Option ((Bool×Bool×Bool×Bool×Int×Bool)⊕Bool):=sw (decide (pk=8)) (some (.inr (decide (pk=8)))) (some (.inr (decide (pk=10))))
def R1(fu:Nat)(pk:Int):Option (Bool×Bool×Bool×Bool×Int×Bool):=so (ai9 fu pk) fun v1=>sw (v1) (some (false,false,true,false,0,false)) (sw (decide (pk=3)) (some (false,true,false,false,0,false)) (so (ajA fu pk v1) fun v5=>sw (v5) (some (false,true,false,false,(-1),false)) (sw (decide (pk=5)) (some (true,true,false,false,(-1),false)) (sw (decide (pk=7)) (some (false,false,false,false,1,true)) (so (ajB fu pk v1 v5) fun v10=>sw (v10) (some (false,true,false,false,2,false)) (sw (decide (pk=9)) (some (false,false,false,false,3,false)) (sw (decide (pk=11)) (some (true,false,false,false,1,false)) (some (false,false,false,true,1,false)))))))))
theorem ajC(fu:Nat)(pk:Int)(r:Bool×Bool×Bool×Bool×Int×Bool)(H:R1 fu pk=some r):bR Tryz.prog 271 [pI pk] (.tup [pB r.1,pB r.2.1,pB r.2.2.1,pB r.2.2.2.1,pI r.2.2.2.2.1,pB r.2.2.2.2.2]):=by
 refine qJ func271 H (fun C hC H=>?_)
 refine gQ 16 ?_;refine nV (σ:=Bool) (fun v1=>⟨[(2,pB false),(3,pB false),(4,pB false),(5,pB false),(6,pI 0),(7,pB false),(8,pI pk),(9,pB v1)],⟨[],[]⟩⟩) (eK H) (fun H=>?_) ?_
 ·refine gQ 5 ?_;refine bC H (fun h2 H=>gE 1) fun h2 H=>?_;exact gE 4
 rintro v1 H
 refine bC H (fun h3 H=>gE 9) fun h3 H=>?_;refine gQ 5 ?_;refine bC H (fun h4 H=>gE 9) fun h4 H=>?_;refine qS ?_;refine nV (σ:=Bool) (fun v5=>⟨[(2,pB false),(3,pB false),(4,pB false),(5,pB false),(6,pI 0),(7,pB false),(8,pI pk),(14,pB v5)],⟨[],[]⟩⟩) (eK H) (fun H=>?_) ?_
 ·refine gQ 5 ?_;refine bC H (fun h6 H=>gE 1) fun h6 H=>?_;exact gE 4
 rintro v5 H
 refine bC H (fun h7 H=>gE 9) fun h7 H=>?_;refine gQ 5 ?_;refine bC H (fun h8 H=>gE 9) fun h8 H=>?_;refine gQ 5 ?_;refine bC H (fun h9 H=>gE 9) fun h9 H=>?_;refine qS ?_;refine nV (σ:=Bool) (fun v10=>⟨[(2,pB false),(3,pB false),(4,pB false),(5,pB false),(6,pI 0),(7,pB false),(8,pI pk),(21,pB v10)],⟨[],[]⟩⟩) (eK H) (fun H=>?_) ?_
 ·refine gQ 5 ?_;refine bC H (fun h11 H=>gE 1) fun h11 H=>?_;exact gE 4
 rintro v10 H
 refine bC H (fun h12 H=>gE 9) fun h12 H=>?_;refine gQ 5 ?_;refine bC H (fun h13 H=>gE 9) fun h13 H=>?_;refine gQ 5 ?_;refine bC H (fun h14 H=>gE 9) fun h14 H=>?_;exact gE 10
def MY(fu:Nat)(ps:ByteArray):Option Bool:=bd (lA fu ([CE,HK,PM,PN,PO]:LB) ps) fun x2=>some x2
theorem agO(fu:Nat)(ps:ByteArray)(r:Bool)(H:MY fu ps=some r):bR Tryz.prog 272 [pS ps] (pB r):=by
 refine qJ func272 H (fun C hC H=>?_)
 refine gQ 6 ?_;refine q1 (iF ([CE,HK,PM,PN,PO]:LB)) (q1 bF (bK H fun x2 z1 H=>(q1 (bE func153 (mH fu ([CE,HK,PM,PN,PO]:LB) ps _ z1)) ?_)))
 exact gE 2
def n9(fu:Nat)(pt:aA):Option Bool:=sw (decide (pt.aB5=0)) (sw (decide (pt.aB3=s_)) (some (decide ((pt.aB4.length:Int)=0))) (some false)) (some false)
theorem xY(fu:Nat)(pt:aA)(r:Bool)(H:n9 fu pt=some r):bR Tryz.prog 251 [(aA.pv pt)] (pB r):=by
 refine qJ func251 H (fun C hC H=>?_)
 refine gQ 2 ?_;refine q1 (eX (bM pt)) ?_;refine gQ 8 ?_;refine dH 6 H (fun g1 H=>?_) fun g1 H=>?_
 ·refine gQ 5 ?_;refine dH 11 H (fun g2 H=>gE 7) fun g2 H=>?_;exact gE 7
 exact gE 12
abbrev l0:=aL→Option Bool
def GE(m:l0):Prop:= ∀(p0:aL) (r:Bool),m p0=some r→bR Tryz.prog 269 [(aL.pv p0)] (pB r:PV)
def af7(fu:Nat)(p1:l0)(p0:aL)(x2 x3 x4 x5:Bool)(x6:Int)(x7:Bool):Option (Bool⊕Unit):=bd (sK fu p0.aB5 1 12) fun x9=>sw (!(x9)) (some (.inl false)) (bd (c6 fu p0.aCa) fun x12=>sw (!decide (x12=x2)) (some (.inl false)) (sw (!(x2)) (sw (!decide (p0.aCa=s_)) (some (.inl false)) (sw (!(x4)) (sw (!decide (p0.aCL=0)) (some (.inl false)) (sw (!decide ((decide ((p0.aCo.length:Int)>0):Bool)=x7)) (some (.inl false)) (some (.inr ())))) (sw (!decide ((decide ((p0.aCo.length:Int)>0):Bool)=x7)) (some (.inl false)) (some (.inr ()))))) (sw (!(x4)) (sw (!decide (p0.aCL=0)) (some (.inl false)) (sw (!decide ((decide ((p0.aCo.length:Int)>0):Bool)=x7)) (some (.inl false)) (some (.inr ())))) (sw (!decide ((decide ((p0.aCo.length:Int)>0):Bool)=x7)) (some (.inl false)) (some (.inr ()))))))
def af8(fu:Nat)(p1:l0)(p0:aL)(x2 x3 x4 x5:Bool)(x6:Int)(x7:Bool):Option (Bool⊕Unit):=sw (decide (p0.aB5=10)) (bd (MY fu p0.aB3) fun x26=>sw (!(x26)) (some (.inl false)) (sw (!decide (p0.aB5=10)) (bd (c6 fu p0.aB3) fun x30=>sw (!decide (x30=x3)) (some (.inl false)) (sw (!(x3)) (sw (!decide (p0.aB3=s_)) (some (.inl false)) (some (.inr ()))) (some (.inr ())))) (some (.inr ())))) (sw (!decide (p0.aB5=10)) (bd (c6 fu p0.aB3) fun x36=>sw (!decide (x36=x3)) (some (.inl false)) (sw (!(x3)) (sw (!decide (p0.aB3=s_)) (some (.inl false)) (some (.inr ()))) (some (.inr ())))) (some (.inr ())))
def af9(fu:Nat)(p1:l0)(p0:aL)(x2 x3 x4 x5:Bool)(x6:Int)(x7:Bool):Option (Bool⊕Unit):=sw (decide (x6≥0)) (sw (!decide ((p0.aB4.length:Int)=x6)) (some (.inl false)) (sw (decide (p0.aB5=5)) (sw (decide ((p0.aB4.length:Int)=0)) (some (.inl false)) (sw x5 (bd (iH fu p0.aB7) fun x46=>sw (!(x46)) (some (.inl false)) (some (.inr ()))) (bd (n9 fu p0.aB7) fun x49=>sw (!(x49)) (some (.inl false)) (some (.inr ()))))) (sw x5 (bd (iH fu p0.aB7) fun x53=>sw (!(x53)) (some (.inl false)) (some (.inr ()))) (bd (n9 fu p0.aB7) fun x56=>sw (!(x56)) (some (.inl false)) (some (.inr ())))))) (sw (decide (p0.aB5=5)) (sw (decide ((p0.aB4.length:Int)=0)) (some (.inl false)) (sw x5 (bd (iH fu p0.aB7) fun x62=>sw (!(x62)) (some (.inl false)) (some (.inr ()))) (bd (n9 fu p0.aB7) fun x65=>sw (!(x65)) (some (.inl false)) (some (.inr ()))))) (sw x5 (bd (iH fu p0.aB7) fun x69=>sw (!(x69)) (some (.inl false)) (some (.inr ()))) (bd (n9 fu p0.aB7) fun x72=>sw (!(x72)) (some (.inl false)) (some (.inr ())))))
def agA(fu:Nat)(p1:l0)(p0:aL)(x2 x3 x4 x5:Bool)(x6:Int)(x7:Bool):Option (Bool⊕Unit):=sw (decide (p0.aB5=1)) (bd (sK fu p0.aCL (-999999) 999999) fun x76=>sw (!(x76)) (some (.inl false)) (some (.inr ()))) (sw (decide (p0.aB5=2)) (bd (sK fu p0.aCL 0 1) fun x80=>sw (!(x80)) (some (.inl false)) (some (.inr ()))) (some (.inr ())))
def agB(fu:Nat)(p1:l0)(p0:aL)(x2 x3 x4 x5:Bool)(x6:Int)(x7:Bool):Nat→Unit→Option (LR Unit Bool):=fun i82 _=>lt (aT p0.aB4 i82) fun y85=>bd (p1 y85) fun x88=>sw (!(x88)) (some (.ret false)) (some (.next ()))
def agC(fu:Nat)(p1:l0)(p0:aL)(x2 x3 x4 x5:Bool)(x6:Int)(x7:Bool):Nat→Unit→Option (LR Unit Bool):=fun i90 _=>lt (aT p0.aCo i90) fun y93=>bd (c6 fu y93.aCs) fun x96=>sw (!(x96)) (some (.ret false)) (bd (GQ fu y93.aCg) fun x99=>sw (!(x99)) (some (.ret false)) (bd (kQ fu y93.aCg) fun x102=>sw (!(x102)) (some (.ret false)) (bd (p1 y93.aCd) fun x105=>sw (!(x105)) (some (.ret false)) (some (.next ())))))
def MV(fu:Nat)(p1:l0)(p0:aL):Option Bool:=bd (R1 fu p0.aB5) fun(x2,x3,x4,x5,x6,x7)=>so (af7 fu p1 p0 x2 x3 x4 x5 x6 x7) fun _=>so (af8 fu p1 p0 x2 x3 x4 x5 x6 x7) fun _=>so (af9 fu p1 p0 x2 x3 x4 x5 x6 x7) fun _=>so (agA fu p1 p0 x2 x3 x4 x5 x6 x7) fun _=>so (loopN (agB fu p1 p0 x2 x3 x4 x5 x6 x7) (p0.aB4.length-0) 0 ()) fun _=>so (loopN (agC fu p1 p0 x2 x3 x4 x5 x6 x7) (p0.aCo.length-0) 0 ()) fun _=>some true
theorem ZA(fu:Nat)(p1:l0)(pD:GE p1):GE (MV fu p1):=by
 intro p0 r H
 refine qJ func269 H (fun C hC H=>?_)
 refine gQ 2 ?_;refine q1 (eX (jB p0)) ?_;refine gQ 6 ?_
 obtain⟨⟨x2,x3,x4,x5,x6,x7⟩,z1,H⟩:=bdI H
 refine q1 (bE func271 (ajC fu p0.aB5 _ z1)) ?_;refine gQ 15 ?_;refine nV (σ:=Unit) (fun _=>⟨[(1,.ptr 0 0),(2,pB false),(4,pB x3),(6,pB x5),(7,pI x6)],⟨[some ⟨211,jB p0⟩],[]⟩⟩) (eK H) (fun H=>?_) ?_
 ·refine gQ 4 ?_;refine bK H fun x9 z8 H=>(q1 (bE func64 (yD fu p0.aB5 1 12 _ z8)) ?_)
  refine gQ 2 ?_;refine dH 26 H (fun g10 H=>gE 38) fun g10 H=>?_;refine gQ 2 ?_;refine bK H fun x12 z11 H=>(qg g10 (bE func205 (eC fu p0.aCa _ z11)) (qg g10 bF (qg g10 (bB.neqB rfl rfl rfl rfl Tryz.underlying4) ?_)))
  refine gQ 2 ?_;refine dH 33 H (fun g13 H=>gE 31) fun g13 H=>?_;refine gQ 3 ?_;refine dH 36 H (fun g14 H=>?_) fun g14 H=>?_
  ·refine gQ 6 ?_;refine dH 42 H (fun g15 H=>gE 22) fun g15 H=>?_;refine gQ 3 ?_;refine dH 45 H (fun g16 H=>?_) fun g16 H=>?_
   ·refine gQ 6 ?_;refine dH 51 H (fun g17 H=>gE 13) fun g17 H=>?_;refine gQ 5 ?_;refine qg g17 (bB.neqB rfl rfl rfl rfl Tryz.underlying4) ?_;refine gQ 2 ?_;refine bC H (fun h18 H=>gE 4) fun h18 H=>?_;exact gE 1
   refine gQ 11 ?_;refine qg rfl (bB.neqB rfl rfl rfl rfl Tryz.underlying4) ?_;refine gQ 2 ?_;refine bC H (fun h19 H=>gE 4) fun h19 H=>?_;exact gE 1
  refine gQ 9 ?_;refine dH 45 H (fun g20 H=>?_) fun g20 H=>?_
  ·refine gQ 6 ?_;refine dH 51 H (fun g21 H=>gE 13) fun g21 H=>?_;refine gQ 5 ?_;refine qg g21 (bB.neqB rfl rfl rfl rfl Tryz.underlying4) ?_;refine gQ 2 ?_;refine bC H (fun h22 H=>gE 4) fun h22 H=>?_;exact gE 1
  refine gQ 11 ?_;refine qg rfl (bB.neqB rfl rfl rfl rfl Tryz.underlying4) ?_;refine gQ 2 ?_;refine bC H (fun h23 H=>gE 4) fun h23 H=>?_;exact gE 1
 rintro⟨⟩ H
 refine qS ?_;refine nV (σ:=Unit) (fun _=>⟨[(1,.ptr 0 0),(2,pB false),(6,pB x5),(7,pI x6)],⟨[some ⟨211,jB p0⟩],[]⟩⟩) (eK H) (fun H=>?_) ?_
 ·refine gQ 6 ?_;refine dH 62 H (fun g24 H=>?_) fun g24 H=>?_
  ·refine gQ 2 ?_;refine bK H fun x26 z25 H=>(qg g24 (bE func272 (agO fu p0.aB3 _ z25)) ?_)
   refine gQ 3 ?_;refine dH 68 H (fun g27 H=>gE 26) fun g27 H=>?_;refine gQ 4 ?_;refine dH 72 H (fun g28 H=>?_) fun g28 H=>?_
   ·refine gQ 2 ?_;refine bK H fun x30 z29 H=>(qg g28 (bE func205 (eC fu p0.aB3 _ z29)) (qg g28 bF (qg g28 (bB.neqB rfl rfl rfl rfl Tryz.underlying4) (qg g28 bF ?_))))
    refine dH 78 H (fun g31 H=>gE 16) fun g31 H=>?_;refine gQ 3 ?_;refine dH 81 H (fun g32 H=>?_) fun g32 H=>?_
    ·refine gQ 8 ?_;refine bC H (fun h33 H=>gE 4) fun h33 H=>?_;exact gE 1
    exact gE 10
   exact gE 19
  refine gQ 10 ?_;refine dH 72 H (fun g34 H=>?_) fun g34 H=>?_
  ·refine gQ 2 ?_;refine bK H fun x36 z35 H=>(qg g34 (bE func205 (eC fu p0.aB3 _ z35)) (qg g34 bF (qg g34 (bB.neqB rfl rfl rfl rfl Tryz.underlying4) (qg g34 bF ?_))))
   refine dH 78 H (fun g37 H=>gE 16) fun g37 H=>?_;refine gQ 3 ?_;refine dH 81 H (fun g38 H=>?_) fun g38 H=>?_
   ·refine gQ 8 ?_;refine bC H (fun h39 H=>gE 4) fun h39 H=>?_;exact gE 1
   exact gE 10
  exact gE 19
 rintro⟨⟩ H
 refine qS ?_;refine nV (σ:=Unit) (fun _=>⟨[(1,.ptr 0 0),(2,pB false)],⟨[some ⟨211,jB p0⟩],[]⟩⟩) (eK H) (fun H=>?_) ?_
 ·refine gQ 5 ?_;refine dH 91 H (fun g40 H=>?_) fun g40 H=>?_
  ·refine gQ 7 ?_;refine dH 98 H (fun g41 H=>gE 35) fun g41 H=>?_;refine gQ 4 ?_;refine dH 102 H (fun g42 H=>?_) fun g42 H=>?_
   ·refine gQ 7 ?_;refine dH 109 H (fun g43 H=>gE 24) fun g43 H=>?_;refine gQ 2 ?_;refine dH 111 H (fun g44 H=>?_) fun g44 H=>?_
    ·refine qg g44 bZ (qg g44 (bW [pI p0.aB7.aB5,pS p0.aB7.aB3,aR p0.aB7.aB4]) (bK H fun x46 z45 H=>(qg g44 (bE func258 (mG fu p0.aB7 _ z45)) ?_)))
     refine gQ 4 ?_;refine dH 118 H (fun g47 H=>gE 15) fun g47 H=>?_;refine gQ 3 ?_
     iterate 4 refine qk (congrArg (fun b=> !b) g44) ?_
     refine qg g47 (F5 (congrArg (fun b=> !b) g44)) ?_;exact gE 4
    refine gQ 10 ?_;refine qg (congrArg (fun b=> !b) g44) bZ (qg (congrArg (fun b=> !b) g44) (bW [pI p0.aB7.aB5,pS p0.aB7.aB3,aR p0.aB7.aB4]) (bK H fun x49 z48 H=>(qg (congrArg (fun b=> !b) g44) (bE func251 (xY fu p0.aB7 _ z48)) (qg (congrArg (fun b=> !b) g44) JS (qg rfl (DV (congrArg (fun b=> !b) g44)) ?_)))))
    refine gQ 2 ?_;refine bC H (fun h50 H=>gE 4) fun h50 H=>?_;exact gE 1
   refine gQ 9 ?_;refine dH 111 H (fun g51 H=>?_) fun g51 H=>?_
   ·refine qg g51 bZ (qg g51 (bW [pI p0.aB7.aB5,pS p0.aB7.aB3,aR p0.aB7.aB4]) (bK H fun x53 z52 H=>(qg g51 (bE func258 (mG fu p0.aB7 _ z52)) ?_)))
    refine gQ 4 ?_;refine dH 118 H (fun g54 H=>gE 15) fun g54 H=>?_;refine gQ 3 ?_
    iterate 4 refine qk (congrArg (fun b=> !b) g51) ?_
    refine qg g54 (F5 (congrArg (fun b=> !b) g51)) ?_;exact gE 4
   refine gQ 10 ?_;refine qg (congrArg (fun b=> !b) g51) bZ (qg (congrArg (fun b=> !b) g51) (bW [pI p0.aB7.aB5,pS p0.aB7.aB3,aR p0.aB7.aB4]) (bK H fun x56 z55 H=>(qg (congrArg (fun b=> !b) g51) (bE func251 (xY fu p0.aB7 _ z55)) (qg (congrArg (fun b=> !b) g51) JS (qg rfl (DV (congrArg (fun b=> !b) g51)) ?_)))))
   refine gQ 2 ?_;refine bC H (fun h57 H=>gE 4) fun h57 H=>?_;exact gE 1
  refine gQ 11 ?_;refine dH 102 H (fun g58 H=>?_) fun g58 H=>?_
  ·refine gQ 7 ?_;refine dH 109 H (fun g59 H=>gE 24) fun g59 H=>?_;refine gQ 2 ?_;refine dH 111 H (fun g60 H=>?_) fun g60 H=>?_
   ·refine qg g60 bZ (qg g60 (bW [pI p0.aB7.aB5,pS p0.aB7.aB3,aR p0.aB7.aB4]) (bK H fun x62 z61 H=>(qg g60 (bE func258 (mG fu p0.aB7 _ z61)) ?_)))
    refine gQ 4 ?_;refine dH 118 H (fun g63 H=>gE 15) fun g63 H=>?_;refine gQ 3 ?_
    iterate 4 refine qk (congrArg (fun b=> !b) g60) ?_
    refine qg g63 (F5 (congrArg (fun b=> !b) g60)) ?_;exact gE 4
   refine gQ 10 ?_;refine qg (congrArg (fun b=> !b) g60) bZ (qg (congrArg (fun b=> !b) g60) (bW [pI p0.aB7.aB5,pS p0.aB7.aB3,aR p0.aB7.aB4]) (bK H fun x65 z64 H=>(qg (congrArg (fun b=> !b) g60) (bE func251 (xY fu p0.aB7 _ z64)) (qg (congrArg (fun b=> !b) g60) JS (qg rfl (DV (congrArg (fun b=> !b) g60)) ?_)))))
   refine gQ 2 ?_;refine bC H (fun h66 H=>gE 4) fun h66 H=>?_;exact gE 1
  refine gQ 9 ?_;refine dH 111 H (fun g67 H=>?_) fun g67 H=>?_
  ·refine qg g67 bZ (qg g67 (bW [pI p0.aB7.aB5,pS p0.aB7.aB3,aR p0.aB7.aB4]) (bK H fun x69 z68 H=>(qg g67 (bE func258 (mG fu p0.aB7 _ z68)) ?_)))
   refine gQ 4 ?_;refine dH 118 H (fun g70 H=>gE 15) fun g70 H=>?_;refine gQ 3 ?_
   iterate 4 refine qk (congrArg (fun b=> !b) g67) ?_
   refine qg g70 (F5 (congrArg (fun b=> !b) g67)) ?_;exact gE 4
  refine gQ 10 ?_;refine qg (congrArg (fun b=> !b) g67) bZ (qg (congrArg (fun b=> !b) g67) (bW [pI p0.aB7.aB5,pS p0.aB7.aB3,aR p0.aB7.aB4]) (bK H fun x72 z71 H=>(qg (congrArg (fun b=> !b) g67) (bE func251 (xY fu p0.aB7 _ z71)) (qg (congrArg (fun b=> !b) g67) JS (qg rfl (DV (congrArg (fun b=> !b) g67)) ?_)))))
  refine gQ 2 ?_;refine bC H (fun h73 H=>gE 4) fun h73 H=>?_;exact gE 1
 rintro⟨⟩ H
 refine qS ?_;refine nV (σ:=Unit) (fun _=>⟨[(1,.ptr 0 0),(2,pB false)],⟨[some ⟨211,jB p0⟩],[]⟩⟩) (eK H) (fun H=>?_) ?_
 ·refine gQ 6 ?_;refine dH 131 H (fun g74 H=>?_) fun g74 H=>?_
  ·refine gQ 2 ?_;refine bK H fun x76 z75 H=>(qg g74 (bE func64 (yD fu p0.aCL (-999999) 999999 _ z75)) ?_)
   refine gQ 3 ?_;refine dH 137 H (fun g77 H=>gE 16) fun g77 H=>?_;refine gQ 4 ?_
   iterate 4 refine qk (dne (b:=2) g74 (by decide)) ?_
   refine qg g77 (F5 (dne (b:=2) g74 (by decide))) ?_;exact gE 4
  refine gQ 10 ?_;refine dH 141 H (fun g78 H=>?_) fun g78 H=>?_
  ·refine gQ 2 ?_;refine bK H fun x80 z79 H=>(qg g78 (bE func64 (yD fu p0.aCL 0 1 _ z79)) ?_)
   refine gQ 4 ?_;refine bC H (fun h81 H=>gE 4) fun h81 H=>?_;exact gE 1
  exact gE 9
 rintro⟨⟩ H
 refine gQ 5 ?_;refine cQ.fact (cI 0 7 rfl rfl rfl (aL.trs_len _)) (fun hl83=>?_)
 refine bU (σ:=Unit) (fun i82 _=>⟨[(1,.ptr 0 0),(2,pB false),(9,pN i82)],⟨[some ⟨211,jB p0⟩],[]⟩⟩) (fun _=>⟨[(1,.ptr 0 0),(2,pB false)],⟨[some ⟨211,jB p0⟩],[]⟩⟩) (eK H) ?_ ?_
 ·rintro i82 ⟨⟩ H
  refine gQ 9 ?_;refine cS H (fun h84 h84l H=>?_) (fun h84 H=>?_)
  ·refine gQ 8 ?_;refine fZ H fun y85 h86 H=>(q1 (yI h86 h84l) (q1 (iI (aL.cs y85)) (bK H fun x88 z87 H=>(q1 (bE func269 (pD y85 _ z87)) ?_))))
   refine gQ 2 ?_;refine bC H (fun h89 H=>gE 4) fun h89 H=>?_;exact gE 6
  exact gE 0
 rintro⟨⟩ H
 refine gQ 5 ?_;refine cQ.fact (cI 0 8 rfl rfl rfl (bS.trs_len _)) (fun hl91=>?_)
 refine bU (σ:=Unit) (fun i90 _=>⟨[(1,.ptr 0 0),(2,pB false),(10,pN i90)],⟨[some ⟨211,jB p0⟩],[]⟩⟩) (fun _=>⟨[(2,pB false)],⟨[some ⟨211,jB p0⟩],[]⟩⟩) (eK H) ?_ ?_
 ·rintro i90 ⟨⟩ H
  refine gQ 9 ?_;refine cS H (fun h92 h92l H=>?_) (fun h92 H=>?_)
  ·refine gQ 8 ?_;refine fZ H fun y93 h94 H=>(q1 (yI h94 h92l) (q1 (iI (bS.cs y93)) ?_))
   refine gQ 7 ?_;refine bK H fun x96 z95 H=>(q1 (bE func205 (eC fu y93.aCs _ z95)) ?_)
   refine gQ 2 ?_;refine dH 178 H (fun g97 H=>gE 23) fun g97 H=>?_;refine gQ 2 ?_;refine bK H fun x99 z98 H=>(qg g97 (bE func228 (S7 fu y93.aCg _ z98)) ?_)
   refine gQ 3 ?_;refine dH 184 H (fun g100 H=>gE 17) fun g100 H=>?_;refine gQ 2 ?_;refine bK H fun x102 z101 H=>(qg g100 (bE func207 (mF fu y93.aCg _ z101)) ?_)
   refine gQ 3 ?_;refine dH 190 H (fun g103 H=>gE 11) fun g103 H=>?_;refine qg g103 bZ (qg g103 (bW [pI y93.aCd.aB5,pS y93.aCd.aCa,pS y93.aCd.aB3,pI y93.aCd.aCL,pI y93.aCd.aB7.aB5,pS y93.aCd.aB7.aB3,aR y93.aCd.aB7.aB4,iP y93.aCd.aB4,sE y93.aCd.aCo]) (bK H fun x105 z104 H=>(qg g103 (bE func269 (pD y93.aCd _ z104)) ?_)))
   refine gQ 3 ?_;refine bC H (fun h106 H=>gE 4) fun h106 H=>?_;exact gE 6
  exact gE 0
 rintro⟨⟩ H
 exact gE 4
def nA:Nat→aL→Option Bool
 |0,_=>none
 |fu+1,p0=>MV fu (nA fu) p0
theorem acR(fu:Nat):GE (nA fu):=by
 induction fu with
 |zero=>exact(fun p0 r H=>by simp only [nA] at H;cases H)
 |succ fu ih=>exact(fun p0 r H=>by simp only [nA] at H;exact ZA fu (nA fu) ih p0 r H)
theorem agE(fu:Nat):GE (nA fu):=(acR fu)
def BN(fu:Nat)(pe:aL):Option Bool:=bd (nC fu pe 300) fun x2=>sw (decide (x2≥0)) (bd (nA fu pe) fun x5=>some x5) (some false)
theorem TX(fu:Nat)(pe:aL)(r:Bool)(H:BN fu pe=some r):bR Tryz.prog 262 [(aL.pv pe)] (pB r):=by
 refine qJ func262 H (fun C hC H=>?_)
 refine gQ 2 ?_;refine q1 (eX (jB pe)) ?_;refine gQ 4 ?_;refine q1 (bW [pI pe.aB5,pS pe.aCa,pS pe.aB3,pI pe.aCL,pI pe.aB7.aB5,pS pe.aB7.aB3,aR pe.aB7.aB4,iP pe.aB4,sE pe.aCo]) (bK H fun x2 z1 H=>(q1 (bE func268 (agN fu pe 300 _ z1)) ?_))
 refine gQ 2 ?_;refine dH 6 H (fun g3 H=>?_) fun g3 H=>?_
 ·refine qg g3 (bW [pI pe.aB5,pS pe.aCa,pS pe.aB3,pI pe.aCL,pI pe.aB7.aB5,pS pe.aB7.aB3,aR pe.aB7.aB4,iP pe.aB4,sE pe.aCo]) (bK H fun x5 z4 H=>(qg g3 (bE func269 (agE fu pe _ z4)) ?_))
  exact gE 3
 exact gE 5
def acU(fu:Nat)(pa pb:LB):Nat→Unit→Option (LR Unit Bool):=fun i2 _=>gd (i2<(pb).length) (sw (!decide (aT pa i2=aT pb i2)) (some (.ret false)) (some (.next ())))
def IS(fu:Nat)(pa pb:LB):Option Bool:=sw (!decide ((pa.length:Int)=(pb.length:Int))) (some false) (so (loopN (acU fu pa pb) (pa.length-0) 0 ()) fun _=>some true)
theorem O5(fu:Nat)(pa:LB)(pb:LB)(r:Bool)(H:IS fu pa pb=some r):bR Tryz.prog 270 [rS pa,rS pb] (pB r):=by
 refine qJ func270 H (fun C hC H=>?_)
 refine gQ 13 ?_;refine bC H (fun h1 H=>gE 4) fun h1 H=>?_;refine gQ 6 ?_;refine gL 0 (bV _) (fun hl3=>?_)
 refine bU (σ:=Unit) (fun i2 _=>⟨[(0,rS pa),(1,rS pb),(4,pB false),(5,pN i2)],⟨[],[]⟩⟩) (fun _=>⟨[(4,pB false)],⟨[],[]⟩⟩) (eK H) ?_ ?_
 ·rintro i2 ⟨⟩ H
  refine gQ 8 ?_;refine cS H (fun h4 h4l H=>?_) (fun h4 H=>?_)
  ·refine gQ 4 ?_;refine cC H fun z5 H=>(dW (dI [0] bF (dI [5] bF (dI [17,18] qF (dI [19] vM (dI [1] bF (dI [5] bF (dI [21,22] qF (dI [23] vM (dI [20,24] rSn (dN ?_)))))))))))
   refine bC H (fun h6 H=>gE 4) fun h6 H=>?_;exact gE 6
  exact gE 0
 rintro⟨⟩ H
 exact gE 4
abbrev n6:=aL→aL→Option Bool
def zW(m:n6):Prop:= ∀(p0:aL) (p7:aL) (r:Bool),m p0 p7=some r→bR Tryz.prog 263 [(aL.pv p0),(aL.pv p7)] (pB r:PV)
def YT(fu:Nat)(p5:n6)(p0 p7:aL)(x6:Bool):Nat→Unit→Option (LR Unit Bool):=fun i10 _=>lt (aT p0.aB4 i10) fun y13=>gd (i10<(p7.aB4).length) (lt (aT p7.aB4 i10) fun y16=>bd (p5 y13 y16) fun x19=>sw (!(x19)) (some (.ret false)) (some (.next ())))
def YU(fu:Nat)(p5:n6)(p0 p7:aL)(x6:Bool):Nat→Unit→Option (LR Unit Bool):=fun i21 _=>lt (aT p0.aCo i21) fun y24=>gd (i21<(p7.aCo).length) (lt (aT p7.aCo i21) fun y27=>sw (!decide (y24.aCs=y27.aCs)) (some (.ret false)) (bd (IS fu y24.aCg y27.aCg) fun x31=>sw (!(x31)) (some (.ret false)) (bd (p5 y24.aCd y27.aCd) fun x34=>sw (!(x34)) (some (.ret false)) (some (.next ())))))
def F8(fu:Nat)(p5:n6)(p0 p7:aL):Option Bool:=sw (!decide (p0.aB5=p7.aB5)) (some false) (sw (!decide (p0.aCa=p7.aCa)) (some false) (sw (!decide (p0.aB3=p7.aB3)) (some false) (sw (!decide (p0.aCL=p7.aCL)) (some false) (bd (fG fu p0.aB7 p7.aB7) fun x6=>sw (!(x6)) (some false) (sw (!decide ((p0.aB4.length:Int)=(p7.aB4.length:Int))) (some false) (sw (!decide ((p0.aCo.length:Int)=(p7.aCo.length:Int))) (some false) (so (loopN (YT fu p5 p0 p7 x6) (p0.aB4.length-0) 0 ()) fun _=>so (loopN (YU fu p5 p0 p7 x6) (p0.aCo.length-0) 0 ()) fun _=>some true)))))))
theorem TS(fu:Nat)(p5:n6)(pA:zW p5):zW (F8 fu p5):=by
 intro p0 p7 r H
 refine qJ func263 H (fun C hC H=>?_)
 refine gQ 2 ?_;refine q1 (eX (jB p0)) (q1 (eX (jB p7)) ?_)
 refine gQ 11 ?_;refine dH 12 H (fun g1 H=>gE 52) fun g1 H=>?_;refine gQ 7 ?_;refine dH 19 H (fun g2 H=>gE 45) fun g2 H=>?_;refine gQ 7 ?_;refine dH 26 H (fun g3 H=>gE 38) fun g3 H=>?_;refine gQ 7 ?_;refine dH 33 H (fun g4 H=>gE 31) fun g4 H=>?_;refine qg g4 bZ (qg g4 (bW [pI p0.aB7.aB5,pS p0.aB7.aB3,aR p0.aB7.aB4]) (qg g4 bZ (qg g4 (bW [pI p7.aB7.aB5,pS p7.aB7.aB3,aR p7.aB7.aB4]) (bK H fun x6 z5 H=>(qg g4 (bE func38 (K8 fu p0.aB7 p7.aB7 _ z5)) ?_)))))
 refine gQ 3 ?_;refine dH 41 H (fun g7 H=>gE 23) fun g7 H=>?_;refine gQ 9 ?_;refine dH 50 H (fun g8 H=>gE 14) fun g8 H=>?_;refine gQ 9 ?_;refine bC H (fun h9 H=>gE 4) fun h9 H=>?_;refine gQ 6 ?_;refine gL 43 (aL.trs_len _) (fun hl11=>?_)
 refine bU (σ:=Unit) (fun i10 _=>⟨[(2,.ptr 0 0),(3,.ptr 1 0),(4,pB false),(5,pN i10)],⟨[some ⟨211,jB p0⟩,some ⟨211,jB p7⟩],[]⟩⟩) (fun _=>⟨[(2,.ptr 0 0),(3,.ptr 1 0),(4,pB false)],⟨[some ⟨211,jB p0⟩,some ⟨211,jB p7⟩],[]⟩⟩) (eK H) ?_ ?_
 ·rintro i10 ⟨⟩ H
  refine gQ 9 ?_;refine cS H (fun h12 h12l H=>?_) (fun h12 H=>?_)
  ·refine gQ 4 ?_;refine fZ H fun y13 h14 H=>(cC H fun z15 H=>(fZ H fun y16 h17 H=>(bK H fun x19 z18 H=>(dW (dI [2] bZ (dD [66] eE (dI [5] bF (dI [67,68] (yI h14 h12l) (dI [69] (iI (aL.cs y13)) (dI [3] bZ (dD [71] eE (dI [5] bF (dI [72,73] (yI h17 z15) ?_)))))))))))))
   refine dI [74] (iI (aL.cs y16)) (dI [70,75] (bE func263 (pA y13 y16 _ z18)) (dI [76] JS (dN ?_)))
   refine bC H (fun h20 H=>gE 4) fun h20 H=>?_;exact gE 6
  exact gE 0
 rintro⟨⟩ H
 refine gQ 5 ?_;refine cQ.fact (cI 0 8 rfl rfl rfl (bS.trs_len _)) (fun hl22=>?_)
 refine bU (σ:=Unit) (fun i21 _=>⟨[(2,.ptr 0 0),(3,.ptr 1 0),(4,pB false),(6,pN i21)],⟨[some ⟨211,jB p0⟩,some ⟨211,jB p7⟩],[]⟩⟩) (fun _=>⟨[(4,pB false)],⟨[some ⟨211,jB p0⟩,some ⟨211,jB p7⟩],[]⟩⟩) (eK H) ?_ ?_
 ·rintro i21 ⟨⟩ H
  refine gQ 9 ?_;refine cS H (fun h23 h23l H=>?_) (fun h23 H=>?_)
  ·refine gQ 4 ?_;refine fZ H fun y24 h25 H=>(cC H fun z26 H=>(fZ H fun y27 h28 H=>?_))
   rcases oQ (!decide (y24.aCs=y27.aCs)) with g29|g29
   ·have H:=sZ H g29
    refine dW (dI [2] bZ (dD [85] eE (dI [6] bF (dI [86,87] (yI h25 h23l) (dI [88] wZ (dI [89] vM (dI [3] bZ (dD [91] eE (dI [6] bF (dI [92,93] (yI h28 z26) (dI [94] wZ (dI [95] vM (dI [90,96] rSn ?_)))))))))))))
    refine dI [97] bF ?_
    iterate 14 refine NH g29 ?_
    refine dI [98] (DV g29) (dI [113] bF ?_)
    iterate 14 refine NH rfl ?_
    refine dI [114] (DV rfl) (dN ?_)
    exact gE 5
   have H:=sY H g29
   refine bK H fun x31 z30 H=>?_
   rcases oQ (!(x31)) with g32|g32
   ·have H:=sZ H g32
    refine dW (dI [2] bZ (dD [85] eE (dI [6] bF (dI [86,87] (yI h25 h23l) (dI [88] wZ (dI [89] vM (dI [3] bZ (dD [91] eE (dI [6] bF (dI [92,93] (yI h28 z26) (dI [94] wZ (dI [95] vM (dI [90,96] rSn ?_)))))))))))))
    refine dI [97] bF (dI (hg:=bD g29) [2] bZ (dD (hg:=bD g29) [99] eE (dI (hg:=bD g29) [6] bF (dI (hg:=bD g29) [100,101] (yI h25 h23l) (dI (hg:=bD g29) [102] wZ (dI (hg:=bD g29) [103] vM (dI (hg:=bD g29) [3] bZ (dD (hg:=bD g29) [105] eE (dI (hg:=bD g29) [6] bF (dI (hg:=bD g29) [106,107] (yI h28 z26) (dI (hg:=bD g29) [108] wZ (dI (hg:=bD g29) [109] vM (dI (hg:=bD g29) [104,110] (bE func270 (O5 fu y24.aCg y27.aCg _ z30)) ?_)))))))))))))
    refine dI (hg:=bD g29) [111] JS (dI [98,112] (F5 g29) (dI [113] bF ?_))
    iterate 14 refine NH g32 ?_
    refine dI [114] (DV g32) (dN ?_)
    exact gE 5
   have H:=sY H g32
   refine bK H fun x34 z33 H=>(dW (dI [2] bZ (dD [85] eE (dI [6] bF (dI [86,87] (yI h25 h23l) (dI [88] wZ (dI [89] vM (dI [3] bZ (dD [91] eE (dI [6] bF (dI [92,93] (yI h28 z26) (dI [94] wZ (dI [95] vM ?_)))))))))))))
   refine dI [90,96] rSn (dI [97] bF (dI (hg:=bD g29) [2] bZ (dD (hg:=bD g29) [99] eE (dI (hg:=bD g29) [6] bF (dI (hg:=bD g29) [100,101] (yI h25 h23l) (dI (hg:=bD g29) [102] wZ (dI (hg:=bD g29) [103] vM (dI (hg:=bD g29) [3] bZ (dD (hg:=bD g29) [105] eE (dI (hg:=bD g29) [6] bF (dI (hg:=bD g29) [106,107] (yI h28 z26) (dI (hg:=bD g29) [108] wZ (dI (hg:=bD g29) [109] vM ?_)))))))))))))
   refine dI (hg:=bD g29) [104,110] (bE func270 (O5 fu y24.aCg y27.aCg _ z30)) (dI (hg:=bD g29) [111] JS (dI [98,112] (F5 g29) (dI [113] bF (dI (hg:=bD g32) [2] bZ (dD (hg:=bD g32) [115] eE (dI (hg:=bD g32) [6] bF (dI (hg:=bD g32) [116,117] (yI h25 h23l) (dI (hg:=bD g32) [118] wZ (dI (hg:=bD g32) [119] (iI (aL.cs y24.aCd)) (dI (hg:=bD g32) [3] bZ (dD (hg:=bD g32) [121] eE (dI (hg:=bD g32) [6] bF (dI (hg:=bD g32) [122,123] (yI h28 z26) ?_)))))))))))))
   refine dI (hg:=bD g32) [124] wZ (dI (hg:=bD g32) [125] (iI (aL.cs y27.aCd)) (dI (hg:=bD g32) [120,126] (bE func263 (pA y24.aCd y27.aCd _ z33)) (dI (hg:=bD g32) [127] JS (dI [114,128] (F5 g32) (dN ?_)))))
   refine bC H (fun h35 H=>gE 4) fun h35 H=>?_;exact gE 6
  exact gE 0
 rintro⟨⟩ H
 exact gE 4
def kF:Nat→aL→aL→Option Bool
 |0,_,_=>none
 |fu+1,p0,p7=>F8 fu (kF fu) p0 p7
theorem WF(fu:Nat):zW (kF fu):=by
 induction fu with
 |zero=>exact(fun p0 p7 r H=>by simp only [kF] at H;cases H)
 |succ fu ih=>exact(fun p0 p7 r H=>by simp only [kF] at H;exact TS fu (kF fu) ih p0 p7 r H)
theorem YW(fu:Nat):zW (kF fu):=(WF fu)
abbrev rQ:=aL→(LB)→(LB)→Option ((LB))
def GF(m:rQ):Prop:= ∀(p0:aL) (p7:LB) (pE:LB) (r:(LB)),m p0 p7 pE=some r→b7 Tryz.prog 267 [(aL.pv p0),rS p7,aS pE 0] ⟨[],[⟨9,1,aY (pE),false⟩]⟩ (fun q t=>q=(aS r 0:PV)∧t=⟨[],[⟨9,1,aY (r),false⟩]⟩)
def agF(fu:Nat)(p3:rQ)(p0:aL)(p7 pE:LB):Option (((LB))⊕((LB))):=sw (decide (p0.aB5=3)) (bd (lA fu p7 p0.aB3) fun x5=>sw (!(x5)) (bd (lA fu pE p0.aB3) fun x8=>sw (!(x8)) (gd ((pE).length+(([p0.aB3]:LB)).length≤68719476736) (some (.inr (pE++([p0.aB3]:LB))))) (some (.inr pE))) (some (.inr pE))) (some (.inr pE))
def agG(fu:Nat)(p3:rQ)(p0:aL)(p7 pE v2:LB):Nat→((LB))→Option (LR ((LB)) ((LB))):=fun i11 v13=>sw (decide (p0.aB5=8)) (sw (decide ((i11:Int)=1)) (gd (([]:LB).length+(p7).length≤68719476736) (gd ((([])++p7).length+(([p0.aB3]:LB)).length≤68719476736) (lt (aT p0.aB4 i11) fun y20=>bd (p3 y20 ((([])++p7)++([p0.aB3]:LB)) v13) fun x23=>some (.next x23)))) (lt (aT p0.aB4 i11) fun y24=>bd (p3 y24 p7 v13) fun x27=>some (.next x27))) (lt (aT p0.aB4 i11) fun y28=>bd (p3 y28 p7 v13) fun x31=>some (.next x31))
def agH(fu:Nat)(p3:rQ)(p0:aL)(p7 pE v2 v13:LB):Nat→((LB))→Option (LR ((LB)) ((LB))):=fun i32 v34=>lt (aT p0.aCo i32) fun y37=>gd (([]:LB).length+(p7).length≤68719476736) (gd ((([])++p7).length+(y37.aCg).length≤68719476736) (bd (p3 y37.aCd ((([])++p7)++y37.aCg) v34) fun x42=>some (.next x42)))
def MW(fu:Nat)(p3:rQ)(p0:aL)(p7 pE:LB):Option ((LB)):=so (agF fu p3 p0 p7 pE) fun v2=>so (loopN (agG fu p3 p0 p7 pE v2) (p0.aB4.length-0) 0 v2) fun v13=>so (loopN (agH fu p3 p0 p7 pE v2 v13) (p0.aCo.length-0) 0 v13) fun v34=>some v34
theorem ZB(fu:Nat)(p3:rQ)(p9:GF p3):GF (MW fu p3):=by
 intro p0 p7 pE r H
 refine qJ func267 H (fun C hC H=>?_)
 refine gQ 2 ?_;refine q1 (eX (jB p0)) ?_;refine gQ 3 ?_;refine nV (σ:=(LB)) (fun v2=>⟨[(1,rS p7),(2,aS v2 0),(3,.ptr 0 0),(6,.nil)],⟨[some ⟨211,jB p0⟩],[⟨9,1,aY (v2),false⟩]⟩⟩) (eK H) (fun H=>?_) ?_
 ·refine gQ 6 ?_;refine dH 13 H (fun g3 H=>?_) fun g3 H=>?_
  ·refine gQ 3 ?_;refine bK H fun x5 z4 H=>(qg g3 (bE func153 (mH fu p7 p0.aB3 _ z4)) ?_)
   refine gQ 3 ?_;refine dH 20 H (fun g6 H=>?_) fun g6 H=>?_
   ·refine gQ 3 ?_;refine bK H fun x8 z7 H=>(qg g6 (bE func153 (mH fu pE p0.aB3 _ z7)) ?_)
    refine gQ 3 ?_;refine bC H (fun h9 H=>?_) (fun h9 H=>?_)
    ·refine gQ 4 ?_;refine q1 (iF ([p0.aB3]:LB)) (cC H fun z10 H=>(q1 (lG z10) ?_))
     exact gE 2
    exact gE 1
   exact gE 9
  exact gE 16
 rintro v2 H
 refine gQ 5 ?_;refine cQ.fact (cI 0 7 rfl rfl rfl (aL.trs_len _)) (fun hl14=>?_)
 refine bU (σ:=(LB)) (fun i11 v13=>⟨[(1,rS p7),(2,aS v13 0),(3,.ptr 0 0),(6,.nil),(7,pN i11)],⟨[some ⟨211,jB p0⟩],[⟨9,1,aY (v13),false⟩]⟩⟩) (fun v13=>⟨[(1,rS p7),(2,aS v13 0),(3,.ptr 0 0),(6,.nil)],⟨[some ⟨211,jB p0⟩],[⟨9,1,aY (v13),false⟩]⟩⟩) (eK H) ?_ ?_
 ·rintro i11 v13 H
  refine gQ 9 ?_;refine cS H (fun h15 h15l H=>?_) (fun h15 H=>?_)
  ·refine gQ 15 ?_;refine dH 43 H (fun g16 H=>?_) fun g16 H=>?_
   ·refine gQ 4 ?_;refine bC H (fun h17 H=>?_) (fun h17 H=>?_)
    ·refine cC H fun z18 H=>(cC H fun z19 H=>(dW (dE [] (qE ([]:LB)) (dI [1] bF (dE [47,48] (lG z18) (dI [3] bZ (dB [50] 0 2 uK (dI [51] (iF ([p0.aB3]:LB)) (dE [49,52] (lG z19) (dI [53] bF (dN ?_)))))))))))
     refine gQ 4 ?_;refine fZ H fun y20 h21 H=>(q1 (yI h21 h15l) (q1 (iI (aL.cs y20)) ?_))
     refine gQ 2 ?_;refine bK H fun x23 z22 H=>(q1 (eU [] [0] func267 (p9 y20 ((([])++p7)++([p0.aB3]:LB)) v13 _ z22)) ?_)
     exact gE 7
    refine gQ 5 ?_;refine fZ H fun y24 h25 H=>(q1 (yI h25 h15l) (q1 (iI (aL.cs y24)) ?_))
    refine gQ 2 ?_;refine bK H fun x27 z26 H=>(q1 (eU [] [0] func267 (p9 y24 p7 v13 _ z26)) ?_)
    exact gE 7
   refine gQ 10 ?_;refine fZ H fun y28 h29 H=>(q1 (yI h29 h15l) (q1 (iI (aL.cs y28)) ?_))
   refine gQ 2 ?_;refine bK H fun x31 z30 H=>(q1 (eU [] [0] func267 (p9 y28 p7 v13 _ z30)) ?_)
   exact gE 7
  exact gE 0
 rintro v13 H
 refine gQ 5 ?_;refine cQ.fact (cI 0 8 rfl rfl rfl (bS.trs_len _)) (fun hl35=>?_)
 refine bU (σ:=(LB)) (fun i32 v34=>⟨[(1,rS p7),(2,aS v34 0),(3,.ptr 0 0),(6,.nil),(9,pN i32)],⟨[some ⟨211,jB p0⟩],[⟨9,1,aY (v34),false⟩]⟩⟩) (fun v34=>⟨[(2,aS v34 0),(6,.nil)],⟨[some ⟨211,jB p0⟩],[⟨9,1,aY (v34),false⟩]⟩⟩) (eK H) ?_ ?_
 ·rintro i32 v34 H
  refine gQ 9 ?_;refine cS H (fun h36 h36l H=>?_) (fun h36 H=>?_)
  ·refine gQ 3 ?_;refine fZ H fun y37 h38 H=>(cC H fun z39 H=>(cC H fun z40 H=>(bK H fun x42 z41 H=>(dW (dI [3] bZ (dB [69] 0 3 uK (dI [9] bF (dI [70,71] (yI h38 h36l) (dI [72] wZ (dI [73] (iI (aL.cs y37.aCd)) (dE [] (qE ([]:LB)) (dI [1] bF (dE [75,76] (lG z39) ?_)))))))))))))
   refine dI [3] bZ (dB [78] 0 2 uK (dI [9] bF (dI [79,80] (yI h38 h36l) (dI [81] wZ (dI [82] vM (dE [77,83] (lG z40) (dI [2] bF (dE [74,84,85] (eU [] [0] func267 (p9 y37.aCd ((([])++p7)++y37.aCg) v34 _ z41)) (dI [86] bF (dN ?_))))))))))
   exact gE 5
  exact gE 0
 rintro v34 H
 exact gE 5
def nB:Nat→aL→(LB)→(LB)→Option ((LB))
 |0,_,_,_=>none
 |fu+1,p0,p7,pE=>MW fu (nB fu) p0 p7 pE
theorem acS(fu:Nat):GF (nB fu):=by
 induction fu with
 |zero=>exact(fun p0 p7 pE r H=>by simp only [nB] at H;cases H)
 |succ fu ih=>exact(fun p0 p7 pE r H=>by simp only [nB] at H;exact ZB fu (nB fu) ih p0 p7 pE r H)
theorem agJ(fu:Nat):GF (nB fu):=(acS fu)
def wN(fu:Nat)(pe:aL):Option ((LB)):=bd (nB fu pe ([]) ([])) fun x2=>some x2
theorem OY(fu:Nat)(pe:aL)(r:(LB))(H:wN fu pe=some r):bR Tryz.prog 261 [(aL.pv pe)] (rS r):=by
 refine qJ func261 H (fun C hC H=>?_)
 refine gQ 2 ?_;refine q1 (eX (jB pe)) ?_;refine gQ 4 ?_;refine q1 (bW [pI pe.aB5,pS pe.aCa,pS pe.aB3,pI pe.aCL,pI pe.aB7.aB5,pS pe.aB7.aB3,aR pe.aB7.aB4,iP pe.aB4,sE pe.aCo]) ?_
 iterate 2 refine q1 (qE ([]:LB)) ?_
 refine bK H fun x2 z1 H=>(q1 (eU [] [1] func267 (agJ fu pe ([]) ([]) _ z1)) ?_)
 exact gE 2
def S1(fu:Nat)(pt:aA)(p4 x2:LB):Nat→Unit→Option (LR Unit Bool):=fun i3 _=>bd (lA fu p4 (aT x2 i3)) fun x7=>sw (!(x7)) (some (.ret false)) (some (.next ()))
def l3(fu:Nat)(pt:aA)(p4:LB):Option Bool:=bd (nP fu pt) fun x2=>so (loopN (S1 fu pt p4 x2) (x2.length-0) 0 ()) fun _=>bd (iH fu pt) fun x10=>some x10
theorem rR(fu:Nat)(pt:aA)(p4:LB)(r:Bool)(H:l3 fu pt p4=some r):bR Tryz.prog 248 [(aA.pv pt),rS p4] (pB r):=by
 refine qJ func248 H (fun C hC H=>?_)
 refine gQ 2 ?_;refine q1 (eX (bM pt)) ?_;refine gQ 4 ?_;refine q1 (bW [pI pt.aB5,pS pt.aB3,aR pt.aB4]) (bK H fun x2 z1 H=>(q1 (bE func85 (CY fu pt _ z1)) ?_))
 refine gQ 7 ?_;refine gL 5 (bV _) (fun hl4=>?_)
 refine bU (σ:=Unit) (fun i3 _=>⟨[(1,rS p4),(2,.ptr 0 0),(4,pB false),(5,rS x2),(6,pN i3)],⟨[some ⟨30,bM pt⟩],[]⟩⟩) (fun _=>⟨[(2,.ptr 0 0),(4,pB false)],⟨[some ⟨30,bM pt⟩],[]⟩⟩) (eK H) ?_ ?_
 ·rintro i3 ⟨⟩ H
  refine gQ 8 ?_;refine cS H (fun h5 h5l H=>?_) (fun h5 H=>?_)
  ·refine gQ 10 ?_;refine bK H fun x7 z6 H=>(q1 (bE func153 (mH fu p4 (aT x2 i3) _ z6)) ?_)
   refine gQ 2 ?_;refine bC H (fun h8 H=>gE 4) fun h8 H=>?_;exact gE 6
  exact gE 0
 rintro⟨⟩ H
 refine gQ 2 ?_;refine q1 (bW [pI pt.aB5,pS pt.aB3,aR pt.aB4]) (bK H fun x10 z9 H=>(q1 (bE func258 (mG fu pt _ z9)) ?_))
 exact gE 2
def W1(fu:Nat)(p2:List aA)(p4:LB):Nat→Unit→Option (LR Unit Bool):=fun i1 _=>bd (l3 fu (aT p2 i1) p4) fun x5=>sw (!(x5)) (some (.ret false)) (some (.next ()))
def AP(fu:Nat)(p2:List aA)(p4:LB):Option Bool:=so (loopN (W1 fu p2 p4) (p2.length-0) 0 ()) fun _=>some true
theorem W2(fu:Nat)(p2:List aA)(p4:LB)(r:Bool)(H:AP fu p2 p4=some r):bR Tryz.prog 247 [aR p2,rS p4] (pB r):=by
 refine qJ func247 H (fun C hC H=>?_)
 refine gQ 9 ?_;refine gL 0 (aA.trs_len _) (fun hl2=>?_)
 refine bU (σ:=Unit) (fun i1 _=>⟨[(0,aR p2),(1,rS p4),(4,pB false),(5,pN i1)],⟨[],[]⟩⟩) (fun _=>⟨[(4,pB false)],⟨[],[]⟩⟩) (eK H) ?_ ?_
 ·rintro i1 ⟨⟩ H
  refine gQ 8 ?_;refine cS H (fun h3 h3l H=>?_) (fun h3 H=>?_)
  ·refine gQ 8 ?_;refine q1 (iI (aA.cs (aT p2 i1))) (q1 bF (bK H fun x5 z4 H=>(q1 (bE func248 (rR fu (aT p2 i1) p4 _ z4)) ?_)))
   refine gQ 2 ?_;refine bC H (fun h6 H=>gE 4) fun h6 H=>?_;exact gE 6
  exact gE 0
 rintro⟨⟩ H
 exact gE 4
def M1(fu:Nat)(pe:aL):Option Bool:=bd (kF fu pe (aL.mk 0 s_ s_ 0 (aA.mk 0 s_ []) [] [])) fun x2=>some x2
theorem agX(fu:Nat)(pe:aL)(r:Bool)(H:M1 fu pe=some r):bR Tryz.prog 257 [(aL.pv pe)] (pB r):=by
 refine qJ func257 H (fun C hC H=>?_)
 refine gQ 2 ?_;refine q1 (eX (jB pe)) ?_;refine gQ 4 ?_;refine q1 (bW [pI pe.aB5,pS pe.aCa,pS pe.aB3,pI pe.aCL,pI pe.aB7.aB5,pS pe.aB7.aB3,aR pe.aB7.aB4,iP pe.aB4,sE pe.aCo]) (q1 rW (bK H fun x2 z1 H=>(q1 (bE func263 (YW fu pe (aL.mk 0 s_ s_ 0 (aA.mk 0 s_ []) [] []) _ z1)) ?_)))
 exact gE 2
def gH(fu:Nat)(p2:LB)(pF:Int):Option Bool:=sw (decide ((p2.length:Int)≤pF)) (bd (GQ fu p2) fun x3=>sw x3 (bd (kQ fu p2) fun x6=>some x6) (some false)) (some false)
theorem gV(fu:Nat)(p2:LB)(pF:Int)(r:Bool)(H:gH fu p2 pF=some r):bR Tryz.prog 206 [rS p2,pI pF] (pB r):=by
 refine qJ func206 H (fun C hC H=>?_)
 refine gQ 11 ?_;refine dH 9 H (fun g1 H=>?_) fun g1 H=>?_
 ·refine qg g1 bF (bK H fun x3 z2 H=>(qg g1 (bE func228 (S7 fu p2 _ z2)) ?_))
  refine gQ 2 ?_;refine dH 13 H (fun g4 H=>?_) fun g4 H=>?_
  ·refine qg g4 bF (bK H fun x6 z5 H=>(qg g4 (bE func207 (mF fu p2 _ z5)) ?_))
   exact gE 3
  exact gE 5
 exact gE 9
def agU(fu:Nat)(pe:aL)(p4 x2:LB):Nat→Unit→Option (LR Unit Bool):=fun i3 _=>bd (lA fu p4 (aT x2 i3)) fun x7=>sw (!(x7)) (some (.ret false)) (some (.next ()))
def BW(fu:Nat)(pe:aL)(p4:LB):Option Bool:=bd (wN fu pe) fun x2=>so (loopN (agU fu pe p4 x2) (x2.length-0) 0 ()) fun _=>bd (BN fu pe) fun x10=>some x10
theorem IW(fu:Nat)(pe:aL)(p4:LB)(r:Bool)(H:BW fu pe p4=some r):bR Tryz.prog 252 [(aL.pv pe),rS p4] (pB r):=by
 refine qJ func252 H (fun C hC H=>?_)
 refine gQ 2 ?_;refine q1 (eX (jB pe)) ?_;refine gQ 4 ?_;refine q1 (bW [pI pe.aB5,pS pe.aCa,pS pe.aB3,pI pe.aCL,pI pe.aB7.aB5,pS pe.aB7.aB3,aR pe.aB7.aB4,iP pe.aB4,sE pe.aCo]) (bK H fun x2 z1 H=>(q1 (bE func261 (OY fu pe _ z1)) ?_))
 refine gQ 7 ?_;refine gL 5 (bV _) (fun hl4=>?_)
 refine bU (σ:=Unit) (fun i3 _=>⟨[(1,rS p4),(2,.ptr 0 0),(4,pB false),(5,rS x2),(6,pN i3)],⟨[some ⟨211,jB pe⟩],[]⟩⟩) (fun _=>⟨[(2,.ptr 0 0),(4,pB false)],⟨[some ⟨211,jB pe⟩],[]⟩⟩) (eK H) ?_ ?_
 ·rintro i3 ⟨⟩ H
  refine gQ 8 ?_;refine cS H (fun h5 h5l H=>?_) (fun h5 H=>?_)
  ·refine gQ 10 ?_;refine bK H fun x7 z6 H=>(q1 (bE func153 (mH fu p4 (aT x2 i3) _ z6)) ?_)
   refine gQ 2 ?_;refine bC H (fun h8 H=>gE 4) fun h8 H=>?_;exact gE 6
  exact gE 0
 rintro⟨⟩ H
 refine gQ 2 ?_;refine q1 (bW [pI pe.aB5,pS pe.aCa,pS pe.aB3,pI pe.aCL,pI pe.aB7.aB5,pS pe.aB7.aB3,aR pe.aB7.aB4,iP pe.aB4,sE pe.aCo]) (bK H fun x10 z9 H=>(q1 (bE func262 (TX fu pe _ z9)) ?_))
 exact gE 2
def R4(fu:Nat)(ps:aF):Option Bool:=bd (c6 fu ps.aB3) fun x2=>sw (!(x2)) (some false) (sw (decide ((ps.aCn.length:Int)>4)) (some false) (bd (AP fu ps.aCn ([j9]:LB)) fun x6=>sw (!(x6)) (some false) (bd (l3 fu ps.aCl ([j9]:LB)) fun x9=>sw (!(x9)) (some false) (sw (!(ps.aCC)) (sw (decide ((ps.aCg.length:Int)=0)) (bd (M1 fu ps.aCd) fun x14=>some x14) (some false)) (bd (gH fu ps.aCg 5) fun x16=>sw x16 (sw (decide ((ps.aCg.length:Int)=aX ((ps.aCn.length:Int)+1))) (bd (BW fu ps.aCd ps.aCg) fun x20=>some x20) (some false)) (some false))))))
theorem ajH(fu:Nat)(ps:aF)(r:Bool)(H:R4 fu ps=some r):bR Tryz.prog 246 [(aF.pv ps)] (pB r):=by
 refine qJ func246 H (fun C hC H=>?_)
 refine gQ 2 ?_;refine q1 (eX (aiA ps)) ?_;refine gQ 7 ?_;refine bK H fun x2 z1 H=>(q1 (bE func205 (eC fu ps.aB3 _ z1)) ?_)
 refine gQ 2 ?_;refine dH 7 H (fun g3 H=>gE 25) fun g3 H=>?_;refine gQ 6 ?_;refine dH 13 H (fun g4 H=>gE 19) fun g4 H=>?_;refine gQ 2 ?_;refine qg g4 (iF ([j9]:LB)) (bK H fun x6 z5 H=>(qg g4 (bE func247 (W2 fu ps.aCn ([j9]:LB) _ z5)) ?_))
 refine gQ 3 ?_;refine dH 20 H (fun g7 H=>gE 12) fun g7 H=>?_;refine qg g7 bZ (qg g7 (bW [pI ps.aCl.aB5,pS ps.aCl.aB3,aR ps.aCl.aB4]) (qg g7 (iF ([j9]:LB)) (bK H fun x9 z8 H=>(qg g7 (bE func248 (rR fu ps.aCl ([j9]:LB) _ z8)) ?_))))
 refine gQ 3 ?_;refine bC H (fun h10 H=>gE 4) fun h10 H=>?_;refine gQ 8 ?_;refine bC H (fun h11 H=>?_) (fun h11 H=>?_)
 ·refine gQ 7 ?_;refine dH 34 H (fun g12 H=>?_) fun g12 H=>?_
  ·refine qg g12 bZ (qg g12 (bW [pI ps.aCd.aB5,pS ps.aCd.aCa,pS ps.aCd.aB3,pI ps.aCd.aCL,pI ps.aCd.aB7.aB5,pS ps.aCd.aB7.aB3,aR ps.aCd.aB7.aB4,iP ps.aCd.aB4,sE ps.aCd.aCo]) (bK H fun x14 z13 H=>(qg g12 (bE func257 (agX fu ps.aCd _ z13)) ?_)))
   exact gE 3
  exact gE 6
 refine gQ 5 ?_;refine bK H fun x16 z15 H=>(q1 (bE func206 (gV fu ps.aCg 5 _ z15)) (q1 bF ?_))
 refine dH 42 H (fun g17 H=>?_) fun g17 H=>?_
 ·refine gQ 6 ?_;refine qg g17 rAw ?_;refine gQ 3 ?_;refine dH 52 H (fun g18 H=>?_) fun g18 H=>?_
  ·refine qg g18 bZ (qg g18 (bW [pI ps.aCd.aB5,pS ps.aCd.aCa,pS ps.aCd.aB3,pI ps.aCd.aCL,pI ps.aCd.aB7.aB5,pS ps.aCd.aB7.aB3,aR ps.aCd.aB7.aB4,iP ps.aCd.aB4,sE ps.aCd.aCo]) ?_)
   refine gQ 2 ?_;refine bK H fun x20 z19 H=>(qg g18 (bE func252 (IW fu ps.aCd ps.aCg _ z19)) ?_)
   exact gE 3
  exact gE 8
 exact gE 18
def RI(fu:Nat)(pt:aU):Nat→((LB))→Option (LR ((LB)) Bool):=fun i1 v3=>lt (aT pt.aCp i1) fun y6=>bd (R4 fu y6) fun x9=>sw (!(x9)) (some (.ret false)) (gd ((v3).length+(([y6.aB3]:LB)).length≤68719476736) (some (.next (v3++([y6.aB3]:LB)))))
def tK(fu:Nat)(pt:aU):Option Bool:=so (loopN (RI fu pt) (pt.aCp.length-0) 0 ([])) fun v3=>sw (pt.aCA) (sw (pt.aCj) (some false) (sw (decide ((pt.aCp.length:Int)>0)) (some false) (sw (decide ((pt.aCc.length:Int)>0)) (some false) (bd (c6 fu pt.aB3) fun x17=>sw x17 (bd (gH fu pt.aCc 4) fun x20=>sw x20 (bd (gH fu v3 6) fun x23=>some x23) (some false)) (some false))))) (bd (c6 fu pt.aB3) fun x25=>sw x25 (bd (gH fu pt.aCc 4) fun x28=>sw x28 (bd (gH fu v3 6) fun x31=>some x31) (some false)) (some false))
theorem E4(fu:Nat)(pt:aU)(r:Bool)(H:tK fu pt=some r):bR Tryz.prog 229 [(aU.pv pt)] (pB r):=by
 refine qJ func229 H (fun C hC H=>?_)
 refine gQ 2 ?_;refine q1 (eX (sU pt)) ?_;refine gQ 4 ?_;refine q1 (qE ([]:LB)) ?_;refine gQ 7 ?_;refine cQ.fact (cI 0 4 rfl rfl rfl (aF.trs_len _)) (fun hl4=>?_)
 refine bU (σ:=(LB)) (fun i1 v3=>⟨[(1,.ptr 0 0),(2,pB false),(3,aS v3 0),(4,pN i1)],⟨[some ⟨156,sU pt⟩],[⟨9,1,aY (v3),false⟩]⟩⟩) (fun v3=>⟨[(1,.ptr 0 0),(2,pB false),(3,aS v3 0)],⟨[some ⟨156,sU pt⟩],[⟨9,1,aY (v3),false⟩]⟩⟩) (eK H) ?_ ?_
 ·rintro i1 v3 H
  refine gQ 9 ?_;refine cS H (fun h5 h5l H=>?_) (fun h5 H=>?_)
  ·refine gQ 9 ?_;refine fZ H fun y6 h7 H=>(q1 (yI h7 h5l) (q1 (iI (aF.cs y6)) (bK H fun x9 z8 H=>(q1 (bE func246 (ajH fu y6 _ z8)) ?_))))
   refine gQ 2 ?_;refine bC H (fun h10 H=>gE 4) fun h10 H=>?_;refine gQ 6 ?_;refine q1 (yI h7 h5l) ?_;refine gQ 2 ?_;refine q1 (iF ([y6.aB3]:LB)) (cC H fun z11 H=>(q1 (lG z11) ?_))
   exact gE 7
  exact gE 0
 rintro v3 H
 refine gQ 6 ?_;refine dH 31 H (fun g12 H=>?_) fun g12 H=>?_
 ·refine gQ 3 ?_;refine dH 34 H (fun g13 H=>gE 18) fun g13 H=>?_;refine gQ 6 ?_;refine dH 40 H (fun g14 H=>gE 12) fun g14 H=>?_;refine gQ 7 ?_;refine bC H (fun h15 H=>gE 4) fun h15 H=>?_;refine gQ 5 ?_;refine bK H fun x17 z16 H=>(q1 (bE func205 (eC fu pt.aB3 _ z16)) (q1 bF ?_))
  refine dH 50 H (fun g18 H=>?_) fun g18 H=>?_
  ·refine gQ 2 ?_;refine bK H fun x20 z19 H=>(qg g18 (bE func206 (gV fu pt.aCc 4 _ z19)) ?_)
   refine gQ 2 ?_;refine dH 55 H (fun g21 H=>?_) fun g21 H=>?_
   ·refine qg g21 bF (bK H fun x23 z22 H=>(qg g21 (bE func206 (gV fu v3 6 _ z22)) ?_))
    exact gE 3
   exact gE 5
  exact gE 10
 refine gQ 22 ?_;refine bK H fun x25 z24 H=>(q1 (bE func205 (eC fu pt.aB3 _ z24)) (q1 bF ?_))
 refine dH 50 H (fun g26 H=>?_) fun g26 H=>?_
 ·refine gQ 2 ?_;refine bK H fun x28 z27 H=>(qg g26 (bE func206 (gV fu pt.aCc 4 _ z27)) ?_)
  refine gQ 2 ?_;refine dH 55 H (fun g29 H=>?_) fun g29 H=>?_
  ·refine qg g29 bF (bK H fun x31 z30 H=>(qg g29 (bE func206 (gV fu v3 6 _ z30)) ?_))
   exact gE 3
  exact gE 5
 exact gE 10
def zF(fu:Nat)(pd:aN):Nat→((LB))→Option (LR ((LB)) Bool):=fun i1 v3=>sw (decide ((((((aT pd.aB8 i1).aCm).length:Nat):Int):Int)>4)) (some (.ret false)) (bd (AP fu ((aT pd.aB8 i1).aCm) pd.aCg) fun x8=>sw (!(x8)) (some (.ret false)) (gd ((v3).length+(([((aT pd.aB8 i1).aB3)]:LB)).length≤68719476736) (some (.next (v3++([((aT pd.aB8 i1).aB3)]:LB))))))
def j7(fu:Nat)(pd:aN):Option Bool:=so (loopN (zF fu pd) (pd.aB8.length-0) 0 ([])) fun v3=>bd (c6 fu pd.aB3) fun x12=>sw x12 (bd (gH fu pd.aCg 3) fun x15=>sw x15 (sw (decide ((v3.length:Int)>0)) (bd (gH fu v3 5) fun x19=>some x19) (some false)) (some false)) (some false)
theorem zG(fu:Nat)(pd:aN)(r:Bool)(H:j7 fu pd=some r):bR Tryz.prog 230 [(aN.pv pd)] (pB r):=by
 refine qJ func230 H (fun C hC H=>?_)
 refine gQ 2 ?_;refine q1 (eX (jF pd)) ?_;refine gQ 4 ?_;refine q1 (qE ([]:LB)) ?_;refine gQ 7 ?_;refine cQ.fact (cI 0 2 rfl rfl rfl (aD.trs_len _)) (fun hl4=>?_)
 refine bU (σ:=(LB)) (fun i1 v3=>⟨[(1,.ptr 0 0),(2,pB false),(3,aS v3 0),(4,pN i1)],⟨[some ⟨39,jF pd⟩],[⟨9,1,aY (v3),false⟩]⟩⟩) (fun v3=>⟨[(1,.ptr 0 0),(2,pB false),(3,aS v3 0)],⟨[some ⟨39,jF pd⟩],[⟨9,1,aY (v3),false⟩]⟩⟩) (eK H) ?_ ?_
 ·rintro i1 v3 H
  refine gQ 9 ?_;refine cS H (fun h5 h5l H=>?_) (fun h5 H=>?_)
  ·refine gQ 5 ?_
   rcases oQ (decide ((((((aT pd.aB8 i1).aCm).length:Nat):Int):Int)>4)) with g6|g6
   ·have H:=sZ H g6
    refine dW (dI [1] bZ (dD [13] eE (dI [4] bF (dI [14,15] qF (dI [16] wZ (dI [17] vM (dI [18] XY (dI [19] rGt (dI [20] bF ?_)))))))))
    iterate 10 refine NH g6 ?_
    refine dI [21] (DV g6) (dN ?_)
    exact gE 5
   have H:=sY H g6
   refine bK H fun x8 z7 H=>(dW (dI [1] bZ (dD [13] eE (dI [4] bF (dI [14,15] qF (dI [16] wZ (dI [17] vM (dI [18] XY (dI [19] rGt (dI [20] bF (dI (hg:=bD g6) [1] bZ (dD (hg:=bD g6) [22] eE (dI (hg:=bD g6) [4] bF ?_)))))))))))))
   refine dI (hg:=bD g6) [23,24] qF (dI (hg:=bD g6) [25] wZ (dI (hg:=bD g6) [26] vM (dI (hg:=bD g6) [1] bZ (dD (hg:=bD g6) [28] eE (dI (hg:=bD g6) [27,29] (bE func247 (W2 fu ((aT pd.aB8 i1).aCm) pd.aCg _ z7)) (dI (hg:=bD g6) [30] JS (dI [21,31] (F5 g6) (dN ?_))))))))
   refine bC H (fun h9 H=>gE 4) fun h9 H=>?_;refine gQ 9 ?_;refine q1 (iF ([((aT pd.aB8 i1).aB3)]:LB)) (cC H fun z10 H=>(q1 (lG z10) ?_))
   exact gE 7
  exact gE 0
 rintro v3 H
 refine gQ 4 ?_;refine bK H fun x12 z11 H=>(q1 (bE func205 (eC fu pd.aB3 _ z11)) (q1 bF ?_))
 refine dH 45 H (fun g13 H=>?_) fun g13 H=>?_
 ·refine gQ 2 ?_;refine bK H fun x15 z14 H=>(qg g13 (bE func206 (gV fu pd.aCg 3 _ z14)) ?_)
  refine gQ 2 ?_;refine dH 50 H (fun g16 H=>?_) fun g16 H=>?_
  ·refine gQ 5 ?_;refine dH 55 H (fun g17 H=>?_) fun g17 H=>?_
   ·refine qg g17 bF (bK H fun x19 z18 H=>(qg g17 (bE func206 (gV fu v3 5 _ z18)) ?_))
    exact gE 3
   exact gE 5
  exact gE 10
 exact gE 15
def yZ(fu:Nat)(pb:aG):Option Bool:=bd (c6 fu pb.aCa) fun x2=>sw x2 (bd (iH fu pb.aB7) fun x5=>some x5) (some false)
theorem RH(fu:Nat)(pb:aG)(r:Bool)(H:yZ fu pb=some r):bR Tryz.prog 259 [(aG.pv pb)] (pB r):=by
 refine qJ func259 H (fun C hC H=>?_)
 refine gQ 2 ?_;refine q1 (eX (dL pb)) ?_;refine gQ 6 ?_;refine bK H fun x2 z1 H=>(q1 (bE func205 (eC fu pb.aCa _ z1)) (q1 bF ?_))
 refine dH 6 H (fun g3 H=>?_) fun g3 H=>?_
 ·refine qg g3 bZ (qg g3 (bW [pI pb.aB7.aB5,pS pb.aB7.aB3,aR pb.aB7.aB4]) (bK H fun x5 z4 H=>(qg g3 (bE func258 (mG fu pb.aB7 _ z4)) ?_)))
  exact gE 3
 exact gE 6
def O6(fu:Nat)(p2:List aG)(p4:LB):Nat→Unit→Option (LR Unit Bool):=fun i1 _=>bd (yZ fu (aT p2 i1)) fun x5=>sw (!(x5)) (some (.ret false)) (bd (l3 fu ((aT p2 i1).aB7) p4) fun x8=>sw (!(x8)) (some (.ret false)) (bd (dM fu ((aT p2 i1).aB7)) fun x11=>sw x11 (some (.ret false)) (some (.next ()))))
def uG(fu:Nat)(p2:List aG)(p4:LB):Option Bool:=so (loopN (O6 fu p2 p4) (p2.length-0) 0 ()) fun _=>some (decide ((p2.length:Int)≤4))
theorem O7(fu:Nat)(p2:List aG)(p4:LB)(r:Bool)(H:uG fu p2 p4=some r):bR Tryz.prog 249 [bY p2,rS p4] (pB r):=by
 refine qJ func249 H (fun C hC H=>?_)
 refine gQ 9 ?_;refine gL 0 (aG.trs_len _) (fun hl2=>?_)
 refine bU (σ:=Unit) (fun i1 _=>⟨[(0,bY p2),(1,rS p4),(4,pB false),(5,pN i1)],⟨[],[]⟩⟩) (fun _=>⟨[(0,bY p2),(4,pB false)],⟨[],[]⟩⟩) (eK H) ?_ ?_
 ·rintro i1 ⟨⟩ H
  refine gQ 8 ?_;refine cS H (fun h3 h3l H=>?_) (fun h3 H=>?_)
  ·refine gQ 8 ?_;refine q1 (iI (aG.cs (aT p2 i1))) (bK H fun x5 z4 H=>(q1 (bE func259 (RH fu (aT p2 i1) _ z4)) ?_))
   refine gQ 2 ?_;refine dH 18 H (fun g6 H=>gE 23) fun g6 H=>?_;refine gQ 4 ?_;refine qg g6 (iI (aA.cs ((aT p2 i1).aB7))) (qg g6 bF (bK H fun x8 z7 H=>(qg g6 (bE func248 (rR fu ((aT p2 i1).aB7) p4 _ z7)) ?_)))
   refine gQ 3 ?_;refine dH 28 H (fun g9 H=>gE 13) fun g9 H=>?_;refine gQ 4 ?_;refine qg g9 (iI (aA.cs ((aT p2 i1).aB7))) (bK H fun x11 z10 H=>(qg g9 (bE func86 (vB fu ((aT p2 i1).aB7) _ z10)) ?_))
   refine gQ 2 ?_;refine bC H (fun h12 H=>gE 4) fun h12 H=>?_;exact gE 6
  exact gE 0
 rintro⟨⟩ H
 exact gE 7
def zJ(fu:Nat)(p0:aI)(x2 x5 x8 x11 x15:Bool):Nat→Unit→Option (LR Unit Bool):=fun i17 _=>bd (IQ fu (aT p0.aCg i17) p0.aCh) fun x21=>sw (!(x21)) (some (.ret false)) (some (.next ()))
def zI(fu:Nat)(p0:aI)(x2 x5 x8 x11 x15:Bool):Option (Bool⊕Unit):=sw (p0.aCx) (bd (l3 fu p0.aCj p0.aCg) fun x25=>sw (!(x25)) (some (.inl false)) (some (.inr ()))) (bd (n9 fu p0.aCj) fun x28=>sw (!(x28)) (some (.inl false)) (some (.inr ())))
def zK(fu:Nat)(p0:aI)(x2 x5 x8 x11 x15:Bool):Nat→((LB))→Option (LR ((LB)) Bool):=fun i30 v32=>lt (aT p0.aCu i30) fun y35=>sw (decide ((y35.aCg.length:Int)=0)) (some (.ret false)) (bd (gH fu y35.aCg 5) fun x39=>sw (!(x39)) (some (.ret false)) (bd (BW fu y35.aCd y35.aCg) fun x42=>sw (!(x42)) (some (.ret false)) (gd ((v32).length+(([y35.aB3]:LB)).length≤68719476736) (some (.next (v32++([y35.aB3]:LB)))))))
def j8(fu:Nat)(p0:aI):Option Bool:=bd (c6 fu p0.aCa) fun x2=>sw (!(x2)) (some false) (bd (gH fu p0.aCg 3) fun x5=>sw (!(x5)) (some false) (bd (l3 fu p0.aCh p0.aCg) fun x8=>sw (!(x8)) (some false) (bd (dM fu p0.aCh) fun x11=>sw x11 (some false) (sw (decide (p0.aCh.aB5=4)) (some false) (bd (uG fu p0.aCk p0.aCg) fun x15=>sw (!(x15)) (some false) (so (loopN (zJ fu p0 x2 x5 x8 x11 x15) (p0.aCg.length-0) 0 ()) fun _=>so (zI fu p0 x2 x5 x8 x11 x15) fun _=>so (loopN (zK fu p0 x2 x5 x8 x11 x15) (p0.aCu.length-0) 0 ([])) fun v32=>bd (gH fu v32 6) fun x46=>some x46))))))
theorem zL(fu:Nat)(p0:aI)(r:Bool)(H:j8 fu p0=some r):bR Tryz.prog 231 [(aI.pv p0)] (pB r):=by
 refine qJ func231 H (fun C hC H=>?_)
 refine gQ 2 ?_;refine q1 (eX (c8 p0)) ?_;refine gQ 7 ?_;refine bK H fun x2 z1 H=>(q1 (bE func205 (eC fu p0.aCa _ z1)) ?_)
 refine gQ 2 ?_;refine dH 11 H (fun g3 H=>gE 38) fun g3 H=>?_;refine gQ 2 ?_;refine bK H fun x5 z4 H=>(qg g3 (bE func206 (gV fu p0.aCg 3 _ z4)) ?_)
 refine gQ 3 ?_;refine dH 17 H (fun g6 H=>gE 32) fun g6 H=>?_;refine qg g6 bZ (qg g6 (bW [pI p0.aCh.aB5,pS p0.aCh.aB3,aR p0.aCh.aB4]) ?_)
 refine gQ 2 ?_;refine bK H fun x8 z7 H=>(qg g6 (bE func248 (rR fu p0.aCh p0.aCg _ z7)) ?_)
 refine gQ 3 ?_;refine dH 25 H (fun g9 H=>gE 24) fun g9 H=>?_;refine qg g9 bZ (qg g9 (bW [pI p0.aCh.aB5,pS p0.aCh.aB3,aR p0.aCh.aB4]) (bK H fun x11 z10 H=>(qg g9 (bE func86 (vB fu p0.aCh _ z10)) ?_)))
 refine gQ 2 ?_;refine dH 30 H (fun g12 H=>gE 19) fun g12 H=>?_;refine gQ 6 ?_;refine dH 36 H (fun g13 H=>gE 13) fun g13 H=>?_;refine gQ 4 ?_;refine bK H fun x15 z14 H=>(qg g13 (bE func249 (O7 fu p0.aCk p0.aCg _ z14)) ?_)
 refine gQ 3 ?_;refine bC H (fun h16 H=>gE 4) fun h16 H=>?_;refine gQ 6 ?_;refine gL 13 (bV _) (fun hl18=>?_)
 refine bU (σ:=Unit) (fun i17 _=>⟨[(1,.ptr 0 0),(2,pB false),(3,pN i17)],⟨[some ⟨163,c8 p0⟩],[]⟩⟩) (fun _=>⟨[(1,.ptr 0 0),(2,pB false)],⟨[some ⟨163,c8 p0⟩],[]⟩⟩) (eK H) ?_ ?_
 ·rintro i17 ⟨⟩ H
  refine gQ 9 ?_;refine cS H (fun h19 h19l H=>?_) (fun h19 H=>?_)
  ·refine gQ 4 ?_;refine bK H fun x21 z20 H=>(dW (dI [1] bZ (dD [51] eE (dI [3] bF (dI [52,53] qF (dI [54] vM (dI [1] bZ (dD [56] (bW [pI p0.aCh.aB5,pS p0.aCh.aB3,aR p0.aCh.aB4]) (dI [55,57] (bE func250 (acN fu (aT p0.aCg i17) p0.aCh _ z20)) (dI [58] JS (dN ?_)))))))))))
   refine bC H (fun h22 H=>gE 4) fun h22 H=>?_;exact gE 6
  exact gE 0
 rintro⟨⟩ H
 refine qS ?_;refine nV (σ:=Unit) (fun _=>⟨[(1,.ptr 0 0),(2,pB false)],⟨[some ⟨163,c8 p0⟩],[]⟩⟩) (eK H) (fun H=>?_) ?_
 ·refine gQ 5 ?_;refine dH 62 H (fun g23 H=>?_) fun g23 H=>?_
  ·refine qg g23 bZ (qg g23 (bW [pI p0.aCj.aB5,pS p0.aCj.aB3,aR p0.aCj.aB4]) ?_)
   refine gQ 2 ?_;refine bK H fun x25 z24 H=>(qg g23 (bE func248 (rR fu p0.aCj p0.aCg _ z24)) ?_)
   refine gQ 3 ?_;refine dH 70 H (fun g26 H=>gE 16) fun g26 H=>?_;refine gQ 4 ?_
   iterate 4 refine qk (congrArg (fun b=> !b) g23) ?_
   refine qg g26 (F5 (congrArg (fun b=> !b) g23)) ?_;exact gE 4
  refine gQ 12 ?_;refine qg (congrArg (fun b=> !b) g23) bZ (qg (congrArg (fun b=> !b) g23) (bW [pI p0.aCj.aB5,pS p0.aCj.aB3,aR p0.aCj.aB4]) (bK H fun x28 z27 H=>(qg (congrArg (fun b=> !b) g23) (bE func251 (xY fu p0.aCj _ z27)) (qg (congrArg (fun b=> !b) g23) JS (qg rfl (DV (congrArg (fun b=> !b) g23)) ?_)))))
  refine gQ 2 ?_;refine bC H (fun h29 H=>gE 4) fun h29 H=>?_;exact gE 1
 rintro⟨⟩ H
 refine gQ 2 ?_;refine q1 (qE ([]:LB)) ?_;refine gQ 7 ?_;refine cQ.fact (cI 0 11 rfl rfl rfl (aQ.trs_len _)) (fun hl33=>?_)
 refine bU (σ:=(LB)) (fun i30 v32=>⟨[(1,.ptr 0 0),(2,pB false),(4,aS v32 0),(5,pN i30)],⟨[some ⟨163,c8 p0⟩],[⟨9,1,aY (v32),false⟩]⟩⟩) (fun v32=>⟨[(2,pB false),(4,aS v32 0)],⟨[some ⟨163,c8 p0⟩],[⟨9,1,aY (v32),false⟩]⟩⟩) (eK H) ?_ ?_
 ·rintro i30 v32 H
  refine gQ 9 ?_;refine cS H (fun h34 h34l H=>?_) (fun h34 H=>?_)
  ·refine gQ 8 ?_;refine fZ H fun y35 h36 H=>(q1 (yI h36 h34l) (q1 (iI (aQ.cs y35)) ?_))
   refine gQ 11 ?_;refine dH 98 H (fun g37 H=>gE 19) fun g37 H=>?_;refine gQ 2 ?_;refine bK H fun x39 z38 H=>(qg g37 (bE func206 (gV fu y35.aCg 5 _ z38)) ?_)
   refine gQ 3 ?_;refine dH 104 H (fun g40 H=>gE 13) fun g40 H=>?_;refine qg g40 bZ (qg g40 (bW [pI y35.aCd.aB5,pS y35.aCd.aCa,pS y35.aCd.aB3,pI y35.aCd.aCL,pI y35.aCd.aB7.aB5,pS y35.aCd.aB7.aB3,aR y35.aCd.aB7.aB4,iP y35.aCd.aB4,sE y35.aCd.aCo]) ?_)
   refine gQ 2 ?_;refine bK H fun x42 z41 H=>(qg g40 (bE func252 (IW fu y35.aCd y35.aCg _ z41)) ?_)
   refine gQ 3 ?_;refine bC H (fun h43 H=>gE 4) fun h43 H=>?_;refine gQ 5 ?_;refine q1 (iF ([y35.aB3]:LB)) (cC H fun z44 H=>(q1 (lG z44) ?_))
   exact gE 7
  exact gE 0
 rintro v32 H
 refine gQ 3 ?_;refine bK H fun x46 z45 H=>(q1 (bE func206 (gV fu v32 6 _ z45)) ?_)
 exact gE 2
def KV(fu:Nat)(pf:aP):Nat→((LB))→Option (LR ((LB)) Bool):=fun i1 v3=>bd (l3 fu ((aT pf.aCn i1).aB7) pf.aCg) fun x7=>sw (!(x7)) (some (.ret false)) (gd ((v3).length+(([((aT pf.aCn i1).aB3)]:LB)).length≤68719476736) (some (.next (v3++([((aT pf.aCn i1).aB3)]:LB)))))
def n8(fu:Nat)(pf:aP):Option Bool:=so (loopN (KV fu pf) (pf.aCn.length-0) 0 ([])) fun v3=>bd (c6 fu pf.aB3) fun x11=>sw x11 (bd (gH fu pf.aCg 3) fun x14=>sw x14 (bd (uG fu pf.aCk pf.aCg) fun x17=>sw x17 (bd (gH fu v3 5) fun x20=>sw x20 (bd (l3 fu pf.aCl pf.aCg) fun x23=>sw x23 (bd (BW fu pf.aCd v3) fun x26=>some x26) (some false)) (some false)) (some false)) (some false)) (some false)
theorem zH(fu:Nat)(pf:aP)(r:Bool)(H:n8 fu pf=some r):bR Tryz.prog 232 [(aP.pv pf)] (pB r):=by
 refine qJ func232 H (fun C hC H=>?_)
 refine gQ 2 ?_;refine q1 (eX (AI pf)) ?_;refine gQ 4 ?_;refine q1 (qE ([]:LB)) ?_;refine gQ 7 ?_;refine cQ.fact (cI 0 3 rfl rfl rfl (aV.trs_len _)) (fun hl4=>?_)
 refine bU (σ:=(LB)) (fun i1 v3=>⟨[(1,.ptr 0 0),(2,pB false),(3,aS v3 0),(4,pN i1)],⟨[some ⟨213,AI pf⟩],[⟨9,1,aY (v3),false⟩]⟩⟩) (fun v3=>⟨[(1,.ptr 0 0),(2,pB false),(3,aS v3 0)],⟨[some ⟨213,AI pf⟩],[⟨9,1,aY (v3),false⟩]⟩⟩) (eK H) ?_ ?_
 ·rintro i1 v3 H
  refine gQ 9 ?_;refine cS H (fun h5 h5l H=>?_) (fun h5 H=>?_)
  ·refine gQ 5 ?_;refine bK H fun x7 z6 H=>(dW (dI [1] bZ (dD [13] eE (dI [4] bF (dI [14,15] qF (dI [16] wZ (dI [17] (iI (aA.cs ((aT pf.aCn i1).aB7))) (dI [1] bZ (dD [19] eE (dI [18,20] (bE func248 (rR fu ((aT pf.aCn i1).aB7) pf.aCg _ z6)) (dI [21] JS (dN ?_))))))))))))
   refine bC H (fun h8 H=>gE 4) fun h8 H=>?_;refine gQ 9 ?_;refine q1 (iF ([((aT pf.aCn i1).aB3)]:LB)) (cC H fun z9 H=>(q1 (lG z9) ?_))
   exact gE 7
  exact gE 0
 rintro v3 H
 refine gQ 4 ?_;refine bK H fun x11 z10 H=>(q1 (bE func205 (eC fu pf.aB3 _ z10)) (q1 bF ?_))
 refine dH 35 H (fun g12 H=>?_) fun g12 H=>?_
 ·refine gQ 2 ?_;refine bK H fun x14 z13 H=>(qg g12 (bE func206 (gV fu pf.aCg 3 _ z13)) ?_)
  refine gQ 2 ?_;refine dH 40 H (fun g15 H=>?_) fun g15 H=>?_
  ·refine gQ 4 ?_;refine bK H fun x17 z16 H=>(qg g15 (bE func249 (O7 fu pf.aCk pf.aCg _ z16)) ?_)
   refine gQ 2 ?_;refine dH 47 H (fun g18 H=>?_) fun g18 H=>?_
   ·refine qg g18 bF (bK H fun x20 z19 H=>(qg g18 (bE func206 (gV fu v3 5 _ z19)) ?_))
    refine gQ 2 ?_;refine dH 51 H (fun g21 H=>?_) fun g21 H=>?_
    ·refine qg g21 bZ (qg g21 (bW [pI pf.aCl.aB5,pS pf.aCl.aB3,aR pf.aCl.aB4]) ?_)
     refine gQ 2 ?_;refine bK H fun x23 z22 H=>(qg g21 (bE func248 (rR fu pf.aCl pf.aCg _ z22)) ?_)
     refine gQ 2 ?_;refine dH 58 H (fun g24 H=>?_) fun g24 H=>?_
     ·refine qg g24 bZ (qg g24 (bW [pI pf.aCd.aB5,pS pf.aCd.aCa,pS pf.aCd.aB3,pI pf.aCd.aCL,pI pf.aCd.aB7.aB5,pS pf.aCd.aB7.aB3,aR pf.aCd.aB7.aB4,iP pf.aCd.aB4,sE pf.aCd.aCo]) (qg g24 bF (bK H fun x26 z25 H=>(qg g24 (bE func252 (IW fu pf.aCd v3 _ z25)) ?_))))
      exact gE 3
     exact gE 7
    exact gE 14
   exact gE 18
  exact gE 25
 exact gE 30
end
end Go.Proofs.YtfcoaagbccmahaaGreat.W
