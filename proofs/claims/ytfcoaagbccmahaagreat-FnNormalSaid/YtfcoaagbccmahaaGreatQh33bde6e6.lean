/- The reference's parser, pG 4. No conditions. -/
import Derived.Test.YtfcoaagbccmahaaGreatQhc7765969
set_option linter.unusedSimpArgs false
set_option linter.unusedVariables false
namespace Go.Proofs.YtfcoaagbccmahaaGreat.W
set_option maxRecDepth 100000
set_option maxHeartbeats 40000000
noncomputable section
open Tryz Go.RowKit Go.Proofs
attribute [local irreducible] lt
abbrev t9:=aL→Int→Option Int
def F8(m:t9):Prop:= ∀(pe:aL) (p8:Int) (r:Int),m pe p8=some r→bQ Tryz.prog 268 [(aL.pv pe),pI p8] (pI r:PV)
def agJ(fu:Nat)(p6:t9)(pe:aL)(p8:Int):Nat→Int→Option (LR Int Int):=fun i1 v2=>sw (decide (v2≥0)) (lt (aR pe.aCa i1) fun y6=>bd (p6 y6 v2) fun x9=>some (.next x9)) (some (.brk v2))
def agK(fu:Nat)(p6:t9)(pe:aL)(p8 v2:Int):Nat→Int→Option (LR Int Int):=fun i10 v11=>sw (decide (v11≥0)) (lt (aR pe.aCu i10) fun y15=>bd (p6 y15.aCj v11) fun x18=>some (.next x18)) (some (.brk v11))
def MV(fu:Nat)(p6:t9)(pe:aL)(p8:Int):Option Int:=so (loopN (agJ fu p6 pe p8) (pe.aCa.length-0) 0 (aX (p8-1))) fun v2=>so (loopN (agK fu p6 pe p8 v2) (pe.aCu.length-0) 0 v2) fun v11=>some v11
theorem Y8(fu:Nat)(p6:t9)(pC:F8 p6):F8 (MV fu p6):=by
 intro pe p8 r H
 refine qJ func268 H (fun C hC H=>?_)
 refine gQ 2 ?_;refine q1 (fD (jE pe)) ?_;refine gQ 13 ?_;refine cV.fact (cI 0 7 rfl rfl rfl (aL.trs_len _)) (fun hl3=>?_)
 refine bS (σ:=Int) (fun i1 v2=>⟨[(1,pI v2),(2,.ptr 0 0),(4,pI 0),(5,pN i1)],⟨[some ⟨211,jE pe⟩],[]⟩⟩) (fun v2=>⟨[(1,pI v2),(2,.ptr 0 0),(4,pI 0)],⟨[some ⟨211,jE pe⟩],[]⟩⟩) (eM H) ?_ ?_
 ·rintro i1 v2 H
  refine gQ 9 ?_;refine AL.splitB 14 rfl (fun g4=>?_) (fun g4=>?_)
  ·have g4l:=wO g4
   have H:=lnT g4l H
   have g4n:=AQ g4
   refine gQ 4 ?_;refine bC H (fun h5 H=>?_) (fun h5 H=>?_)
   ·refine gQ 7 ?_;refine fV H fun y6 h7 H=>(q1 (yK h7 g4n) (q1 (iK (aL.cs y6)) (q1 bF (bK H fun x9 z8 H=>(q1 (bE func268 (pC y6 v2 _ z8)) ?_)))))
    exact gE 7
   exact gE 0
  have H:=lnE (wN g4) H
  exact gE 5
 rintro v2 H
 refine gQ 5 ?_;refine cV.fact (cI 0 8 rfl rfl rfl (bU.trs_len _)) (fun hl12=>?_)
 refine bS (σ:=Int) (fun i10 v11=>⟨[(1,pI v11),(2,.ptr 0 0),(4,pI 0),(6,pN i10)],⟨[some ⟨211,jE pe⟩],[]⟩⟩) (fun v11=>⟨[(1,pI v11),(4,pI 0)],⟨[some ⟨211,jE pe⟩],[]⟩⟩) (eM H) ?_ ?_
 ·rintro i10 v11 H
  refine gQ 9 ?_;refine AL.splitB 32 rfl (fun g13=>?_) (fun g13=>?_)
  ·have g13l:=wO g13
   have H:=lnT g13l H
   have g13n:=AQ g13
   refine gQ 4 ?_;refine bC H (fun h14 H=>?_) (fun h14 H=>?_)
   ·refine gQ 7 ?_;refine fV H fun y15 h16 H=>(q1 (yK h16 g13n) (q1 w7 (q1 (iK (aL.cs y15.aCj)) (q1 bF (bK H fun x18 z17 H=>(q1 (bE func268 (pC y15.aCj v11 _ z17)) ?_))))))
    exact gE 7
   exact gE 0
  have H:=lnE (wN g13) H
  exact gE 5
 rintro v11 H
 exact gE 5
def nF:Nat→aL→Int→Option Int
 |0,_,_=>none
 |fu+1,pe,p8=>MV fu (nF fu) pe p8
theorem acR(fu:Nat):F8 (nF fu):=by
 induction fu with
 |zero=>exact(fun pe p8 r H=>by simp only [nF] at H;cases H)
 |succ fu ih=>exact(fun pe p8 r H=>by simp only [nF] at H;exact Y8 fu (nF fu) ih pe p8 r H)
theorem agM(fu:Nat):F8 (nF fu):=(acR fu)
def ai8(fu:Nat)(pk:Int):Option ((Bool×Bool×Bool×Bool×Int×Bool)⊕Bool):=sw (decide (pk=1)) (some (.inr (decide (pk=1)))) (some (.inr (decide (pk=2))))
def ai9(fu:Nat)(pk:Int)(v1:Bool):Option ((Bool×Bool×Bool×Bool×Int×Bool)⊕Bool):=sw (decide (pk=4)) (some (.inr (decide (pk=4)))) (some (.inr (decide (pk=6))))
def ajA(fu:Nat)(pk:Int)(v1 v5:Bool):Option ((Bool×Bool×Bool×Bool×Int×Bool)⊕Bool):=sw (decide (pk=8)) (some (.inr (decide (pk=8)))) (some (.inr (decide (pk=10))))
def RT(fu:Nat)(pk:Int):Option (Bool×Bool×Bool×Bool×Int×Bool):=so (ai8 fu pk) fun v1=>sw (v1) (some (false,false,true,false,0,false)) (sw (decide (pk=3)) (some (false,true,false,false,0,false)) (so (ai9 fu pk v1) fun v5=>sw (v5) (some (false,true,false,false,(-1),false)) (sw (decide (pk=5)) (some (true,true,false,false,(-1),false)) (sw (decide (pk=7)) (some (false,false,false,false,1,true)) (so (ajA fu pk v1 v5) fun v10=>sw (v10) (some (false,true,false,false,2,false)) (sw (decide (pk=9)) (some (false,false,false,false,3,false)) (sw (decide (pk=11)) (some (true,false,false,false,1,false)) (some (false,false,false,true,1,false)))))))))
theorem ajB(fu:Nat)(pk:Int)(r:Bool×Bool×Bool×Bool×Int×Bool)(H:RT fu pk=some r):bQ Tryz.prog 271 [pI pk] (.tup [pB r.1,pB r.2.1,pB r.2.2.1,pB r.2.2.2.1,pI r.2.2.2.2.1,pB r.2.2.2.2.2]):=by
 refine qJ func271 H (fun C hC H=>?_)
 refine gQ 16 ?_;refine n3 (σ:=Bool) (fun v1=>⟨[(2,pB false),(3,pB false),(4,pB false),(5,pB false),(6,pI 0),(7,pB false),(8,pI pk),(9,pB v1)],⟨[],[]⟩⟩) (eM H) (fun H=>?_) ?_
 ·refine gQ 5 ?_;refine bC H (fun h2 H=>gE 1) fun h2 H=>?_;exact gE 4
 rintro v1 H
 refine bC H (fun h3 H=>gE 9) fun h3 H=>?_;refine gQ 5 ?_;refine bC H (fun h4 H=>gE 9) fun h4 H=>?_;refine qS ?_;refine n3 (σ:=Bool) (fun v5=>⟨[(2,pB false),(3,pB false),(4,pB false),(5,pB false),(6,pI 0),(7,pB false),(8,pI pk),(14,pB v5)],⟨[],[]⟩⟩) (eM H) (fun H=>?_) ?_
 ·refine gQ 5 ?_;refine bC H (fun h6 H=>gE 1) fun h6 H=>?_;exact gE 4
 rintro v5 H
 refine bC H (fun h7 H=>gE 9) fun h7 H=>?_;refine gQ 5 ?_;refine bC H (fun h8 H=>gE 9) fun h8 H=>?_;refine gQ 5 ?_;refine bC H (fun h9 H=>gE 9) fun h9 H=>?_;refine qS ?_;refine n3 (σ:=Bool) (fun v10=>⟨[(2,pB false),(3,pB false),(4,pB false),(5,pB false),(6,pI 0),(7,pB false),(8,pI pk),(21,pB v10)],⟨[],[]⟩⟩) (eM H) (fun H=>?_) ?_
 ·refine gQ 5 ?_;refine bC H (fun h11 H=>gE 1) fun h11 H=>?_;exact gE 4
 rintro v10 H
 refine bC H (fun h12 H=>gE 9) fun h12 H=>?_;refine gQ 5 ?_;refine bC H (fun h13 H=>gE 9) fun h13 H=>?_;refine gQ 5 ?_;refine bC H (fun h14 H=>gE 9) fun h14 H=>?_;exact gE 10
def MW(fu:Nat)(ps:ByteArray):Option Bool:=bd (lD fu ([CA,G7,PI,PJ,PK]:LB) ps) fun x2=>some x2
theorem agN(fu:Nat)(ps:ByteArray)(r:Bool)(H:MW fu ps=some r):bQ Tryz.prog 272 [pS ps] (pB r):=by
 refine qJ func272 H (fun C hC H=>?_)
 refine gQ 6 ?_;refine q1 (hH ([CA,G7,PI,PJ,PK]:LB)) (q1 bF (bK H fun x2 z1 H=>(q1 (bE func153 (mJ fu ([CA,G7,PI,PJ,PK]:LB) ps _ z1)) ?_)))
 exact gE 2
def oO(fu:Nat)(pt:aA):Option Bool:=sw (decide (pt.aCb=0)) (sw (decide (pt.aB9=s_)) (some (decide ((pt.aCa.length:Int)=0))) (some false)) (some false)
theorem xZ(fu:Nat)(pt:aA)(r:Bool)(H:oO fu pt=some r):bQ Tryz.prog 251 [(aA.pv pt)] (pB r):=by
 refine qJ func251 H (fun C hC H=>?_)
 refine gQ 2 ?_;refine q1 (fD (bR pt)) ?_;refine gQ 8 ?_;refine dL 6 H (fun g1 H=>?_) fun g1 H=>?_
 ·refine gQ 5 ?_;refine dL 11 H (fun g2 H=>gE 7) fun g2 H=>?_;exact gE 7
 exact gE 12
abbrev l5:=aL→Option Bool
def F6(m:l5):Prop:= ∀(p0:aL) (r:Bool),m p0=some r→bQ Tryz.prog 269 [(aL.pv p0)] (pB r:PV)
def af6(fu:Nat)(p1:l5)(p0:aL)(x2 x3 x4 x5:Bool)(x6:Int)(x7:Bool):Option (Bool⊕Unit):=bd (sR fu p0.aCb 1 12) fun x9=>sw (!(x9)) (some (.inl false)) (bd (c7 fu p0.aCg) fun x12=>sw (!decide (x12=x2)) (some (.inl false)) (sw (!(x2)) (sw (!decide (p0.aCg=s_)) (some (.inl false)) (sw (!(x4)) (sw (!decide (p0.aCR=0)) (some (.inl false)) (sw (!decide ((decide ((p0.aCu.length:Int)>0):Bool)=x7)) (some (.inl false)) (some (.inr ())))) (sw (!decide ((decide ((p0.aCu.length:Int)>0):Bool)=x7)) (some (.inl false)) (some (.inr ()))))) (sw (!(x4)) (sw (!decide (p0.aCR=0)) (some (.inl false)) (sw (!decide ((decide ((p0.aCu.length:Int)>0):Bool)=x7)) (some (.inl false)) (some (.inr ())))) (sw (!decide ((decide ((p0.aCu.length:Int)>0):Bool)=x7)) (some (.inl false)) (some (.inr ()))))))
def af7(fu:Nat)(p1:l5)(p0:aL)(x2 x3 x4 x5:Bool)(x6:Int)(x7:Bool):Option (Bool⊕Unit):=sw (decide (p0.aCb=10)) (bd (MW fu p0.aB9) fun x26=>sw (!(x26)) (some (.inl false)) (sw (!decide (p0.aCb=10)) (bd (c7 fu p0.aB9) fun x30=>sw (!decide (x30=x3)) (some (.inl false)) (sw (!(x3)) (sw (!decide (p0.aB9=s_)) (some (.inl false)) (some (.inr ()))) (some (.inr ())))) (some (.inr ())))) (sw (!decide (p0.aCb=10)) (bd (c7 fu p0.aB9) fun x36=>sw (!decide (x36=x3)) (some (.inl false)) (sw (!(x3)) (sw (!decide (p0.aB9=s_)) (some (.inl false)) (some (.inr ()))) (some (.inr ())))) (some (.inr ())))
def af8(fu:Nat)(p1:l5)(p0:aL)(x2 x3 x4 x5:Bool)(x6:Int)(x7:Bool):Option (Bool⊕Unit):=sw (decide (x6≥0)) (sw (!decide ((p0.aCa.length:Int)=x6)) (some (.inl false)) (sw (decide (p0.aCb=5)) (sw (decide ((p0.aCa.length:Int)=0)) (some (.inl false)) (sw x5 (bd (iI fu p0.aCd) fun x46=>sw (!(x46)) (some (.inl false)) (some (.inr ()))) (bd (oO fu p0.aCd) fun x49=>sw (!(x49)) (some (.inl false)) (some (.inr ()))))) (sw x5 (bd (iI fu p0.aCd) fun x53=>sw (!(x53)) (some (.inl false)) (some (.inr ()))) (bd (oO fu p0.aCd) fun x56=>sw (!(x56)) (some (.inl false)) (some (.inr ())))))) (sw (decide (p0.aCb=5)) (sw (decide ((p0.aCa.length:Int)=0)) (some (.inl false)) (sw x5 (bd (iI fu p0.aCd) fun x62=>sw (!(x62)) (some (.inl false)) (some (.inr ()))) (bd (oO fu p0.aCd) fun x65=>sw (!(x65)) (some (.inl false)) (some (.inr ()))))) (sw x5 (bd (iI fu p0.aCd) fun x69=>sw (!(x69)) (some (.inl false)) (some (.inr ()))) (bd (oO fu p0.aCd) fun x72=>sw (!(x72)) (some (.inl false)) (some (.inr ())))))
def af9(fu:Nat)(p1:l5)(p0:aL)(x2 x3 x4 x5:Bool)(x6:Int)(x7:Bool):Option (Bool⊕Unit):=sw (decide (p0.aCb=1)) (bd (sR fu p0.aCR (-999999) 999999) fun x76=>sw (!(x76)) (some (.inl false)) (some (.inr ()))) (sw (decide (p0.aCb=2)) (bd (sR fu p0.aCR 0 1) fun x80=>sw (!(x80)) (some (.inl false)) (some (.inr ()))) (some (.inr ())))
def agA(fu:Nat)(p1:l5)(p0:aL)(x2 x3 x4 x5:Bool)(x6:Int)(x7:Bool):Nat→Unit→Option (LR Unit Bool):=fun i82 _=>lt (aR p0.aCa i82) fun y85=>bd (p1 y85) fun x88=>sw (!(x88)) (some (.ret false)) (some (.next ()))
def agB(fu:Nat)(p1:l5)(p0:aL)(x2 x3 x4 x5:Bool)(x6:Int)(x7:Bool):Nat→Unit→Option (LR Unit Bool):=fun i90 _=>lt (aR p0.aCu i90) fun y93=>bd (c7 fu y93.aCy) fun x96=>sw (!(x96)) (some (.ret false)) (bd (GI fu y93.aCm) fun x99=>sw (!(x99)) (some (.ret false)) (bd (kU fu y93.aCm) fun x102=>sw (!(x102)) (some (.ret false)) (bd (p1 y93.aCj) fun x105=>sw (!(x105)) (some (.ret false)) (some (.next ())))))
def MT(fu:Nat)(p1:l5)(p0:aL):Option Bool:=bd (RT fu p0.aCb) fun(x2,x3,x4,x5,x6,x7)=>so (af6 fu p1 p0 x2 x3 x4 x5 x6 x7) fun _=>so (af7 fu p1 p0 x2 x3 x4 x5 x6 x7) fun _=>so (af8 fu p1 p0 x2 x3 x4 x5 x6 x7) fun _=>so (af9 fu p1 p0 x2 x3 x4 x5 x6 x7) fun _=>so (loopN (agA fu p1 p0 x2 x3 x4 x5 x6 x7) (p0.aCa.length-0) 0 ()) fun _=>so (loopN (agB fu p1 p0 x2 x3 x4 x5 x6 x7) (p0.aCu.length-0) 0 ()) fun _=>some true
theorem Y6(fu:Nat)(p1:l5)(pD:F6 p1):F6 (MT fu p1):=by
 intro p0 r H
 refine qJ func269 H (fun C hC H=>?_)
 refine gQ 2 ?_;refine q1 (fD (jE p0)) ?_;refine gQ 6 ?_
 obtain⟨⟨x2,x3,x4,x5,x6,x7⟩,z1,H⟩:=bdI H
 refine q1 (bE func271 (ajB fu p0.aCb _ z1)) ?_;refine gQ 15 ?_;refine n3 (σ:=Unit) (fun _=>⟨[(1,.ptr 0 0),(2,pB false),(4,pB x3),(6,pB x5),(7,pI x6)],⟨[some ⟨211,jE p0⟩],[]⟩⟩) (eM H) (fun H=>?_) ?_
 ·refine gQ 4 ?_;refine bK H fun x9 z8 H=>(q1 (bE func64 (yE fu p0.aCb 1 12 _ z8)) ?_)
  refine gQ 2 ?_;refine dL 26 H (fun g10 H=>gE 38) fun g10 H=>?_;refine gQ 2 ?_;refine bK H fun x12 z11 H=>(qg g10 (bE func205 (eD fu p0.aCg _ z11)) (qg g10 bF (qg g10 (bB.neqB rfl rfl rfl rfl Tryz.underlying4) ?_)))
  refine gQ 2 ?_;refine dL 33 H (fun g13 H=>gE 31) fun g13 H=>?_;refine gQ 3 ?_;refine dL 36 H (fun g14 H=>?_) fun g14 H=>?_
  ·refine gQ 6 ?_;refine dL 42 H (fun g15 H=>gE 22) fun g15 H=>?_;refine gQ 3 ?_;refine dL 45 H (fun g16 H=>?_) fun g16 H=>?_
   ·refine gQ 6 ?_;refine dL 51 H (fun g17 H=>gE 13) fun g17 H=>?_;refine gQ 5 ?_;refine qg g17 (bB.neqB rfl rfl rfl rfl Tryz.underlying4) ?_;refine gQ 2 ?_;refine bC H (fun h18 H=>gE 4) fun h18 H=>?_;exact gE 1
   refine gQ 11 ?_;refine qg rfl (bB.neqB rfl rfl rfl rfl Tryz.underlying4) ?_;refine gQ 2 ?_;refine bC H (fun h19 H=>gE 4) fun h19 H=>?_;exact gE 1
  refine gQ 9 ?_;refine dL 45 H (fun g20 H=>?_) fun g20 H=>?_
  ·refine gQ 6 ?_;refine dL 51 H (fun g21 H=>gE 13) fun g21 H=>?_;refine gQ 5 ?_;refine qg g21 (bB.neqB rfl rfl rfl rfl Tryz.underlying4) ?_;refine gQ 2 ?_;refine bC H (fun h22 H=>gE 4) fun h22 H=>?_;exact gE 1
  refine gQ 11 ?_;refine qg rfl (bB.neqB rfl rfl rfl rfl Tryz.underlying4) ?_;refine gQ 2 ?_;refine bC H (fun h23 H=>gE 4) fun h23 H=>?_;exact gE 1
 rintro⟨⟩ H
 refine qS ?_;refine n3 (σ:=Unit) (fun _=>⟨[(1,.ptr 0 0),(2,pB false),(6,pB x5),(7,pI x6)],⟨[some ⟨211,jE p0⟩],[]⟩⟩) (eM H) (fun H=>?_) ?_
 ·refine gQ 6 ?_;refine dL 62 H (fun g24 H=>?_) fun g24 H=>?_
  ·refine gQ 2 ?_;refine bK H fun x26 z25 H=>(qg g24 (bE func272 (agN fu p0.aB9 _ z25)) ?_)
   refine gQ 3 ?_;refine dL 68 H (fun g27 H=>gE 26) fun g27 H=>?_;refine gQ 4 ?_;refine dL 72 H (fun g28 H=>?_) fun g28 H=>?_
   ·refine gQ 2 ?_;refine bK H fun x30 z29 H=>(qg g28 (bE func205 (eD fu p0.aB9 _ z29)) (qg g28 bF (qg g28 (bB.neqB rfl rfl rfl rfl Tryz.underlying4) (qg g28 bF ?_))))
    refine dL 78 H (fun g31 H=>gE 16) fun g31 H=>?_;refine gQ 3 ?_;refine dL 81 H (fun g32 H=>?_) fun g32 H=>?_
    ·refine gQ 8 ?_;refine bC H (fun h33 H=>gE 4) fun h33 H=>?_;exact gE 1
    exact gE 10
   exact gE 19
  refine gQ 10 ?_;refine dL 72 H (fun g34 H=>?_) fun g34 H=>?_
  ·refine gQ 2 ?_;refine bK H fun x36 z35 H=>(qg g34 (bE func205 (eD fu p0.aB9 _ z35)) (qg g34 bF (qg g34 (bB.neqB rfl rfl rfl rfl Tryz.underlying4) (qg g34 bF ?_))))
   refine dL 78 H (fun g37 H=>gE 16) fun g37 H=>?_;refine gQ 3 ?_;refine dL 81 H (fun g38 H=>?_) fun g38 H=>?_
   ·refine gQ 8 ?_;refine bC H (fun h39 H=>gE 4) fun h39 H=>?_;exact gE 1
   exact gE 10
  exact gE 19
 rintro⟨⟩ H
 refine qS ?_;refine n3 (σ:=Unit) (fun _=>⟨[(1,.ptr 0 0),(2,pB false)],⟨[some ⟨211,jE p0⟩],[]⟩⟩) (eM H) (fun H=>?_) ?_
 ·refine gQ 5 ?_;refine dL 91 H (fun g40 H=>?_) fun g40 H=>?_
  ·refine gQ 7 ?_;refine dL 98 H (fun g41 H=>gE 35) fun g41 H=>?_;refine gQ 4 ?_;refine dL 102 H (fun g42 H=>?_) fun g42 H=>?_
   ·refine gQ 7 ?_;refine dL 109 H (fun g43 H=>gE 24) fun g43 H=>?_;refine gQ 2 ?_;refine dL 111 H (fun g44 H=>?_) fun g44 H=>?_
    ·refine qg g44 bW (qg g44 (bZ [pI p0.aCd.aCb,pS p0.aCd.aB9,aT p0.aCd.aCa]) (bK H fun x46 z45 H=>(qg g44 (bE func258 (mI fu p0.aCd _ z45)) ?_)))
     refine gQ 4 ?_;refine dL 118 H (fun g47 H=>gE 15) fun g47 H=>?_;refine gQ 3 ?_
     iterate 4 refine qk (congrArg (fun b=> !b) g44) ?_
     refine qg g47 (FX (congrArg (fun b=> !b) g44)) ?_;exact gE 4
    refine gQ 10 ?_;refine qg (congrArg (fun b=> !b) g44) bW (qg (congrArg (fun b=> !b) g44) (bZ [pI p0.aCd.aCb,pS p0.aCd.aB9,aT p0.aCd.aCa]) (bK H fun x49 z48 H=>(qg (congrArg (fun b=> !b) g44) (bE func251 (xZ fu p0.aCd _ z48)) (qg (congrArg (fun b=> !b) g44) JN (qg rfl (DU (congrArg (fun b=> !b) g44)) ?_)))))
    refine gQ 2 ?_;refine bC H (fun h50 H=>gE 4) fun h50 H=>?_;exact gE 1
   refine gQ 9 ?_;refine dL 111 H (fun g51 H=>?_) fun g51 H=>?_
   ·refine qg g51 bW (qg g51 (bZ [pI p0.aCd.aCb,pS p0.aCd.aB9,aT p0.aCd.aCa]) (bK H fun x53 z52 H=>(qg g51 (bE func258 (mI fu p0.aCd _ z52)) ?_)))
    refine gQ 4 ?_;refine dL 118 H (fun g54 H=>gE 15) fun g54 H=>?_;refine gQ 3 ?_
    iterate 4 refine qk (congrArg (fun b=> !b) g51) ?_
    refine qg g54 (FX (congrArg (fun b=> !b) g51)) ?_;exact gE 4
   refine gQ 10 ?_;refine qg (congrArg (fun b=> !b) g51) bW (qg (congrArg (fun b=> !b) g51) (bZ [pI p0.aCd.aCb,pS p0.aCd.aB9,aT p0.aCd.aCa]) (bK H fun x56 z55 H=>(qg (congrArg (fun b=> !b) g51) (bE func251 (xZ fu p0.aCd _ z55)) (qg (congrArg (fun b=> !b) g51) JN (qg rfl (DU (congrArg (fun b=> !b) g51)) ?_)))))
   refine gQ 2 ?_;refine bC H (fun h57 H=>gE 4) fun h57 H=>?_;exact gE 1
  refine gQ 11 ?_;refine dL 102 H (fun g58 H=>?_) fun g58 H=>?_
  ·refine gQ 7 ?_;refine dL 109 H (fun g59 H=>gE 24) fun g59 H=>?_;refine gQ 2 ?_;refine dL 111 H (fun g60 H=>?_) fun g60 H=>?_
   ·refine qg g60 bW (qg g60 (bZ [pI p0.aCd.aCb,pS p0.aCd.aB9,aT p0.aCd.aCa]) (bK H fun x62 z61 H=>(qg g60 (bE func258 (mI fu p0.aCd _ z61)) ?_)))
    refine gQ 4 ?_;refine dL 118 H (fun g63 H=>gE 15) fun g63 H=>?_;refine gQ 3 ?_
    iterate 4 refine qk (congrArg (fun b=> !b) g60) ?_
    refine qg g63 (FX (congrArg (fun b=> !b) g60)) ?_;exact gE 4
   refine gQ 10 ?_;refine qg (congrArg (fun b=> !b) g60) bW (qg (congrArg (fun b=> !b) g60) (bZ [pI p0.aCd.aCb,pS p0.aCd.aB9,aT p0.aCd.aCa]) (bK H fun x65 z64 H=>(qg (congrArg (fun b=> !b) g60) (bE func251 (xZ fu p0.aCd _ z64)) (qg (congrArg (fun b=> !b) g60) JN (qg rfl (DU (congrArg (fun b=> !b) g60)) ?_)))))
   refine gQ 2 ?_;refine bC H (fun h66 H=>gE 4) fun h66 H=>?_;exact gE 1
  refine gQ 9 ?_;refine dL 111 H (fun g67 H=>?_) fun g67 H=>?_
  ·refine qg g67 bW (qg g67 (bZ [pI p0.aCd.aCb,pS p0.aCd.aB9,aT p0.aCd.aCa]) (bK H fun x69 z68 H=>(qg g67 (bE func258 (mI fu p0.aCd _ z68)) ?_)))
   refine gQ 4 ?_;refine dL 118 H (fun g70 H=>gE 15) fun g70 H=>?_;refine gQ 3 ?_
   iterate 4 refine qk (congrArg (fun b=> !b) g67) ?_
   refine qg g70 (FX (congrArg (fun b=> !b) g67)) ?_;exact gE 4
  refine gQ 10 ?_;refine qg (congrArg (fun b=> !b) g67) bW (qg (congrArg (fun b=> !b) g67) (bZ [pI p0.aCd.aCb,pS p0.aCd.aB9,aT p0.aCd.aCa]) (bK H fun x72 z71 H=>(qg (congrArg (fun b=> !b) g67) (bE func251 (xZ fu p0.aCd _ z71)) (qg (congrArg (fun b=> !b) g67) JN (qg rfl (DU (congrArg (fun b=> !b) g67)) ?_)))))
  refine gQ 2 ?_;refine bC H (fun h73 H=>gE 4) fun h73 H=>?_;exact gE 1
 rintro⟨⟩ H
 refine qS ?_;refine n3 (σ:=Unit) (fun _=>⟨[(1,.ptr 0 0),(2,pB false)],⟨[some ⟨211,jE p0⟩],[]⟩⟩) (eM H) (fun H=>?_) ?_
 ·refine gQ 6 ?_;refine dL 131 H (fun g74 H=>?_) fun g74 H=>?_
  ·refine gQ 2 ?_;refine bK H fun x76 z75 H=>(qg g74 (bE func64 (yE fu p0.aCR (-999999) 999999 _ z75)) ?_)
   refine gQ 3 ?_;refine dL 137 H (fun g77 H=>gE 16) fun g77 H=>?_;refine gQ 4 ?_
   iterate 4 refine qk (dne (b:=2) g74 (by decide)) ?_
   refine qg g77 (FX (dne (b:=2) g74 (by decide))) ?_;exact gE 4
  refine gQ 10 ?_;refine dL 141 H (fun g78 H=>?_) fun g78 H=>?_
  ·refine gQ 2 ?_;refine bK H fun x80 z79 H=>(qg g78 (bE func64 (yE fu p0.aCR 0 1 _ z79)) ?_)
   refine gQ 4 ?_;refine bC H (fun h81 H=>gE 4) fun h81 H=>?_;exact gE 1
  exact gE 9
 rintro⟨⟩ H
 refine gQ 5 ?_;refine cV.fact (cI 0 7 rfl rfl rfl (aL.trs_len _)) (fun hl83=>?_)
 refine bS (σ:=Unit) (fun i82 _=>⟨[(1,.ptr 0 0),(2,pB false),(9,pN i82)],⟨[some ⟨211,jE p0⟩],[]⟩⟩) (fun _=>⟨[(1,.ptr 0 0),(2,pB false)],⟨[some ⟨211,jE p0⟩],[]⟩⟩) (eM H) ?_ ?_
 ·rintro i82 ⟨⟩ H
  refine gQ 9 ?_;refine cS H (fun h84 h84l H=>?_) (fun h84 H=>?_)
  ·refine gQ 8 ?_;refine fV H fun y85 h86 H=>(q1 (yK h86 h84l) (q1 (iK (aL.cs y85)) (bK H fun x88 z87 H=>(q1 (bE func269 (pD y85 _ z87)) ?_))))
   refine gQ 2 ?_;refine bC H (fun h89 H=>gE 4) fun h89 H=>?_;exact gE 6
  exact gE 0
 rintro⟨⟩ H
 refine gQ 5 ?_;refine cV.fact (cI 0 8 rfl rfl rfl (bU.trs_len _)) (fun hl91=>?_)
 refine bS (σ:=Unit) (fun i90 _=>⟨[(1,.ptr 0 0),(2,pB false),(10,pN i90)],⟨[some ⟨211,jE p0⟩],[]⟩⟩) (fun _=>⟨[(2,pB false)],⟨[some ⟨211,jE p0⟩],[]⟩⟩) (eM H) ?_ ?_
 ·rintro i90 ⟨⟩ H
  refine gQ 9 ?_;refine cS H (fun h92 h92l H=>?_) (fun h92 H=>?_)
  ·refine gQ 8 ?_;refine fV H fun y93 h94 H=>(q1 (yK h94 h92l) (q1 (iK (bU.cs y93)) ?_))
   refine gQ 7 ?_;refine bK H fun x96 z95 H=>(q1 (bE func205 (eD fu y93.aCy _ z95)) ?_)
   refine gQ 2 ?_;refine dL 178 H (fun g97 H=>gE 23) fun g97 H=>?_;refine gQ 2 ?_;refine bK H fun x99 z98 H=>(qg g97 (bE func228 (S3 fu y93.aCm _ z98)) ?_)
   refine gQ 3 ?_;refine dL 184 H (fun g100 H=>gE 17) fun g100 H=>?_;refine gQ 2 ?_;refine bK H fun x102 z101 H=>(qg g100 (bE func207 (mH fu y93.aCm _ z101)) ?_)
   refine gQ 3 ?_;refine dL 190 H (fun g103 H=>gE 11) fun g103 H=>?_;refine qg g103 bW (qg g103 (bZ [pI y93.aCj.aCb,pS y93.aCj.aCg,pS y93.aCj.aB9,pI y93.aCj.aCR,pI y93.aCj.aCd.aCb,pS y93.aCj.aCd.aB9,aT y93.aCj.aCd.aCa,iS y93.aCj.aCa,sL y93.aCj.aCu]) (bK H fun x105 z104 H=>(qg g103 (bE func269 (pD y93.aCj _ z104)) ?_)))
   refine gQ 3 ?_;refine bC H (fun h106 H=>gE 4) fun h106 H=>?_;exact gE 6
  exact gE 0
 rintro⟨⟩ H
 exact gE 4
def nD:Nat→aL→Option Bool
 |0,_=>none
 |fu+1,p0=>MT fu (nD fu) p0
theorem acP(fu:Nat):F6 (nD fu):=by
 induction fu with
 |zero=>exact(fun p0 r H=>by simp only [nD] at H;cases H)
 |succ fu ih=>exact(fun p0 r H=>by simp only [nD] at H;exact Y6 fu (nD fu) ih p0 r H)
theorem agD(fu:Nat):F6 (nD fu):=(acP fu)
def BL(fu:Nat)(pe:aL):Option Bool:=bd (nF fu pe 300) fun x2=>sw (decide (x2≥0)) (bd (nD fu pe) fun x5=>some x5) (some false)
theorem TV(fu:Nat)(pe:aL)(r:Bool)(H:BL fu pe=some r):bQ Tryz.prog 262 [(aL.pv pe)] (pB r):=by
 refine qJ func262 H (fun C hC H=>?_)
 refine gQ 2 ?_;refine q1 (fD (jE pe)) ?_;refine gQ 4 ?_;refine q1 (bZ [pI pe.aCb,pS pe.aCg,pS pe.aB9,pI pe.aCR,pI pe.aCd.aCb,pS pe.aCd.aB9,aT pe.aCd.aCa,iS pe.aCa,sL pe.aCu]) (bK H fun x2 z1 H=>(q1 (bE func268 (agM fu pe 300 _ z1)) ?_))
 refine gQ 2 ?_;refine dL 6 H (fun g3 H=>?_) fun g3 H=>?_
 ·refine qg g3 (bZ [pI pe.aCb,pS pe.aCg,pS pe.aB9,pI pe.aCR,pI pe.aCd.aCb,pS pe.aCd.aB9,aT pe.aCd.aCa,iS pe.aCa,sL pe.aCu]) (bK H fun x5 z4 H=>(qg g3 (bE func269 (agD fu pe _ z4)) ?_))
  exact gE 3
 exact gE 5
def acS(fu:Nat)(pa pb:LB):Nat→Unit→Option (LR Unit Bool):=fun i2 _=>gd (i2<(pb).length) (sw (!decide (aR pa i2=aR pb i2)) (some (.ret false)) (some (.next ())))
def IM(fu:Nat)(pa pb:LB):Option Bool:=sw (!decide ((pa.length:Int)=(pb.length:Int))) (some false) (so (loopN (acS fu pa pb) (pa.length-0) 0 ()) fun _=>some true)
theorem O2(fu:Nat)(pa:LB)(pb:LB)(r:Bool)(H:IM fu pa pb=some r):bQ Tryz.prog 270 [rS pa,rS pb] (pB r):=by
 refine qJ func270 H (fun C hC H=>?_)
 refine gQ 13 ?_;refine bC H (fun h1 H=>gE 4) fun h1 H=>?_;refine gQ 6 ?_;refine gP 0 (bV _) (fun hl3=>?_)
 refine bS (σ:=Unit) (fun i2 _=>⟨[(0,rS pa),(1,rS pb),(4,pB false),(5,pN i2)],⟨[],[]⟩⟩) (fun _=>⟨[(4,pB false)],⟨[],[]⟩⟩) (eM H) ?_ ?_
 ·rintro i2 ⟨⟩ H
  refine gQ 8 ?_;refine cS H (fun h4 h4l H=>?_) (fun h4 H=>?_)
  ·refine gQ 4 ?_;refine cF H fun z5 H=>(dW (dI [0] bF (dI [5] bF (dI [17,18] qQ (dI [19] vQ (dI [1] bF (dI [5] bF (dI [21,22] qQ (dI [23] vQ (dI [20,24] rSn (dN ?_)))))))))))
   refine bC H (fun h6 H=>gE 4) fun h6 H=>?_;exact gE 6
  exact gE 0
 rintro⟨⟩ H
 exact gE 4
abbrev oH:=aL→aL→Option Bool
def zY(m:oH):Prop:= ∀(p0:aL) (p7:aL) (r:Bool),m p0 p7=some r→bQ Tryz.prog 263 [(aL.pv p0),(aL.pv p7)] (pB r:PV)
def YP(fu:Nat)(p5:oH)(p0 p7:aL)(x6:Bool):Nat→Unit→Option (LR Unit Bool):=fun i10 _=>lt (aR p0.aCa i10) fun y13=>gd (i10<(p7.aCa).length) (lt (aR p7.aCa i10) fun y16=>bd (p5 y13 y16) fun x19=>sw (!(x19)) (some (.ret false)) (some (.next ())))
def YQ(fu:Nat)(p5:oH)(p0 p7:aL)(x6:Bool):Nat→Unit→Option (LR Unit Bool):=fun i21 _=>lt (aR p0.aCu i21) fun y24=>gd (i21<(p7.aCu).length) (lt (aR p7.aCu i21) fun y27=>sw (!decide (y24.aCy=y27.aCy)) (some (.ret false)) (bd (IM fu y24.aCm y27.aCm) fun x31=>sw (!(x31)) (some (.ret false)) (bd (p5 y24.aCj y27.aCj) fun x34=>sw (!(x34)) (some (.ret false)) (some (.next ())))))
def F0(fu:Nat)(p5:oH)(p0 p7:aL):Option Bool:=sw (!decide (p0.aCb=p7.aCb)) (some false) (sw (!decide (p0.aCg=p7.aCg)) (some false) (sw (!decide (p0.aB9=p7.aB9)) (some false) (sw (!decide (p0.aCR=p7.aCR)) (some false) (bd (fI fu p0.aCd p7.aCd) fun x6=>sw (!(x6)) (some false) (sw (!decide ((p0.aCa.length:Int)=(p7.aCa.length:Int))) (some false) (sw (!decide ((p0.aCu.length:Int)=(p7.aCu.length:Int))) (some false) (so (loopN (YP fu p5 p0 p7 x6) (p0.aCa.length-0) 0 ()) fun _=>so (loopN (YQ fu p5 p0 p7 x6) (p0.aCu.length-0) 0 ()) fun _=>some true)))))))
theorem TQ(fu:Nat)(p5:oH)(pA:zY p5):zY (F0 fu p5):=by
 intro p0 p7 r H
 refine qJ func263 H (fun C hC H=>?_)
 refine gQ 2 ?_;refine q1 (fD (jE p0)) (q1 (fD (jE p7)) ?_)
 refine gQ 11 ?_;refine dL 12 H (fun g1 H=>gE 52) fun g1 H=>?_;refine gQ 7 ?_;refine dL 19 H (fun g2 H=>gE 45) fun g2 H=>?_;refine gQ 7 ?_;refine dL 26 H (fun g3 H=>gE 38) fun g3 H=>?_;refine gQ 7 ?_;refine dL 33 H (fun g4 H=>gE 31) fun g4 H=>?_;refine qg g4 bW (qg g4 (bZ [pI p0.aCd.aCb,pS p0.aCd.aB9,aT p0.aCd.aCa]) (qg g4 bW (qg g4 (bZ [pI p7.aCd.aCb,pS p7.aCd.aB9,aT p7.aCd.aCa]) (bK H fun x6 z5 H=>(qg g4 (bE func38 (K4 fu p0.aCd p7.aCd _ z5)) ?_)))))
 refine gQ 3 ?_;refine dL 41 H (fun g7 H=>gE 23) fun g7 H=>?_;refine gQ 9 ?_;refine dL 50 H (fun g8 H=>gE 14) fun g8 H=>?_;refine gQ 9 ?_;refine bC H (fun h9 H=>gE 4) fun h9 H=>?_;refine gQ 6 ?_;refine gP 43 (aL.trs_len _) (fun hl11=>?_)
 refine bS (σ:=Unit) (fun i10 _=>⟨[(2,.ptr 0 0),(3,.ptr 1 0),(4,pB false),(5,pN i10)],⟨[some ⟨211,jE p0⟩,some ⟨211,jE p7⟩],[]⟩⟩) (fun _=>⟨[(2,.ptr 0 0),(3,.ptr 1 0),(4,pB false)],⟨[some ⟨211,jE p0⟩,some ⟨211,jE p7⟩],[]⟩⟩) (eM H) ?_ ?_
 ·rintro i10 ⟨⟩ H
  refine gQ 9 ?_;refine cS H (fun h12 h12l H=>?_) (fun h12 H=>?_)
  ·refine gQ 4 ?_;refine fV H fun y13 h14 H=>(cF H fun z15 H=>(fV H fun y16 h17 H=>(bK H fun x19 z18 H=>(dW (dI [2] bW (dD [66] eE (dI [5] bF (dI [67,68] (yK h14 h12l) (dI [69] (iK (aL.cs y13)) (dI [3] bW (dD [71] eE (dI [5] bF (dI [72,73] (yK h17 z15) ?_)))))))))))))
   refine dI [74] (iK (aL.cs y16)) (dI [70,75] (bE func263 (pA y13 y16 _ z18)) (dI [76] JN (dN ?_)))
   refine bC H (fun h20 H=>gE 4) fun h20 H=>?_;exact gE 6
  exact gE 0
 rintro⟨⟩ H
 refine gQ 5 ?_;refine cV.fact (cI 0 8 rfl rfl rfl (bU.trs_len _)) (fun hl22=>?_)
 refine bS (σ:=Unit) (fun i21 _=>⟨[(2,.ptr 0 0),(3,.ptr 1 0),(4,pB false),(6,pN i21)],⟨[some ⟨211,jE p0⟩,some ⟨211,jE p7⟩],[]⟩⟩) (fun _=>⟨[(4,pB false)],⟨[some ⟨211,jE p0⟩,some ⟨211,jE p7⟩],[]⟩⟩) (eM H) ?_ ?_
 ·rintro i21 ⟨⟩ H
  refine gQ 9 ?_;refine cS H (fun h23 h23l H=>?_) (fun h23 H=>?_)
  ·refine gQ 4 ?_;refine fV H fun y24 h25 H=>(cF H fun z26 H=>(fV H fun y27 h28 H=>?_))
   rcases o3 (!decide (y24.aCy=y27.aCy)) with g29|g29
   ·have H:=s9 H g29
    refine dW (dI [2] bW (dD [85] eE (dI [6] bF (dI [86,87] (yK h25 h23l) (dI [88] w7 (dI [89] vQ (dI [3] bW (dD [91] eE (dI [6] bF (dI [92,93] (yK h28 z26) (dI [94] w7 (dI [95] vQ (dI [90,96] rSn ?_)))))))))))))
    refine dI [97] bF ?_
    iterate 14 refine NF g29 ?_
    refine dI [98] (DU g29) (dI [113] bF ?_)
    iterate 14 refine NF rfl ?_
    refine dI [114] (DU rfl) (dN ?_)
    exact gE 5
   have H:=s8 H g29
   refine bK H fun x31 z30 H=>?_
   rcases o3 (!(x31)) with g32|g32
   ·have H:=s9 H g32
    refine dW (dI [2] bW (dD [85] eE (dI [6] bF (dI [86,87] (yK h25 h23l) (dI [88] w7 (dI [89] vQ (dI [3] bW (dD [91] eE (dI [6] bF (dI [92,93] (yK h28 z26) (dI [94] w7 (dI [95] vQ (dI [90,96] rSn ?_)))))))))))))
    refine dI [97] bF (dI (hg:=bD g29) [2] bW (dD (hg:=bD g29) [99] eE (dI (hg:=bD g29) [6] bF (dI (hg:=bD g29) [100,101] (yK h25 h23l) (dI (hg:=bD g29) [102] w7 (dI (hg:=bD g29) [103] vQ (dI (hg:=bD g29) [3] bW (dD (hg:=bD g29) [105] eE (dI (hg:=bD g29) [6] bF (dI (hg:=bD g29) [106,107] (yK h28 z26) (dI (hg:=bD g29) [108] w7 (dI (hg:=bD g29) [109] vQ (dI (hg:=bD g29) [104,110] (bE func270 (O2 fu y24.aCm y27.aCm _ z30)) ?_)))))))))))))
    refine dI (hg:=bD g29) [111] JN (dI [98,112] (FX g29) (dI [113] bF ?_))
    iterate 14 refine NF g32 ?_
    refine dI [114] (DU g32) (dN ?_)
    exact gE 5
   have H:=s8 H g32
   refine bK H fun x34 z33 H=>(dW (dI [2] bW (dD [85] eE (dI [6] bF (dI [86,87] (yK h25 h23l) (dI [88] w7 (dI [89] vQ (dI [3] bW (dD [91] eE (dI [6] bF (dI [92,93] (yK h28 z26) (dI [94] w7 (dI [95] vQ ?_)))))))))))))
   refine dI [90,96] rSn (dI [97] bF (dI (hg:=bD g29) [2] bW (dD (hg:=bD g29) [99] eE (dI (hg:=bD g29) [6] bF (dI (hg:=bD g29) [100,101] (yK h25 h23l) (dI (hg:=bD g29) [102] w7 (dI (hg:=bD g29) [103] vQ (dI (hg:=bD g29) [3] bW (dD (hg:=bD g29) [105] eE (dI (hg:=bD g29) [6] bF (dI (hg:=bD g29) [106,107] (yK h28 z26) (dI (hg:=bD g29) [108] w7 (dI (hg:=bD g29) [109] vQ ?_)))))))))))))
   refine dI (hg:=bD g29) [104,110] (bE func270 (O2 fu y24.aCm y27.aCm _ z30)) (dI (hg:=bD g29) [111] JN (dI [98,112] (FX g29) (dI [113] bF (dI (hg:=bD g32) [2] bW (dD (hg:=bD g32) [115] eE (dI (hg:=bD g32) [6] bF (dI (hg:=bD g32) [116,117] (yK h25 h23l) (dI (hg:=bD g32) [118] w7 (dI (hg:=bD g32) [119] (iK (aL.cs y24.aCj)) (dI (hg:=bD g32) [3] bW (dD (hg:=bD g32) [121] eE (dI (hg:=bD g32) [6] bF (dI (hg:=bD g32) [122,123] (yK h28 z26) ?_)))))))))))))
   refine dI (hg:=bD g32) [124] w7 (dI (hg:=bD g32) [125] (iK (aL.cs y27.aCj)) (dI (hg:=bD g32) [120,126] (bE func263 (pA y24.aCj y27.aCj _ z33)) (dI (hg:=bD g32) [127] JN (dI [114,128] (FX g32) (dN ?_)))))
   refine bC H (fun h35 H=>gE 4) fun h35 H=>?_;exact gE 6
  exact gE 0
 rintro⟨⟩ H
 exact gE 4
def kI:Nat→aL→aL→Option Bool
 |0,_,_=>none
 |fu+1,p0,p7=>F0 fu (kI fu) p0 p7
theorem WC(fu:Nat):zY (kI fu):=by
 induction fu with
 |zero=>exact(fun p0 p7 r H=>by simp only [kI] at H;cases H)
 |succ fu ih=>exact(fun p0 p7 r H=>by simp only [kI] at H;exact TQ fu (kI fu) ih p0 p7 r H)
theorem YS(fu:Nat):zY (kI fu):=(WC fu)
abbrev rY:=aL→(LB)→(LB)→Option ((LB))
def F7(m:rY):Prop:= ∀(p0:aL) (p7:LB) (pE:LB) (r:(LB)),m p0 p7 pE=some r→b6 Tryz.prog 267 [(aL.pv p0),rS p7,aS pE 0] ⟨[],[⟨9,1,aY (pE),false⟩]⟩ (fun q t=>q=(aS r 0:PV)∧t=⟨[],[⟨9,1,aY (r),false⟩]⟩)
def agE(fu:Nat)(p3:rY)(p0:aL)(p7 pE:LB):Option (((LB))⊕((LB))):=sw (decide (p0.aCb=3)) (bd (lD fu p7 p0.aB9) fun x5=>sw (!(x5)) (bd (lD fu pE p0.aB9) fun x8=>sw (!(x8)) (gd ((pE).length+(([p0.aB9]:LB)).length≤68719476736) (some (.inr (pE++([p0.aB9]:LB))))) (some (.inr pE))) (some (.inr pE))) (some (.inr pE))
def agF(fu:Nat)(p3:rY)(p0:aL)(p7 pE v2:LB):Nat→((LB))→Option (LR ((LB)) ((LB))):=fun i11 v13=>sw (decide (p0.aCb=8)) (sw (decide ((i11:Int)=1)) (gd (([]:LB).length+(p7).length≤68719476736) (gd ((([])++p7).length+(([p0.aB9]:LB)).length≤68719476736) (lt (aR p0.aCa i11) fun y20=>bd (p3 y20 ((([])++p7)++([p0.aB9]:LB)) v13) fun x23=>some (.next x23)))) (lt (aR p0.aCa i11) fun y24=>bd (p3 y24 p7 v13) fun x27=>some (.next x27))) (lt (aR p0.aCa i11) fun y28=>bd (p3 y28 p7 v13) fun x31=>some (.next x31))
def agG(fu:Nat)(p3:rY)(p0:aL)(p7 pE v2 v13:LB):Nat→((LB))→Option (LR ((LB)) ((LB))):=fun i32 v34=>lt (aR p0.aCu i32) fun y37=>gd (([]:LB).length+(p7).length≤68719476736) (gd ((([])++p7).length+(y37.aCm).length≤68719476736) (bd (p3 y37.aCj ((([])++p7)++y37.aCm) v34) fun x42=>some (.next x42)))
def MU(fu:Nat)(p3:rY)(p0:aL)(p7 pE:LB):Option ((LB)):=so (agE fu p3 p0 p7 pE) fun v2=>so (loopN (agF fu p3 p0 p7 pE v2) (p0.aCa.length-0) 0 v2) fun v13=>so (loopN (agG fu p3 p0 p7 pE v2 v13) (p0.aCu.length-0) 0 v13) fun v34=>some v34
theorem Y7(fu:Nat)(p3:rY)(p9:F7 p3):F7 (MU fu p3):=by
 intro p0 p7 pE r H
 refine qJ func267 H (fun C hC H=>?_)
 refine gQ 2 ?_;refine q1 (fD (jE p0)) ?_;refine gQ 3 ?_;refine n3 (σ:=(LB)) (fun v2=>⟨[(1,rS p7),(2,aS v2 0),(3,.ptr 0 0),(6,.nil)],⟨[some ⟨211,jE p0⟩],[⟨9,1,aY (v2),false⟩]⟩⟩) (eM H) (fun H=>?_) ?_
 ·refine gQ 6 ?_;refine dL 13 H (fun g3 H=>?_) fun g3 H=>?_
  ·refine gQ 3 ?_;refine bK H fun x5 z4 H=>(qg g3 (bE func153 (mJ fu p7 p0.aB9 _ z4)) ?_)
   refine gQ 3 ?_;refine dL 20 H (fun g6 H=>?_) fun g6 H=>?_
   ·refine gQ 3 ?_;refine bK H fun x8 z7 H=>(qg g6 (bE func153 (mJ fu pE p0.aB9 _ z7)) ?_)
    refine gQ 3 ?_;refine bC H (fun h9 H=>?_) (fun h9 H=>?_)
    ·refine gQ 4 ?_;refine q1 (hH ([p0.aB9]:LB)) (cF H fun z10 H=>(q1 (lE z10) ?_))
     exact gE 2
    exact gE 1
   exact gE 9
  exact gE 16
 rintro v2 H
 refine gQ 5 ?_;refine cV.fact (cI 0 7 rfl rfl rfl (aL.trs_len _)) (fun hl14=>?_)
 refine bS (σ:=(LB)) (fun i11 v13=>⟨[(1,rS p7),(2,aS v13 0),(3,.ptr 0 0),(6,.nil),(7,pN i11)],⟨[some ⟨211,jE p0⟩],[⟨9,1,aY (v13),false⟩]⟩⟩) (fun v13=>⟨[(1,rS p7),(2,aS v13 0),(3,.ptr 0 0),(6,.nil)],⟨[some ⟨211,jE p0⟩],[⟨9,1,aY (v13),false⟩]⟩⟩) (eM H) ?_ ?_
 ·rintro i11 v13 H
  refine gQ 9 ?_;refine cS H (fun h15 h15l H=>?_) (fun h15 H=>?_)
  ·refine gQ 15 ?_;refine dL 43 H (fun g16 H=>?_) fun g16 H=>?_
   ·refine gQ 4 ?_;refine bC H (fun h17 H=>?_) (fun h17 H=>?_)
    ·refine cF H fun z18 H=>(cF H fun z19 H=>(dW (dE [] (qP ([]:LB)) (dI [1] bF (dE [47,48] (lE z18) (dI [3] bW (dB [50] 0 2 uP (dI [51] (hH ([p0.aB9]:LB)) (dE [49,52] (lE z19) (dI [53] bF (dN ?_)))))))))))
     refine gQ 4 ?_;refine fV H fun y20 h21 H=>(q1 (yK h21 h15l) (q1 (iK (aL.cs y20)) ?_))
     refine gQ 2 ?_;refine bK H fun x23 z22 H=>(q1 (eW [] [0] func267 (p9 y20 ((([])++p7)++([p0.aB9]:LB)) v13 _ z22)) ?_)
     exact gE 7
    refine gQ 5 ?_;refine fV H fun y24 h25 H=>(q1 (yK h25 h15l) (q1 (iK (aL.cs y24)) ?_))
    refine gQ 2 ?_;refine bK H fun x27 z26 H=>(q1 (eW [] [0] func267 (p9 y24 p7 v13 _ z26)) ?_)
    exact gE 7
   refine gQ 10 ?_;refine fV H fun y28 h29 H=>(q1 (yK h29 h15l) (q1 (iK (aL.cs y28)) ?_))
   refine gQ 2 ?_;refine bK H fun x31 z30 H=>(q1 (eW [] [0] func267 (p9 y28 p7 v13 _ z30)) ?_)
   exact gE 7
  exact gE 0
 rintro v13 H
 refine gQ 5 ?_;refine cV.fact (cI 0 8 rfl rfl rfl (bU.trs_len _)) (fun hl35=>?_)
 refine bS (σ:=(LB)) (fun i32 v34=>⟨[(1,rS p7),(2,aS v34 0),(3,.ptr 0 0),(6,.nil),(9,pN i32)],⟨[some ⟨211,jE p0⟩],[⟨9,1,aY (v34),false⟩]⟩⟩) (fun v34=>⟨[(2,aS v34 0),(6,.nil)],⟨[some ⟨211,jE p0⟩],[⟨9,1,aY (v34),false⟩]⟩⟩) (eM H) ?_ ?_
 ·rintro i32 v34 H
  refine gQ 9 ?_;refine cS H (fun h36 h36l H=>?_) (fun h36 H=>?_)
  ·refine gQ 3 ?_;refine fV H fun y37 h38 H=>(cF H fun z39 H=>(cF H fun z40 H=>(bK H fun x42 z41 H=>(dW (dI [3] bW (dB [69] 0 3 uP (dI [9] bF (dI [70,71] (yK h38 h36l) (dI [72] w7 (dI [73] (iK (aL.cs y37.aCj)) (dE [] (qP ([]:LB)) (dI [1] bF (dE [75,76] (lE z39) ?_)))))))))))))
   refine dI [3] bW (dB [78] 0 2 uP (dI [9] bF (dI [79,80] (yK h38 h36l) (dI [81] w7 (dI [82] vQ (dE [77,83] (lE z40) (dI [2] bF (dE [74,84,85] (eW [] [0] func267 (p9 y37.aCj ((([])++p7)++y37.aCm) v34 _ z41)) (dI [86] bF (dN ?_))))))))))
   exact gE 5
  exact gE 0
 rintro v34 H
 exact gE 5
def nE:Nat→aL→(LB)→(LB)→Option ((LB))
 |0,_,_,_=>none
 |fu+1,p0,p7,pE=>MU fu (nE fu) p0 p7 pE
theorem acQ(fu:Nat):F7 (nE fu):=by
 induction fu with
 |zero=>exact(fun p0 p7 pE r H=>by simp only [nE] at H;cases H)
 |succ fu ih=>exact(fun p0 p7 pE r H=>by simp only [nE] at H;exact Y7 fu (nE fu) ih p0 p7 pE r H)
theorem agI(fu:Nat):F7 (nE fu):=(acQ fu)
def wQ(fu:Nat)(pe:aL):Option ((LB)):=bd (nE fu pe ([]) ([])) fun x2=>some x2
theorem OV(fu:Nat)(pe:aL)(r:(LB))(H:wQ fu pe=some r):bQ Tryz.prog 261 [(aL.pv pe)] (rS r):=by
 refine qJ func261 H (fun C hC H=>?_)
 refine gQ 2 ?_;refine q1 (fD (jE pe)) ?_;refine gQ 4 ?_;refine q1 (bZ [pI pe.aCb,pS pe.aCg,pS pe.aB9,pI pe.aCR,pI pe.aCd.aCb,pS pe.aCd.aB9,aT pe.aCd.aCa,iS pe.aCa,sL pe.aCu]) ?_
 iterate 2 refine q1 (qP ([]:LB)) ?_
 refine bK H fun x2 z1 H=>(q1 (eW [] [1] func267 (agI fu pe ([]) ([]) _ z1)) ?_)
 exact gE 2
def SW(fu:Nat)(pt:aA)(p4 x2:LB):Nat→Unit→Option (LR Unit Bool):=fun i3 _=>bd (lD fu p4 (aR x2 i3)) fun x7=>sw (!(x7)) (some (.ret false)) (some (.next ()))
def l6(fu:Nat)(pt:aA)(p4:LB):Option Bool:=bd (nU fu pt) fun x2=>so (loopN (SW fu pt p4 x2) (x2.length-0) 0 ()) fun _=>bd (iI fu pt) fun x10=>some x10
theorem rZ(fu:Nat)(pt:aA)(p4:LB)(r:Bool)(H:l6 fu pt p4=some r):bQ Tryz.prog 248 [(aA.pv pt),rS p4] (pB r):=by
 refine qJ func248 H (fun C hC H=>?_)
 refine gQ 2 ?_;refine q1 (fD (bR pt)) ?_;refine gQ 4 ?_;refine q1 (bZ [pI pt.aCb,pS pt.aB9,aT pt.aCa]) (bK H fun x2 z1 H=>(q1 (bE func85 (CW fu pt _ z1)) ?_))
 refine gQ 7 ?_;refine gP 5 (bV _) (fun hl4=>?_)
 refine bS (σ:=Unit) (fun i3 _=>⟨[(1,rS p4),(2,.ptr 0 0),(4,pB false),(5,rS x2),(6,pN i3)],⟨[some ⟨30,bR pt⟩],[]⟩⟩) (fun _=>⟨[(2,.ptr 0 0),(4,pB false)],⟨[some ⟨30,bR pt⟩],[]⟩⟩) (eM H) ?_ ?_
 ·rintro i3 ⟨⟩ H
  refine gQ 8 ?_;refine cS H (fun h5 h5l H=>?_) (fun h5 H=>?_)
  ·refine gQ 10 ?_;refine bK H fun x7 z6 H=>(q1 (bE func153 (mJ fu p4 (aR x2 i3) _ z6)) ?_)
   refine gQ 2 ?_;refine bC H (fun h8 H=>gE 4) fun h8 H=>?_;exact gE 6
  exact gE 0
 rintro⟨⟩ H
 refine gQ 2 ?_;refine q1 (bZ [pI pt.aCb,pS pt.aB9,aT pt.aCa]) (bK H fun x10 z9 H=>(q1 (bE func258 (mI fu pt _ z9)) ?_))
 exact gE 2
def WZ(fu:Nat)(p2:List aA)(p4:LB):Nat→Unit→Option (LR Unit Bool):=fun i1 _=>bd (l6 fu (aR p2 i1) p4) fun x5=>sw (!(x5)) (some (.ret false)) (some (.next ()))
def AR(fu:Nat)(p2:List aA)(p4:LB):Option Bool:=so (loopN (WZ fu p2 p4) (p2.length-0) 0 ()) fun _=>some true
theorem W0(fu:Nat)(p2:List aA)(p4:LB)(r:Bool)(H:AR fu p2 p4=some r):bQ Tryz.prog 247 [aT p2,rS p4] (pB r):=by
 refine qJ func247 H (fun C hC H=>?_)
 refine gQ 9 ?_;refine gP 0 (aA.trs_len _) (fun hl2=>?_)
 refine bS (σ:=Unit) (fun i1 _=>⟨[(0,aT p2),(1,rS p4),(4,pB false),(5,pN i1)],⟨[],[]⟩⟩) (fun _=>⟨[(4,pB false)],⟨[],[]⟩⟩) (eM H) ?_ ?_
 ·rintro i1 ⟨⟩ H
  refine gQ 8 ?_;refine cS H (fun h3 h3l H=>?_) (fun h3 H=>?_)
  ·refine gQ 8 ?_;refine q1 (iK (aA.cs (aR p2 i1))) (q1 bF (bK H fun x5 z4 H=>(q1 (bE func248 (rZ fu (aR p2 i1) p4 _ z4)) ?_)))
   refine gQ 2 ?_;refine bC H (fun h6 H=>gE 4) fun h6 H=>?_;exact gE 6
  exact gE 0
 rintro⟨⟩ H
 exact gE 4
def MZ(fu:Nat)(pe:aL):Option Bool:=bd (kI fu pe (aL.mk 0 s_ s_ 0 (aA.mk 0 s_ []) [] [])) fun x2=>some x2
theorem agW(fu:Nat)(pe:aL)(r:Bool)(H:MZ fu pe=some r):bQ Tryz.prog 257 [(aL.pv pe)] (pB r):=by
 refine qJ func257 H (fun C hC H=>?_)
 refine gQ 2 ?_;refine q1 (fD (jE pe)) ?_;refine gQ 4 ?_;refine q1 (bZ [pI pe.aCb,pS pe.aCg,pS pe.aB9,pI pe.aCR,pI pe.aCd.aCb,pS pe.aCd.aB9,aT pe.aCd.aCa,iS pe.aCa,sL pe.aCu]) (q1 r9 (bK H fun x2 z1 H=>(q1 (bE func263 (YS fu pe (aL.mk 0 s_ s_ 0 (aA.mk 0 s_ []) [] []) _ z1)) ?_)))
 exact gE 2
def gJ(fu:Nat)(p2:LB)(pF:Int):Option Bool:=sw (decide ((p2.length:Int)≤pF)) (bd (GI fu p2) fun x3=>sw x3 (bd (kU fu p2) fun x6=>some x6) (some false)) (some false)
theorem gW(fu:Nat)(p2:LB)(pF:Int)(r:Bool)(H:gJ fu p2 pF=some r):bQ Tryz.prog 206 [rS p2,pI pF] (pB r):=by
 refine qJ func206 H (fun C hC H=>?_)
 refine gQ 11 ?_;refine dL 9 H (fun g1 H=>?_) fun g1 H=>?_
 ·refine qg g1 bF (bK H fun x3 z2 H=>(qg g1 (bE func228 (S3 fu p2 _ z2)) ?_))
  refine gQ 2 ?_;refine dL 13 H (fun g4 H=>?_) fun g4 H=>?_
  ·refine qg g4 bF (bK H fun x6 z5 H=>(qg g4 (bE func207 (mH fu p2 _ z5)) ?_))
   exact gE 3
  exact gE 5
 exact gE 9
def agT(fu:Nat)(pe:aL)(p4 x2:LB):Nat→Unit→Option (LR Unit Bool):=fun i3 _=>bd (lD fu p4 (aR x2 i3)) fun x7=>sw (!(x7)) (some (.ret false)) (some (.next ()))
def BU(fu:Nat)(pe:aL)(p4:LB):Option Bool:=bd (wQ fu pe) fun x2=>so (loopN (agT fu pe p4 x2) (x2.length-0) 0 ()) fun _=>bd (BL fu pe) fun x10=>some x10
theorem IR(fu:Nat)(pe:aL)(p4:LB)(r:Bool)(H:BU fu pe p4=some r):bQ Tryz.prog 252 [(aL.pv pe),rS p4] (pB r):=by
 refine qJ func252 H (fun C hC H=>?_)
 refine gQ 2 ?_;refine q1 (fD (jE pe)) ?_;refine gQ 4 ?_;refine q1 (bZ [pI pe.aCb,pS pe.aCg,pS pe.aB9,pI pe.aCR,pI pe.aCd.aCb,pS pe.aCd.aB9,aT pe.aCd.aCa,iS pe.aCa,sL pe.aCu]) (bK H fun x2 z1 H=>(q1 (bE func261 (OV fu pe _ z1)) ?_))
 refine gQ 7 ?_;refine gP 5 (bV _) (fun hl4=>?_)
 refine bS (σ:=Unit) (fun i3 _=>⟨[(1,rS p4),(2,.ptr 0 0),(4,pB false),(5,rS x2),(6,pN i3)],⟨[some ⟨211,jE pe⟩],[]⟩⟩) (fun _=>⟨[(2,.ptr 0 0),(4,pB false)],⟨[some ⟨211,jE pe⟩],[]⟩⟩) (eM H) ?_ ?_
 ·rintro i3 ⟨⟩ H
  refine gQ 8 ?_;refine cS H (fun h5 h5l H=>?_) (fun h5 H=>?_)
  ·refine gQ 10 ?_;refine bK H fun x7 z6 H=>(q1 (bE func153 (mJ fu p4 (aR x2 i3) _ z6)) ?_)
   refine gQ 2 ?_;refine bC H (fun h8 H=>gE 4) fun h8 H=>?_;exact gE 6
  exact gE 0
 rintro⟨⟩ H
 refine gQ 2 ?_;refine q1 (bZ [pI pe.aCb,pS pe.aCg,pS pe.aB9,pI pe.aCR,pI pe.aCd.aCb,pS pe.aCd.aB9,aT pe.aCd.aCa,iS pe.aCa,sL pe.aCu]) (bK H fun x10 z9 H=>(q1 (bE func262 (TV fu pe _ z9)) ?_))
 exact gE 2
def RY(fu:Nat)(ps:aE):Option Bool:=bd (c7 fu ps.aB9) fun x2=>sw (!(x2)) (some false) (sw (decide ((ps.aCt.length:Int)>4)) (some false) (bd (AR fu ps.aCt ([kA]:LB)) fun x6=>sw (!(x6)) (some false) (bd (l6 fu ps.aCr ([kA]:LB)) fun x9=>sw (!(x9)) (some false) (sw (!(ps.aCI)) (sw (decide ((ps.aCm.length:Int)=0)) (bd (MZ fu ps.aCj) fun x14=>some x14) (some false)) (bd (gJ fu ps.aCm 5) fun x16=>sw x16 (sw (decide ((ps.aCm.length:Int)=aX ((ps.aCt.length:Int)+1))) (bd (BU fu ps.aCj ps.aCm) fun x20=>some x20) (some false)) (some false))))))
theorem ajG(fu:Nat)(ps:aE)(r:Bool)(H:RY fu ps=some r):bQ Tryz.prog 246 [(aE.pv ps)] (pB r):=by
 refine qJ func246 H (fun C hC H=>?_)
 refine gQ 2 ?_;refine q1 (fD (ah9 ps)) ?_;refine gQ 7 ?_;refine bK H fun x2 z1 H=>(q1 (bE func205 (eD fu ps.aB9 _ z1)) ?_)
 refine gQ 2 ?_;refine dL 7 H (fun g3 H=>gE 25) fun g3 H=>?_;refine gQ 6 ?_;refine dL 13 H (fun g4 H=>gE 19) fun g4 H=>?_;refine gQ 2 ?_;refine qg g4 (hH ([kA]:LB)) (bK H fun x6 z5 H=>(qg g4 (bE func247 (W0 fu ps.aCt ([kA]:LB) _ z5)) ?_))
 refine gQ 3 ?_;refine dL 20 H (fun g7 H=>gE 12) fun g7 H=>?_;refine qg g7 bW (qg g7 (bZ [pI ps.aCr.aCb,pS ps.aCr.aB9,aT ps.aCr.aCa]) (qg g7 (hH ([kA]:LB)) (bK H fun x9 z8 H=>(qg g7 (bE func248 (rZ fu ps.aCr ([kA]:LB) _ z8)) ?_))))
 refine gQ 3 ?_;refine bC H (fun h10 H=>gE 4) fun h10 H=>?_;refine gQ 8 ?_;refine bC H (fun h11 H=>?_) (fun h11 H=>?_)
 ·refine gQ 7 ?_;refine dL 34 H (fun g12 H=>?_) fun g12 H=>?_
  ·refine qg g12 bW (qg g12 (bZ [pI ps.aCj.aCb,pS ps.aCj.aCg,pS ps.aCj.aB9,pI ps.aCj.aCR,pI ps.aCj.aCd.aCb,pS ps.aCj.aCd.aB9,aT ps.aCj.aCd.aCa,iS ps.aCj.aCa,sL ps.aCj.aCu]) (bK H fun x14 z13 H=>(qg g12 (bE func257 (agW fu ps.aCj _ z13)) ?_)))
   exact gE 3
  exact gE 6
 refine gQ 5 ?_;refine bK H fun x16 z15 H=>(q1 (bE func206 (gW fu ps.aCm 5 _ z15)) (q1 bF ?_))
 refine dL 42 H (fun g17 H=>?_) fun g17 H=>?_
 ·refine gQ 6 ?_;refine qg g17 rAw ?_;refine gQ 3 ?_;refine dL 52 H (fun g18 H=>?_) fun g18 H=>?_
  ·refine qg g18 bW (qg g18 (bZ [pI ps.aCj.aCb,pS ps.aCj.aCg,pS ps.aCj.aB9,pI ps.aCj.aCR,pI ps.aCj.aCd.aCb,pS ps.aCj.aCd.aB9,aT ps.aCj.aCd.aCa,iS ps.aCj.aCa,sL ps.aCj.aCu]) ?_)
   refine gQ 2 ?_;refine bK H fun x20 z19 H=>(qg g18 (bE func252 (IR fu ps.aCj ps.aCm _ z19)) ?_)
   exact gE 3
  exact gE 8
 exact gE 18
def RC(fu:Nat)(pt:aU):Nat→((LB))→Option (LR ((LB)) Bool):=fun i1 v3=>lt (aR pt.aCv i1) fun y6=>bd (RY fu y6) fun x9=>sw (!(x9)) (some (.ret false)) (gd ((v3).length+(([y6.aB9]:LB)).length≤68719476736) (some (.next (v3++([y6.aB9]:LB)))))
def tR(fu:Nat)(pt:aU):Option Bool:=so (loopN (RC fu pt) (pt.aCv.length-0) 0 ([])) fun v3=>sw (pt.aCG) (sw (pt.aCp) (some false) (sw (decide ((pt.aCv.length:Int)>0)) (some false) (sw (decide ((pt.aCi.length:Int)>0)) (some false) (bd (c7 fu pt.aB9) fun x17=>sw x17 (bd (gJ fu pt.aCi 4) fun x20=>sw x20 (bd (gJ fu v3 6) fun x23=>some x23) (some false)) (some false))))) (bd (c7 fu pt.aB9) fun x25=>sw x25 (bd (gJ fu pt.aCi 4) fun x28=>sw x28 (bd (gJ fu v3 6) fun x31=>some x31) (some false)) (some false))
theorem EV(fu:Nat)(pt:aU)(r:Bool)(H:tR fu pt=some r):bQ Tryz.prog 229 [(aU.pv pt)] (pB r):=by
 refine qJ func229 H (fun C hC H=>?_)
 refine gQ 2 ?_;refine q1 (fD (s5 pt)) ?_;refine gQ 4 ?_;refine q1 (qP ([]:LB)) ?_;refine gQ 7 ?_;refine cV.fact (cI 0 4 rfl rfl rfl (aE.trs_len _)) (fun hl4=>?_)
 refine bS (σ:=(LB)) (fun i1 v3=>⟨[(1,.ptr 0 0),(2,pB false),(3,aS v3 0),(4,pN i1)],⟨[some ⟨156,s5 pt⟩],[⟨9,1,aY (v3),false⟩]⟩⟩) (fun v3=>⟨[(1,.ptr 0 0),(2,pB false),(3,aS v3 0)],⟨[some ⟨156,s5 pt⟩],[⟨9,1,aY (v3),false⟩]⟩⟩) (eM H) ?_ ?_
 ·rintro i1 v3 H
  refine gQ 9 ?_;refine cS H (fun h5 h5l H=>?_) (fun h5 H=>?_)
  ·refine gQ 9 ?_;refine fV H fun y6 h7 H=>(q1 (yK h7 h5l) (q1 (iK (aE.cs y6)) (bK H fun x9 z8 H=>(q1 (bE func246 (ajG fu y6 _ z8)) ?_))))
   refine gQ 2 ?_;refine bC H (fun h10 H=>gE 4) fun h10 H=>?_;refine gQ 6 ?_;refine q1 (yK h7 h5l) ?_;refine gQ 2 ?_;refine q1 (hH ([y6.aB9]:LB)) (cF H fun z11 H=>(q1 (lE z11) ?_))
   exact gE 7
  exact gE 0
 rintro v3 H
 refine gQ 6 ?_;refine dL 31 H (fun g12 H=>?_) fun g12 H=>?_
 ·refine gQ 3 ?_;refine dL 34 H (fun g13 H=>gE 18) fun g13 H=>?_;refine gQ 6 ?_;refine dL 40 H (fun g14 H=>gE 12) fun g14 H=>?_;refine gQ 7 ?_;refine bC H (fun h15 H=>gE 4) fun h15 H=>?_;refine gQ 5 ?_;refine bK H fun x17 z16 H=>(q1 (bE func205 (eD fu pt.aB9 _ z16)) (q1 bF ?_))
  refine dL 50 H (fun g18 H=>?_) fun g18 H=>?_
  ·refine gQ 2 ?_;refine bK H fun x20 z19 H=>(qg g18 (bE func206 (gW fu pt.aCi 4 _ z19)) ?_)
   refine gQ 2 ?_;refine dL 55 H (fun g21 H=>?_) fun g21 H=>?_
   ·refine qg g21 bF (bK H fun x23 z22 H=>(qg g21 (bE func206 (gW fu v3 6 _ z22)) ?_))
    exact gE 3
   exact gE 5
  exact gE 10
 refine gQ 22 ?_;refine bK H fun x25 z24 H=>(q1 (bE func205 (eD fu pt.aB9 _ z24)) (q1 bF ?_))
 refine dL 50 H (fun g26 H=>?_) fun g26 H=>?_
 ·refine gQ 2 ?_;refine bK H fun x28 z27 H=>(qg g26 (bE func206 (gW fu pt.aCi 4 _ z27)) ?_)
  refine gQ 2 ?_;refine dL 55 H (fun g29 H=>?_) fun g29 H=>?_
  ·refine qg g29 bF (bK H fun x31 z30 H=>(qg g29 (bE func206 (gW fu v3 6 _ z30)) ?_))
   exact gE 3
  exact gE 5
 exact gE 10
def zI(fu:Nat)(pd:aN):Nat→((LB))→Option (LR ((LB)) Bool):=fun i1 v3=>sw (decide ((((((aR pd.aCe i1).aCs).length:Nat):Int):Int)>4)) (some (.ret false)) (bd (AR fu ((aR pd.aCe i1).aCs) pd.aCm) fun x8=>sw (!(x8)) (some (.ret false)) (gd ((v3).length+(([((aR pd.aCe i1).aB9)]:LB)).length≤68719476736) (some (.next (v3++([((aR pd.aCe i1).aB9)]:LB))))))
def j8(fu:Nat)(pd:aN):Option Bool:=so (loopN (zI fu pd) (pd.aCe.length-0) 0 ([])) fun v3=>bd (c7 fu pd.aB9) fun x12=>sw x12 (bd (gJ fu pd.aCm 3) fun x15=>sw x15 (sw (decide ((v3.length:Int)>0)) (bd (gJ fu v3 5) fun x19=>some x19) (some false)) (some false)) (some false)
theorem zJ(fu:Nat)(pd:aN)(r:Bool)(H:j8 fu pd=some r):bQ Tryz.prog 230 [(aN.pv pd)] (pB r):=by
 refine qJ func230 H (fun C hC H=>?_)
 refine gQ 2 ?_;refine q1 (fD (jH pd)) ?_;refine gQ 4 ?_;refine q1 (qP ([]:LB)) ?_;refine gQ 7 ?_;refine cV.fact (cI 0 2 rfl rfl rfl (aD.trs_len _)) (fun hl4=>?_)
 refine bS (σ:=(LB)) (fun i1 v3=>⟨[(1,.ptr 0 0),(2,pB false),(3,aS v3 0),(4,pN i1)],⟨[some ⟨39,jH pd⟩],[⟨9,1,aY (v3),false⟩]⟩⟩) (fun v3=>⟨[(1,.ptr 0 0),(2,pB false),(3,aS v3 0)],⟨[some ⟨39,jH pd⟩],[⟨9,1,aY (v3),false⟩]⟩⟩) (eM H) ?_ ?_
 ·rintro i1 v3 H
  refine gQ 9 ?_;refine cS H (fun h5 h5l H=>?_) (fun h5 H=>?_)
  ·refine gQ 5 ?_
   rcases o3 (decide ((((((aR pd.aCe i1).aCs).length:Nat):Int):Int)>4)) with g6|g6
   ·have H:=s9 H g6
    refine dW (dI [1] bW (dD [13] eE (dI [4] bF (dI [14,15] qQ (dI [16] w7 (dI [17] vQ (dI [18] XW (dI [19] rGt (dI [20] bF ?_)))))))))
    iterate 10 refine NF g6 ?_
    refine dI [21] (DU g6) (dN ?_)
    exact gE 5
   have H:=s8 H g6
   refine bK H fun x8 z7 H=>(dW (dI [1] bW (dD [13] eE (dI [4] bF (dI [14,15] qQ (dI [16] w7 (dI [17] vQ (dI [18] XW (dI [19] rGt (dI [20] bF (dI (hg:=bD g6) [1] bW (dD (hg:=bD g6) [22] eE (dI (hg:=bD g6) [4] bF ?_)))))))))))))
   refine dI (hg:=bD g6) [23,24] qQ (dI (hg:=bD g6) [25] w7 (dI (hg:=bD g6) [26] vQ (dI (hg:=bD g6) [1] bW (dD (hg:=bD g6) [28] eE (dI (hg:=bD g6) [27,29] (bE func247 (W0 fu ((aR pd.aCe i1).aCs) pd.aCm _ z7)) (dI (hg:=bD g6) [30] JN (dI [21,31] (FX g6) (dN ?_))))))))
   refine bC H (fun h9 H=>gE 4) fun h9 H=>?_;refine gQ 9 ?_;refine q1 (hH ([((aR pd.aCe i1).aB9)]:LB)) (cF H fun z10 H=>(q1 (lE z10) ?_))
   exact gE 7
  exact gE 0
 rintro v3 H
 refine gQ 4 ?_;refine bK H fun x12 z11 H=>(q1 (bE func205 (eD fu pd.aB9 _ z11)) (q1 bF ?_))
 refine dL 45 H (fun g13 H=>?_) fun g13 H=>?_
 ·refine gQ 2 ?_;refine bK H fun x15 z14 H=>(qg g13 (bE func206 (gW fu pd.aCm 3 _ z14)) ?_)
  refine gQ 2 ?_;refine dL 50 H (fun g16 H=>?_) fun g16 H=>?_
  ·refine gQ 5 ?_;refine dL 55 H (fun g17 H=>?_) fun g17 H=>?_
   ·refine qg g17 bF (bK H fun x19 z18 H=>(qg g17 (bE func206 (gW fu v3 5 _ z18)) ?_))
    exact gE 3
   exact gE 5
  exact gE 10
 exact gE 15
def y2(fu:Nat)(pb:aG):Option Bool:=bd (c7 fu pb.aCg) fun x2=>sw x2 (bd (iI fu pb.aCd) fun x5=>some x5) (some false)
theorem RB(fu:Nat)(pb:aG)(r:Bool)(H:y2 fu pb=some r):bQ Tryz.prog 259 [(aG.pv pb)] (pB r):=by
 refine qJ func259 H (fun C hC H=>?_)
 refine gQ 2 ?_;refine q1 (fD (dK pb)) ?_;refine gQ 6 ?_;refine bK H fun x2 z1 H=>(q1 (bE func205 (eD fu pb.aCg _ z1)) (q1 bF ?_))
 refine dL 6 H (fun g3 H=>?_) fun g3 H=>?_
 ·refine qg g3 bW (qg g3 (bZ [pI pb.aCd.aCb,pS pb.aCd.aB9,aT pb.aCd.aCa]) (bK H fun x5 z4 H=>(qg g3 (bE func258 (mI fu pb.aCd _ z4)) ?_)))
  exact gE 3
 exact gE 6
def O3(fu:Nat)(p2:List aG)(p4:LB):Nat→Unit→Option (LR Unit Bool):=fun i1 _=>bd (y2 fu (aR p2 i1)) fun x5=>sw (!(x5)) (some (.ret false)) (bd (l6 fu ((aR p2 i1).aCd) p4) fun x8=>sw (!(x8)) (some (.ret false)) (bd (dM fu ((aR p2 i1).aCd)) fun x11=>sw x11 (some (.ret false)) (some (.next ()))))
def uL(fu:Nat)(p2:List aG)(p4:LB):Option Bool:=so (loopN (O3 fu p2 p4) (p2.length-0) 0 ()) fun _=>some (decide ((p2.length:Int)≤4))
theorem O4(fu:Nat)(p2:List aG)(p4:LB)(r:Bool)(H:uL fu p2 p4=some r):bQ Tryz.prog 249 [cK p2,rS p4] (pB r):=by
 refine qJ func249 H (fun C hC H=>?_)
 refine gQ 9 ?_;refine gP 0 (aG.trs_len _) (fun hl2=>?_)
 refine bS (σ:=Unit) (fun i1 _=>⟨[(0,cK p2),(1,rS p4),(4,pB false),(5,pN i1)],⟨[],[]⟩⟩) (fun _=>⟨[(0,cK p2),(4,pB false)],⟨[],[]⟩⟩) (eM H) ?_ ?_
 ·rintro i1 ⟨⟩ H
  refine gQ 8 ?_;refine cS H (fun h3 h3l H=>?_) (fun h3 H=>?_)
  ·refine gQ 8 ?_;refine q1 (iK (aG.cs (aR p2 i1))) (bK H fun x5 z4 H=>(q1 (bE func259 (RB fu (aR p2 i1) _ z4)) ?_))
   refine gQ 2 ?_;refine dL 18 H (fun g6 H=>gE 23) fun g6 H=>?_;refine gQ 4 ?_;refine qg g6 (iK (aA.cs ((aR p2 i1).aCd))) (qg g6 bF (bK H fun x8 z7 H=>(qg g6 (bE func248 (rZ fu ((aR p2 i1).aCd) p4 _ z7)) ?_)))
   refine gQ 3 ?_;refine dL 28 H (fun g9 H=>gE 13) fun g9 H=>?_;refine gQ 4 ?_;refine qg g9 (iK (aA.cs ((aR p2 i1).aCd))) (bK H fun x11 z10 H=>(qg g9 (bE func86 (vG fu ((aR p2 i1).aCd) _ z10)) ?_))
   refine gQ 2 ?_;refine bC H (fun h12 H=>gE 4) fun h12 H=>?_;exact gE 6
  exact gE 0
 rintro⟨⟩ H
 exact gE 7
def zM(fu:Nat)(p0:aI)(x2 x5 x8 x11 x15:Bool):Nat→Unit→Option (LR Unit Bool):=fun i17 _=>bd (IK fu (aR p0.aCm i17) p0.aCn) fun x21=>sw (!(x21)) (some (.ret false)) (some (.next ()))
def zL(fu:Nat)(p0:aI)(x2 x5 x8 x11 x15:Bool):Option (Bool⊕Unit):=sw (p0.aCD) (bd (l6 fu p0.aCp p0.aCm) fun x25=>sw (!(x25)) (some (.inl false)) (some (.inr ()))) (bd (oO fu p0.aCp) fun x28=>sw (!(x28)) (some (.inl false)) (some (.inr ())))
def zN(fu:Nat)(p0:aI)(x2 x5 x8 x11 x15:Bool):Nat→((LB))→Option (LR ((LB)) Bool):=fun i30 v32=>lt (aR p0.aCA i30) fun y35=>sw (decide ((y35.aCm.length:Int)=0)) (some (.ret false)) (bd (gJ fu y35.aCm 5) fun x39=>sw (!(x39)) (some (.ret false)) (bd (BU fu y35.aCj y35.aCm) fun x42=>sw (!(x42)) (some (.ret false)) (gd ((v32).length+(([y35.aB9]:LB)).length≤68719476736) (some (.next (v32++([y35.aB9]:LB)))))))
def j9(fu:Nat)(p0:aI):Option Bool:=bd (c7 fu p0.aCg) fun x2=>sw (!(x2)) (some false) (bd (gJ fu p0.aCm 3) fun x5=>sw (!(x5)) (some false) (bd (l6 fu p0.aCn p0.aCm) fun x8=>sw (!(x8)) (some false) (bd (dM fu p0.aCn) fun x11=>sw x11 (some false) (sw (decide (p0.aCn.aCb=4)) (some false) (bd (uL fu p0.aCq p0.aCm) fun x15=>sw (!(x15)) (some false) (so (loopN (zM fu p0 x2 x5 x8 x11 x15) (p0.aCm.length-0) 0 ()) fun _=>so (zL fu p0 x2 x5 x8 x11 x15) fun _=>so (loopN (zN fu p0 x2 x5 x8 x11 x15) (p0.aCA.length-0) 0 ([])) fun v32=>bd (gJ fu v32 6) fun x46=>some x46))))))
theorem zO(fu:Nat)(p0:aI)(r:Bool)(H:j9 fu p0=some r):bQ Tryz.prog 231 [(aI.pv p0)] (pB r):=by
 refine qJ func231 H (fun C hC H=>?_)
 refine gQ 2 ?_;refine q1 (fD (c8 p0)) ?_;refine gQ 7 ?_;refine bK H fun x2 z1 H=>(q1 (bE func205 (eD fu p0.aCg _ z1)) ?_)
 refine gQ 2 ?_;refine dL 11 H (fun g3 H=>gE 38) fun g3 H=>?_;refine gQ 2 ?_;refine bK H fun x5 z4 H=>(qg g3 (bE func206 (gW fu p0.aCm 3 _ z4)) ?_)
 refine gQ 3 ?_;refine dL 17 H (fun g6 H=>gE 32) fun g6 H=>?_;refine qg g6 bW (qg g6 (bZ [pI p0.aCn.aCb,pS p0.aCn.aB9,aT p0.aCn.aCa]) ?_)
 refine gQ 2 ?_;refine bK H fun x8 z7 H=>(qg g6 (bE func248 (rZ fu p0.aCn p0.aCm _ z7)) ?_)
 refine gQ 3 ?_;refine dL 25 H (fun g9 H=>gE 24) fun g9 H=>?_;refine qg g9 bW (qg g9 (bZ [pI p0.aCn.aCb,pS p0.aCn.aB9,aT p0.aCn.aCa]) (bK H fun x11 z10 H=>(qg g9 (bE func86 (vG fu p0.aCn _ z10)) ?_)))
 refine gQ 2 ?_;refine dL 30 H (fun g12 H=>gE 19) fun g12 H=>?_;refine gQ 6 ?_;refine dL 36 H (fun g13 H=>gE 13) fun g13 H=>?_;refine gQ 4 ?_;refine bK H fun x15 z14 H=>(qg g13 (bE func249 (O4 fu p0.aCq p0.aCm _ z14)) ?_)
 refine gQ 3 ?_;refine bC H (fun h16 H=>gE 4) fun h16 H=>?_;refine gQ 6 ?_;refine gP 13 (bV _) (fun hl18=>?_)
 refine bS (σ:=Unit) (fun i17 _=>⟨[(1,.ptr 0 0),(2,pB false),(3,pN i17)],⟨[some ⟨163,c8 p0⟩],[]⟩⟩) (fun _=>⟨[(1,.ptr 0 0),(2,pB false)],⟨[some ⟨163,c8 p0⟩],[]⟩⟩) (eM H) ?_ ?_
 ·rintro i17 ⟨⟩ H
  refine gQ 9 ?_;refine cS H (fun h19 h19l H=>?_) (fun h19 H=>?_)
  ·refine gQ 4 ?_;refine bK H fun x21 z20 H=>(dW (dI [1] bW (dD [51] eE (dI [3] bF (dI [52,53] qQ (dI [54] vQ (dI [1] bW (dD [56] (bZ [pI p0.aCn.aCb,pS p0.aCn.aB9,aT p0.aCn.aCa]) (dI [55,57] (bE func250 (acL fu (aR p0.aCm i17) p0.aCn _ z20)) (dI [58] JN (dN ?_)))))))))))
   refine bC H (fun h22 H=>gE 4) fun h22 H=>?_;exact gE 6
  exact gE 0
 rintro⟨⟩ H
 refine qS ?_;refine n3 (σ:=Unit) (fun _=>⟨[(1,.ptr 0 0),(2,pB false)],⟨[some ⟨163,c8 p0⟩],[]⟩⟩) (eM H) (fun H=>?_) ?_
 ·refine gQ 5 ?_;refine dL 62 H (fun g23 H=>?_) fun g23 H=>?_
  ·refine qg g23 bW (qg g23 (bZ [pI p0.aCp.aCb,pS p0.aCp.aB9,aT p0.aCp.aCa]) ?_)
   refine gQ 2 ?_;refine bK H fun x25 z24 H=>(qg g23 (bE func248 (rZ fu p0.aCp p0.aCm _ z24)) ?_)
   refine gQ 3 ?_;refine dL 70 H (fun g26 H=>gE 16) fun g26 H=>?_;refine gQ 4 ?_
   iterate 4 refine qk (congrArg (fun b=> !b) g23) ?_
   refine qg g26 (FX (congrArg (fun b=> !b) g23)) ?_;exact gE 4
  refine gQ 12 ?_;refine qg (congrArg (fun b=> !b) g23) bW (qg (congrArg (fun b=> !b) g23) (bZ [pI p0.aCp.aCb,pS p0.aCp.aB9,aT p0.aCp.aCa]) (bK H fun x28 z27 H=>(qg (congrArg (fun b=> !b) g23) (bE func251 (xZ fu p0.aCp _ z27)) (qg (congrArg (fun b=> !b) g23) JN (qg rfl (DU (congrArg (fun b=> !b) g23)) ?_)))))
  refine gQ 2 ?_;refine bC H (fun h29 H=>gE 4) fun h29 H=>?_;exact gE 1
 rintro⟨⟩ H
 refine gQ 2 ?_;refine q1 (qP ([]:LB)) ?_;refine gQ 7 ?_;refine cV.fact (cI 0 11 rfl rfl rfl (aQ.trs_len _)) (fun hl33=>?_)
 refine bS (σ:=(LB)) (fun i30 v32=>⟨[(1,.ptr 0 0),(2,pB false),(4,aS v32 0),(5,pN i30)],⟨[some ⟨163,c8 p0⟩],[⟨9,1,aY (v32),false⟩]⟩⟩) (fun v32=>⟨[(2,pB false),(4,aS v32 0)],⟨[some ⟨163,c8 p0⟩],[⟨9,1,aY (v32),false⟩]⟩⟩) (eM H) ?_ ?_
 ·rintro i30 v32 H
  refine gQ 9 ?_;refine cS H (fun h34 h34l H=>?_) (fun h34 H=>?_)
  ·refine gQ 8 ?_;refine fV H fun y35 h36 H=>(q1 (yK h36 h34l) (q1 (iK (aQ.cs y35)) ?_))
   refine gQ 11 ?_;refine dL 98 H (fun g37 H=>gE 19) fun g37 H=>?_;refine gQ 2 ?_;refine bK H fun x39 z38 H=>(qg g37 (bE func206 (gW fu y35.aCm 5 _ z38)) ?_)
   refine gQ 3 ?_;refine dL 104 H (fun g40 H=>gE 13) fun g40 H=>?_;refine qg g40 bW (qg g40 (bZ [pI y35.aCj.aCb,pS y35.aCj.aCg,pS y35.aCj.aB9,pI y35.aCj.aCR,pI y35.aCj.aCd.aCb,pS y35.aCj.aCd.aB9,aT y35.aCj.aCd.aCa,iS y35.aCj.aCa,sL y35.aCj.aCu]) ?_)
   refine gQ 2 ?_;refine bK H fun x42 z41 H=>(qg g40 (bE func252 (IR fu y35.aCj y35.aCm _ z41)) ?_)
   refine gQ 3 ?_;refine bC H (fun h43 H=>gE 4) fun h43 H=>?_;refine gQ 5 ?_;refine q1 (hH ([y35.aB9]:LB)) (cF H fun z44 H=>(q1 (lE z44) ?_))
   exact gE 7
  exact gE 0
 rintro v32 H
 refine gQ 3 ?_;refine bK H fun x46 z45 H=>(q1 (bE func206 (gW fu v32 6 _ z45)) ?_)
 exact gE 2
def KQ(fu:Nat)(pf:aO):Nat→((LB))→Option (LR ((LB)) Bool):=fun i1 v3=>bd (l6 fu ((aR pf.aCt i1).aCd) pf.aCm) fun x7=>sw (!(x7)) (some (.ret false)) (gd ((v3).length+(([((aR pf.aCt i1).aB9)]:LB)).length≤68719476736) (some (.next (v3++([((aR pf.aCt i1).aB9)]:LB)))))
def oM(fu:Nat)(pf:aO):Option Bool:=so (loopN (KQ fu pf) (pf.aCt.length-0) 0 ([])) fun v3=>bd (c7 fu pf.aB9) fun x11=>sw x11 (bd (gJ fu pf.aCm 3) fun x14=>sw x14 (bd (uL fu pf.aCq pf.aCm) fun x17=>sw x17 (bd (gJ fu v3 5) fun x20=>sw x20 (bd (l6 fu pf.aCr pf.aCm) fun x23=>sw x23 (bd (BU fu pf.aCj v3) fun x26=>some x26) (some false)) (some false)) (some false)) (some false)) (some false)
theorem zK(fu:Nat)(pf:aO)(r:Bool)(H:oM fu pf=some r):bQ Tryz.prog 232 [(aO.pv pf)] (pB r):=by
 refine qJ func232 H (fun C hC H=>?_)
 refine gQ 2 ?_;refine q1 (fD (AK pf)) ?_;refine gQ 4 ?_;refine q1 (qP ([]:LB)) ?_;refine gQ 7 ?_;refine cV.fact (cI 0 3 rfl rfl rfl (aV.trs_len _)) (fun hl4=>?_)
 refine bS (σ:=(LB)) (fun i1 v3=>⟨[(1,.ptr 0 0),(2,pB false),(3,aS v3 0),(4,pN i1)],⟨[some ⟨213,AK pf⟩],[⟨9,1,aY (v3),false⟩]⟩⟩) (fun v3=>⟨[(1,.ptr 0 0),(2,pB false),(3,aS v3 0)],⟨[some ⟨213,AK pf⟩],[⟨9,1,aY (v3),false⟩]⟩⟩) (eM H) ?_ ?_
 ·rintro i1 v3 H
  refine gQ 9 ?_;refine cS H (fun h5 h5l H=>?_) (fun h5 H=>?_)
  ·refine gQ 5 ?_;refine bK H fun x7 z6 H=>(dW (dI [1] bW (dD [13] eE (dI [4] bF (dI [14,15] qQ (dI [16] w7 (dI [17] (iK (aA.cs ((aR pf.aCt i1).aCd))) (dI [1] bW (dD [19] eE (dI [18,20] (bE func248 (rZ fu ((aR pf.aCt i1).aCd) pf.aCm _ z6)) (dI [21] JN (dN ?_))))))))))))
   refine bC H (fun h8 H=>gE 4) fun h8 H=>?_;refine gQ 9 ?_;refine q1 (hH ([((aR pf.aCt i1).aB9)]:LB)) (cF H fun z9 H=>(q1 (lE z9) ?_))
   exact gE 7
  exact gE 0
 rintro v3 H
 refine gQ 4 ?_;refine bK H fun x11 z10 H=>(q1 (bE func205 (eD fu pf.aB9 _ z10)) (q1 bF ?_))
 refine dL 35 H (fun g12 H=>?_) fun g12 H=>?_
 ·refine gQ 2 ?_;refine bK H fun x14 z13 H=>(qg g12 (bE func206 (gW fu pf.aCm 3 _ z13)) ?_)
  refine gQ 2 ?_;refine dL 40 H (fun g15 H=>?_) fun g15 H=>?_
  ·refine gQ 4 ?_;refine bK H fun x17 z16 H=>(qg g15 (bE func249 (O4 fu pf.aCq pf.aCm _ z16)) ?_)
   refine gQ 2 ?_;refine dL 47 H (fun g18 H=>?_) fun g18 H=>?_
   ·refine qg g18 bF (bK H fun x20 z19 H=>(qg g18 (bE func206 (gW fu v3 5 _ z19)) ?_))
    refine gQ 2 ?_;refine dL 51 H (fun g21 H=>?_) fun g21 H=>?_
    ·refine qg g21 bW (qg g21 (bZ [pI pf.aCr.aCb,pS pf.aCr.aB9,aT pf.aCr.aCa]) ?_)
     refine gQ 2 ?_;refine bK H fun x23 z22 H=>(qg g21 (bE func248 (rZ fu pf.aCr pf.aCm _ z22)) ?_)
     refine gQ 2 ?_;refine dL 58 H (fun g24 H=>?_) fun g24 H=>?_
     ·refine qg g24 bW (qg g24 (bZ [pI pf.aCj.aCb,pS pf.aCj.aCg,pS pf.aCj.aB9,pI pf.aCj.aCR,pI pf.aCj.aCd.aCb,pS pf.aCj.aCd.aB9,aT pf.aCj.aCd.aCa,iS pf.aCj.aCa,sL pf.aCj.aCu]) (qg g24 bF (bK H fun x26 z25 H=>(qg g24 (bE func252 (IR fu pf.aCj v3 _ z25)) ?_))))
      exact gE 3
     exact gE 7
    exact gE 14
   exact gE 18
  exact gE 25
 exact gE 30
end
end Go.Proofs.YtfcoaagbccmahaaGreat.W
