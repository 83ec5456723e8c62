/- The reference's parser, pG 4. No conditions. -/
import Derived.Test.YtfcoaagbccmahaaGreatQha72566a6
set_option linter.unusedSimpArgs false
set_option linter.unusedVariables false
namespace Go.Proofs.YtfcoaagbccmahaaGreat.W
set_option maxRecDepth 100000
set_option maxHeartbeats 40000000
noncomputable section
open Tryz Go.RowKit Go.Proofs
attribute [local irreducible] lt
abbrev uS:=aL→Int→Option Int
def G4(m:uS):Prop:= ∀(pe:aL) (p8:Int) (r:Int),m pe p8=some r→bS prog 268 [(aL.pv pe),pI p8] (pI r:PV)
def ahQ(fu:Nat)(p6:uS)(pe:aL)(p8:Int):Nat→Int→J (LR Int Int):=fun i1 v2=>sw (decide (v2≥0)) (lt (aR pe.aD5 i1) fun y6=>bd (p6 y6 v2) fun x9=>some (.next x9)) (some (.brk v2))
def ahR(fu:Nat)(p6:uS)(pe:aL)(p8 v2:Int):Nat→Int→J (LR Int Int):=fun i10 v11=>sw (decide (v11≥0)) (lt (aR pe.aEo i10) fun y15=>bd (p6 y15.aEe v11) fun x18=>some (.next x18)) (some (.brk v11))
def N4(fu:Nat)(p6:uS)(pe:aL)(p8:Int):J Int:=so (loopN (ahQ fu p6 pe p8) (pe.aD5.length-0) 0 (aW (p8-1))) fun v2=>so (loopN (ahR fu p6 pe p8 v2) (pe.aEo.length-0) 0 v2) fun v11=>some v11
theorem aaH(fu:Nat)(p6:uS)(pC:G4 p6):G4 (N4 fu p6):=by
 intro pe p8 r H
 refine qJ func268 H (fun C hC H=>?_)
 refine gQ 2 ?_;refine q1 (fN (jR pe)) ?_;refine gQ 13 ?_;refine c7.fact (cQ 0 7 rfl rfl rfl (aL.trs_len _)) (fun hl3=>?_)
 refine bV (σ:=Int) (fun i1 v2=>⟨[(1,pI v2),(2,.ptr 0 0),(4,pI 0),(5,pN i1)],⟨[some ⟨211,jR pe⟩],[]⟩⟩) (fun v2=>⟨[(1,pI v2),(2,.ptr 0 0),(4,pI 0)],⟨[some ⟨211,jR pe⟩],[]⟩⟩) (eX H) ?_ ?_
 ·rintro i1 v2 H
  refine gQ 9 ?_;refine AL.splitB 14 rfl (fun g4=>?_) (fun g4=>?_)
  ·have g4l:=xF g4
   have H:=lnT g4l H
   have g4n:=BH g4
   refine gQ 4 ?_;refine bE H (fun h5 H=>?_) (fun h5 H=>?_)
   ·refine gQ 7 ?_;refine gI H fun y6 h7 H=>(q1 (zM h7 g4n) (q1 (iR (aL.cs y6)) (q1 bG (bM H fun x9 z8 H=>(q1 (bI func268 (pC y6 v2 _ z8)) ?_)))))
    exact gE 7
   exact gE 0
  have H:=lnE (xE g4) H
  exact gE 5
 rintro v2 H
 refine gQ 5 ?_;refine c7.fact (cQ 0 8 rfl rfl rfl (bW.trs_len _)) (fun hl12=>?_)
 refine bV (σ:=Int) (fun i10 v11=>⟨[(1,pI v11),(2,.ptr 0 0),(4,pI 0),(6,pN i10)],⟨[some ⟨211,jR pe⟩],[]⟩⟩) (fun v11=>⟨[(1,pI v11),(4,pI 0)],⟨[some ⟨211,jR pe⟩],[]⟩⟩) (eX H) ?_ ?_
 ·rintro i10 v11 H
  refine gQ 9 ?_;refine AL.splitB 32 rfl (fun g13=>?_) (fun g13=>?_)
  ·have g13l:=xF g13
   have H:=lnT g13l H
   have g13n:=BH g13
   refine gQ 4 ?_;refine bE H (fun h14 H=>?_) (fun h14 H=>?_)
   ·refine gQ 7 ?_;refine gI H fun y15 h16 H=>(q1 (zM h16 g13n) (q1 zL (q1 (iR (aL.cs y15.aEe)) (q1 bG (bM H fun x18 z17 H=>(q1 (bI func268 (pC y15.aEe v11 _ z17)) ?_))))))
    exact gE 7
   exact gE 0
  have H:=lnE (xE g13) H
  exact gE 5
 rintro v11 H
 exact gE 5
def nU:Nat→aL→Int→J Int
 |0,_,_=>none
 |fu+1,pe,p8=>N4 fu (nU fu) pe p8
theorem adV(fu:Nat):G4 (nU fu):=by
 induction fu with
 |zero=>exact(fun pe p8 r H=>by simp only [nU] at H;cases H)
 |succ fu ih=>exact(fun pe p8 r H=>by simp only [nU] at H;exact aaH fu (nU fu) ih pe p8 r H)
theorem ahT(fu:Nat):G4 (nU fu):=(adV fu)
def akK(fu:Nat)(pk:Int):J ((Bool×Bool×Bool×Bool×Int×Bool)⊕Bool):=sw (decide (pk=1)) (some (.inr (decide (pk=1)))) (some (.inr (decide (pk=2))))
def akL(fu:Nat)(pk:Int)(v1:Bool):J ((Bool×Bool×Bool×Bool×Int×Bool)⊕Bool):=sw (decide (pk=4)) (some (.inr (decide (pk=4)))) (some (.inr (decide (pk=6))))
def akM(fu:Nat)(pk:Int)(v1 v5:Bool):J ((Bool×Bool×Bool×Bool×Int×Bool)⊕Bool):=sw (decide (pk=8)) (some (.inr (decide (pk=8)))) (some (.inr (decide (pk=10))))
def S6(fu:Nat)(pk:Int):J (Bool×Bool×Bool×Bool×Int×Bool):=so (akK fu pk) fun v1=>sw (v1) (some (false,false,true,false,0,false)) (sw (decide (pk=3)) (some (false,true,false,false,0,false)) (so (akL fu pk v1) fun v5=>sw (v5) (some (false,true,false,false,(-1),false)) (sw (decide (pk=5)) (some (true,true,false,false,(-1),false)) (sw (decide (pk=7)) (some (false,false,false,false,1,true)) (so (akM fu pk v1 v5) fun v10=>sw (v10) (some (false,true,false,false,2,false)) (sw (decide (pk=9)) (some (false,false,false,false,3,false)) (sw (decide (pk=11)) (some (true,false,false,false,1,false)) (some (false,false,false,true,1,false)))))))))
theorem akN(fu:Nat)(pk:Int)(r:Bool×Bool×Bool×Bool×Int×Bool)(H:S6 fu pk=some r):bS prog 271 [pI pk] (.tup [pB r.1,pB r.2.1,pB r.2.2.1,pB r.2.2.2.1,pI r.2.2.2.2.1,pB r.2.2.2.2.2]):=by
 refine qJ func271 H (fun C hC H=>?_)
 refine gQ 16 ?_;refine oT (σ:=Bool) (fun v1=>⟨[(2,pB false),(3,pB false),(4,pB false),(5,pB false),(6,pI 0),(7,pB false),(8,pI pk),(9,pB v1)],⟨[],[]⟩⟩) (eX H) (fun H=>?_) ?_
 ·refine gQ 5 ?_;refine bE H (fun h2 H=>gE 1) fun h2 H=>?_;exact gE 4
 rintro v1 H
 refine bE H (fun h3 H=>gE 9) fun h3 H=>?_;refine gQ 5 ?_;refine bE H (fun h4 H=>gE 9) fun h4 H=>?_;refine qS ?_;refine oT (σ:=Bool) (fun v5=>⟨[(2,pB false),(3,pB false),(4,pB false),(5,pB false),(6,pI 0),(7,pB false),(8,pI pk),(14,pB v5)],⟨[],[]⟩⟩) (eX H) (fun H=>?_) ?_
 ·refine gQ 5 ?_;refine bE H (fun h6 H=>gE 1) fun h6 H=>?_;exact gE 4
 rintro v5 H
 refine bE H (fun h7 H=>gE 9) fun h7 H=>?_;refine gQ 5 ?_;refine bE H (fun h8 H=>gE 9) fun h8 H=>?_;refine gQ 5 ?_;refine bE H (fun h9 H=>gE 9) fun h9 H=>?_;refine qS ?_;refine oT (σ:=Bool) (fun v10=>⟨[(2,pB false),(3,pB false),(4,pB false),(5,pB false),(6,pI 0),(7,pB false),(8,pI pk),(21,pB v10)],⟨[],[]⟩⟩) (eX H) (fun H=>?_) ?_
 ·refine gQ 5 ?_;refine bE H (fun h11 H=>gE 1) fun h11 H=>?_;exact gE 4
 rintro v10 H
 refine bE H (fun h12 H=>gE 9) fun h12 H=>?_;refine gQ 5 ?_;refine bE H (fun h13 H=>gE 9) fun h13 H=>?_;refine gQ 5 ?_;refine bE H (fun h14 H=>gE 9) fun h14 H=>?_;exact gE 10
def N5(fu:Nat)(ps:Y):J Bool:=bd (lS fu ([DE,IL,QY,QZ,Q0]:LB) ps) fun x2=>some x2
theorem ahU(fu:Nat)(ps:Y)(r:Bool)(H:N5 fu ps=some r):bS prog 272 [pS ps] (pB r):=by
 refine qJ func272 H (fun C hC H=>?_)
 refine gQ 6 ?_;refine q1 (iQ ([DE,IL,QY,QZ,Q0]:LB)) (q1 bG (bM H fun x2 z1 H=>(q1 (bI func153 (mW fu ([DE,IL,QY,QZ,Q0]:LB) ps _ z1)) ?_)))
 exact gE 2
def pZ(fu:Nat)(pt:aA):J Bool:=sw (decide (pt.aD8=0)) (sw (decide (pt.aD4=s_)) (some (decide ((pt.aD5.length:Int)=0))) (some false)) (some false)
theorem zC(fu:Nat)(pt:aA)(r:Bool)(H:pZ fu pt=some r):bS prog 251 [(aA.pv pt)] (pB r):=by
 refine qJ func251 H (fun C hC H=>?_)
 refine gQ 2 ?_;refine q1 (fN (b7 pt)) ?_;refine gQ 8 ?_;refine dK 6 H (fun g1 H=>?_) fun g1 H=>?_
 ·refine gQ 5 ?_;refine dK 11 H (fun g2 H=>gE 7) fun g2 H=>?_;exact gE 7
 exact gE 12
abbrev mI:=aL→Option Bool
def G2(m:mI):Prop:= ∀(p0:aL) (r:Bool),m p0=some r→bS prog 269 [(aL.pv p0)] (pB r:PV)
def ahD(fu:Nat)(p1:mI)(p0:aL)(x2 x3 x4 x5:Bool)(x6:Int)(x7:Bool):J (Bool⊕Unit):=bd (BA fu p0.aD8 1 12) fun x9=>sw (!(x9)) (some (.inl false)) (bd (dM fu p0.aEb) fun x12=>sw (!decide (x12=x2)) (some (.inl false)) (sw (!(x2)) (sw (!decide (p0.aEb=s_)) (some (.inl false)) (sw (!(x4)) (sw (!decide (p0.aEM=0)) (some (.inl false)) (sw (!decide ((decide ((p0.aEo.length:Int)>0):Bool)=x7)) (some (.inl false)) (some (.inr ())))) (sw (!decide ((decide ((p0.aEo.length:Int)>0):Bool)=x7)) (some (.inl false)) (some (.inr ()))))) (sw (!(x4)) (sw (!decide (p0.aEM=0)) (some (.inl false)) (sw (!decide ((decide ((p0.aEo.length:Int)>0):Bool)=x7)) (some (.inl false)) (some (.inr ())))) (sw (!decide ((decide ((p0.aEo.length:Int)>0):Bool)=x7)) (some (.inl false)) (some (.inr ()))))))
def ahE(fu:Nat)(p1:mI)(p0:aL)(x2 x3 x4 x5:Bool)(x6:Int)(x7:Bool):J (Bool⊕Unit):=sw (decide (p0.aD8=10)) (bd (N5 fu p0.aD4) fun x26=>sw (!(x26)) (some (.inl false)) (sw (!decide (p0.aD8=10)) (bd (dM fu p0.aD4) fun x30=>sw (!decide (x30=x3)) (some (.inl false)) (sw (!(x3)) (sw (!decide (p0.aD4=s_)) (some (.inl false)) (some (.inr ()))) (some (.inr ())))) (some (.inr ())))) (sw (!decide (p0.aD8=10)) (bd (dM fu p0.aD4) fun x36=>sw (!decide (x36=x3)) (some (.inl false)) (sw (!(x3)) (sw (!decide (p0.aD4=s_)) (some (.inl false)) (some (.inr ()))) (some (.inr ())))) (some (.inr ())))
def ahF(fu:Nat)(p1:mI)(p0:aL)(x2 x3 x4 x5:Bool)(x6:Int)(x7:Bool):J (Bool⊕Unit):=sw (decide (x6≥0)) (sw (!decide ((p0.aD5.length:Int)=x6)) (some (.inl false)) (sw (decide (p0.aD8=5)) (sw (decide ((p0.aD5.length:Int)=0)) (some (.inl false)) (sw x5 (bd (iU fu p0.aD6) fun x46=>sw (!(x46)) (some (.inl false)) (some (.inr ()))) (bd (pZ fu p0.aD6) fun x49=>sw (!(x49)) (some (.inl false)) (some (.inr ()))))) (sw x5 (bd (iU fu p0.aD6) fun x53=>sw (!(x53)) (some (.inl false)) (some (.inr ()))) (bd (pZ fu p0.aD6) fun x56=>sw (!(x56)) (some (.inl false)) (some (.inr ())))))) (sw (decide (p0.aD8=5)) (sw (decide ((p0.aD5.length:Int)=0)) (some (.inl false)) (sw x5 (bd (iU fu p0.aD6) fun x62=>sw (!(x62)) (some (.inl false)) (some (.inr ()))) (bd (pZ fu p0.aD6) fun x65=>sw (!(x65)) (some (.inl false)) (some (.inr ()))))) (sw x5 (bd (iU fu p0.aD6) fun x69=>sw (!(x69)) (some (.inl false)) (some (.inr ()))) (bd (pZ fu p0.aD6) fun x72=>sw (!(x72)) (some (.inl false)) (some (.inr ())))))
def ahG(fu:Nat)(p1:mI)(p0:aL)(x2 x3 x4 x5:Bool)(x6:Int)(x7:Bool):J (Bool⊕Unit):=sw (decide (p0.aD8=1)) (bd (BA fu p0.aEM (-999999) 999999) fun x76=>sw (!(x76)) (some (.inl false)) (some (.inr ()))) (sw (decide (p0.aD8=2)) (bd (BA fu p0.aEM 0 1) fun x80=>sw (!(x80)) (some (.inl false)) (some (.inr ()))) (some (.inr ())))
def ahH(fu:Nat)(p1:mI)(p0:aL)(x2 x3 x4 x5:Bool)(x6:Int)(x7:Bool):Nat→Unit→J (LR Unit Bool):=fun i82 _=>lt (aR p0.aD5 i82) fun y85=>bd (p1 y85) fun x88=>sw (!(x88)) (some (.ret false)) (some (.next ()))
def ahI(fu:Nat)(p1:mI)(p0:aL)(x2 x3 x4 x5:Bool)(x6:Int)(x7:Bool):Nat→Unit→J (LR Unit Bool):=fun i90 _=>lt (aR p0.aEo i90) fun y93=>bd (dM fu y93.aEt) fun x96=>sw (!(x96)) (some (.ret false)) (bd (HQ fu y93.aEh) fun x99=>sw (!(x99)) (some (.ret false)) (bd (lH fu y93.aEh) fun x102=>sw (!(x102)) (some (.ret false)) (bd (p1 y93.aEe) fun x105=>sw (!(x105)) (some (.ret false)) (some (.next ())))))
def N2(fu:Nat)(p1:mI)(p0:aL):J Bool:=bd (S6 fu p0.aD8) fun(x2,x3,x4,x5,x6,x7)=>so (ahD fu p1 p0 x2 x3 x4 x5 x6 x7) fun _=>so (ahE fu p1 p0 x2 x3 x4 x5 x6 x7) fun _=>so (ahF fu p1 p0 x2 x3 x4 x5 x6 x7) fun _=>so (ahG fu p1 p0 x2 x3 x4 x5 x6 x7) fun _=>so (loopN (ahH fu p1 p0 x2 x3 x4 x5 x6 x7) (p0.aD5.length-0) 0 ()) fun _=>so (loopN (ahI fu p1 p0 x2 x3 x4 x5 x6 x7) (p0.aEo.length-0) 0 ()) fun _=>some true
theorem aaF(fu:Nat)(p1:mI)(pD:G2 p1):G2 (N2 fu p1):=by
 intro p0 r H
 refine qJ func269 H (fun C hC H=>?_)
 refine gQ 2 ?_;refine q1 (fN (jR p0)) ?_;refine gQ 6 ?_
 obtain⟨⟨x2,x3,x4,x5,x6,x7⟩,z1,H⟩:=bdI H
 refine q1 (bI func271 (akN fu p0.aD8 _ z1)) ?_;refine gQ 15 ?_;refine oT (σ:=Unit) (fun _=>⟨[(1,.ptr 0 0),(2,pB false),(4,pB x3),(6,pB x5),(7,pI x6)],⟨[some ⟨211,jR p0⟩],[]⟩⟩) (eX H) (fun H=>?_) ?_
 ·refine gQ 4 ?_;refine bM H fun x9 z8 H=>(q1 (bI func64 (F0 fu p0.aD8 1 12 _ z8)) ?_)
  refine gQ 2 ?_;refine dK 26 H (fun g10 H=>gE 38) fun g10 H=>?_;refine gQ 2 ?_;refine bM H fun x12 z11 H=>(qg g10 (bI func205 (eN fu p0.aEb _ z11)) (qg g10 bG (qg g10 (bC.neqB rfl rfl rfl rfl underlying4) ?_)))
  refine gQ 2 ?_;refine dK 33 H (fun g13 H=>gE 31) fun g13 H=>?_;refine gQ 3 ?_;refine dK 36 H (fun g14 H=>?_) fun g14 H=>?_
  ·refine gQ 6 ?_;refine dK 42 H (fun g15 H=>gE 22) fun g15 H=>?_;refine gQ 3 ?_;refine dK 45 H (fun g16 H=>?_) fun g16 H=>?_
   ·refine gQ 6 ?_;refine dK 51 H (fun g17 H=>gE 13) fun g17 H=>?_;refine gQ 5 ?_;refine qg g17 (bC.neqB rfl rfl rfl rfl underlying4) ?_;refine gQ 2 ?_;refine bE H (fun h18 H=>gE 4) fun h18 H=>?_;exact gE 1
   refine gQ 11 ?_;refine qg rfl (bC.neqB rfl rfl rfl rfl underlying4) ?_;refine gQ 2 ?_;refine bE H (fun h19 H=>gE 4) fun h19 H=>?_;exact gE 1
  refine gQ 9 ?_;refine dK 45 H (fun g20 H=>?_) fun g20 H=>?_
  ·refine gQ 6 ?_;refine dK 51 H (fun g21 H=>gE 13) fun g21 H=>?_;refine gQ 5 ?_;refine qg g21 (bC.neqB rfl rfl rfl rfl underlying4) ?_;refine gQ 2 ?_;refine bE H (fun h22 H=>gE 4) fun h22 H=>?_;exact gE 1
  refine gQ 11 ?_;refine qg rfl (bC.neqB rfl rfl rfl rfl underlying4) ?_;refine gQ 2 ?_;refine bE H (fun h23 H=>gE 4) fun h23 H=>?_;exact gE 1
 rintro⟨⟩ H
 refine qS ?_;refine oT (σ:=Unit) (fun _=>⟨[(1,.ptr 0 0),(2,pB false),(6,pB x5),(7,pI x6)],⟨[some ⟨211,jR p0⟩],[]⟩⟩) (eX H) (fun H=>?_) ?_
 ·refine gQ 6 ?_;refine dK 62 H (fun g24 H=>?_) fun g24 H=>?_
  ·refine gQ 2 ?_;refine bM H fun x26 z25 H=>(qg g24 (bI func272 (ahU fu p0.aD4 _ z25)) ?_)
   refine gQ 3 ?_;refine dK 68 H (fun g27 H=>gE 26) fun g27 H=>?_;refine gQ 4 ?_;refine dK 72 H (fun g28 H=>?_) fun g28 H=>?_
   ·refine gQ 2 ?_;refine bM H fun x30 z29 H=>(qg g28 (bI func205 (eN fu p0.aD4 _ z29)) (qg g28 bG (qg g28 (bC.neqB rfl rfl rfl rfl underlying4) (qg g28 bG ?_))))
    refine dK 78 H (fun g31 H=>gE 16) fun g31 H=>?_;refine gQ 3 ?_;refine dK 81 H (fun g32 H=>?_) fun g32 H=>?_
    ·refine gQ 8 ?_;refine bE H (fun h33 H=>gE 4) fun h33 H=>?_;exact gE 1
    exact gE 10
   exact gE 19
  refine gQ 10 ?_;refine dK 72 H (fun g34 H=>?_) fun g34 H=>?_
  ·refine gQ 2 ?_;refine bM H fun x36 z35 H=>(qg g34 (bI func205 (eN fu p0.aD4 _ z35)) (qg g34 bG (qg g34 (bC.neqB rfl rfl rfl rfl underlying4) (qg g34 bG ?_))))
   refine dK 78 H (fun g37 H=>gE 16) fun g37 H=>?_;refine gQ 3 ?_;refine dK 81 H (fun g38 H=>?_) fun g38 H=>?_
   ·refine gQ 8 ?_;refine bE H (fun h39 H=>gE 4) fun h39 H=>?_;exact gE 1
   exact gE 10
  exact gE 19
 rintro⟨⟩ H
 refine qS ?_;refine oT (σ:=Unit) (fun _=>⟨[(1,.ptr 0 0),(2,pB false)],⟨[some ⟨211,jR p0⟩],[]⟩⟩) (eX H) (fun H=>?_) ?_
 ·refine gQ 5 ?_;refine dK 91 H (fun g40 H=>?_) fun g40 H=>?_
  ·refine gQ 7 ?_;refine dK 98 H (fun g41 H=>gE 35) fun g41 H=>?_;refine gQ 4 ?_;refine dK 102 H (fun g42 H=>?_) fun g42 H=>?_
   ·refine gQ 7 ?_;refine dK 109 H (fun g43 H=>gE 24) fun g43 H=>?_;refine gQ 2 ?_;refine dK 111 H (fun g44 H=>?_) fun g44 H=>?_
    ·refine qg g44 bY (qg g44 (b5 [pI p0.aD6.aD8,pS p0.aD6.aD4,aT p0.aD6.aD5]) (bM H fun x46 z45 H=>(qg g44 (bI func258 (mU fu p0.aD6 _ z45)) ?_)))
     refine gQ 4 ?_;refine dK 118 H (fun g47 H=>gE 15) fun g47 H=>?_;refine gQ 3 ?_
     iterate 4 refine qk (congrArg (fun b=> !b) g44) ?_
     refine qg g47 (EQ (congrArg (fun b=> !b) g44)) ?_;exact gE 4
    refine gQ 10 ?_;refine qg (congrArg (fun b=> !b) g44) bY (qg (congrArg (fun b=> !b) g44) (b5 [pI p0.aD6.aD8,pS p0.aD6.aD4,aT p0.aD6.aD5]) (bM H fun x49 z48 H=>(qg (congrArg (fun b=> !b) g44) (bI func251 (zC fu p0.aD6 _ z48)) (qg (congrArg (fun b=> !b) g44) LI (qg rfl (DB (congrArg (fun b=> !b) g44)) ?_)))))
    refine gQ 2 ?_;refine bE H (fun h50 H=>gE 4) fun h50 H=>?_;exact gE 1
   refine gQ 9 ?_;refine dK 111 H (fun g51 H=>?_) fun g51 H=>?_
   ·refine qg g51 bY (qg g51 (b5 [pI p0.aD6.aD8,pS p0.aD6.aD4,aT p0.aD6.aD5]) (bM H fun x53 z52 H=>(qg g51 (bI func258 (mU fu p0.aD6 _ z52)) ?_)))
    refine gQ 4 ?_;refine dK 118 H (fun g54 H=>gE 15) fun g54 H=>?_;refine gQ 3 ?_
    iterate 4 refine qk (congrArg (fun b=> !b) g51) ?_
    refine qg g54 (EQ (congrArg (fun b=> !b) g51)) ?_;exact gE 4
   refine gQ 10 ?_;refine qg (congrArg (fun b=> !b) g51) bY (qg (congrArg (fun b=> !b) g51) (b5 [pI p0.aD6.aD8,pS p0.aD6.aD4,aT p0.aD6.aD5]) (bM H fun x56 z55 H=>(qg (congrArg (fun b=> !b) g51) (bI func251 (zC fu p0.aD6 _ z55)) (qg (congrArg (fun b=> !b) g51) LI (qg rfl (DB (congrArg (fun b=> !b) g51)) ?_)))))
   refine gQ 2 ?_;refine bE H (fun h57 H=>gE 4) fun h57 H=>?_;exact gE 1
  refine gQ 11 ?_;refine dK 102 H (fun g58 H=>?_) fun g58 H=>?_
  ·refine gQ 7 ?_;refine dK 109 H (fun g59 H=>gE 24) fun g59 H=>?_;refine gQ 2 ?_;refine dK 111 H (fun g60 H=>?_) fun g60 H=>?_
   ·refine qg g60 bY (qg g60 (b5 [pI p0.aD6.aD8,pS p0.aD6.aD4,aT p0.aD6.aD5]) (bM H fun x62 z61 H=>(qg g60 (bI func258 (mU fu p0.aD6 _ z61)) ?_)))
    refine gQ 4 ?_;refine dK 118 H (fun g63 H=>gE 15) fun g63 H=>?_;refine gQ 3 ?_
    iterate 4 refine qk (congrArg (fun b=> !b) g60) ?_
    refine qg g63 (EQ (congrArg (fun b=> !b) g60)) ?_;exact gE 4
   refine gQ 10 ?_;refine qg (congrArg (fun b=> !b) g60) bY (qg (congrArg (fun b=> !b) g60) (b5 [pI p0.aD6.aD8,pS p0.aD6.aD4,aT p0.aD6.aD5]) (bM H fun x65 z64 H=>(qg (congrArg (fun b=> !b) g60) (bI func251 (zC fu p0.aD6 _ z64)) (qg (congrArg (fun b=> !b) g60) LI (qg rfl (DB (congrArg (fun b=> !b) g60)) ?_)))))
   refine gQ 2 ?_;refine bE H (fun h66 H=>gE 4) fun h66 H=>?_;exact gE 1
  refine gQ 9 ?_;refine dK 111 H (fun g67 H=>?_) fun g67 H=>?_
  ·refine qg g67 bY (qg g67 (b5 [pI p0.aD6.aD8,pS p0.aD6.aD4,aT p0.aD6.aD5]) (bM H fun x69 z68 H=>(qg g67 (bI func258 (mU fu p0.aD6 _ z68)) ?_)))
   refine gQ 4 ?_;refine dK 118 H (fun g70 H=>gE 15) fun g70 H=>?_;refine gQ 3 ?_
   iterate 4 refine qk (congrArg (fun b=> !b) g67) ?_
   refine qg g70 (EQ (congrArg (fun b=> !b) g67)) ?_;exact gE 4
  refine gQ 10 ?_;refine qg (congrArg (fun b=> !b) g67) bY (qg (congrArg (fun b=> !b) g67) (b5 [pI p0.aD6.aD8,pS p0.aD6.aD4,aT p0.aD6.aD5]) (bM H fun x72 z71 H=>(qg (congrArg (fun b=> !b) g67) (bI func251 (zC fu p0.aD6 _ z71)) (qg (congrArg (fun b=> !b) g67) LI (qg rfl (DB (congrArg (fun b=> !b) g67)) ?_)))))
  refine gQ 2 ?_;refine bE H (fun h73 H=>gE 4) fun h73 H=>?_;exact gE 1
 rintro⟨⟩ H
 refine qS ?_;refine oT (σ:=Unit) (fun _=>⟨[(1,.ptr 0 0),(2,pB false)],⟨[some ⟨211,jR p0⟩],[]⟩⟩) (eX H) (fun H=>?_) ?_
 ·refine gQ 6 ?_;refine dK 131 H (fun g74 H=>?_) fun g74 H=>?_
  ·refine gQ 2 ?_;refine bM H fun x76 z75 H=>(qg g74 (bI func64 (F0 fu p0.aEM (-999999) 999999 _ z75)) ?_)
   refine gQ 3 ?_;refine dK 137 H (fun g77 H=>gE 16) fun g77 H=>?_;refine gQ 4 ?_
   iterate 4 refine qk (dne (b:=2) g74 (by decide)) ?_
   refine qg g77 (EQ (dne (b:=2) g74 (by decide))) ?_;exact gE 4
  refine gQ 10 ?_;refine dK 141 H (fun g78 H=>?_) fun g78 H=>?_
  ·refine gQ 2 ?_;refine bM H fun x80 z79 H=>(qg g78 (bI func64 (F0 fu p0.aEM 0 1 _ z79)) ?_)
   refine gQ 4 ?_;refine bE H (fun h81 H=>gE 4) fun h81 H=>?_;exact gE 1
  exact gE 9
 rintro⟨⟩ H
 refine gQ 5 ?_;refine c7.fact (cQ 0 7 rfl rfl rfl (aL.trs_len _)) (fun hl83=>?_)
 refine bV (σ:=Unit) (fun i82 _=>⟨[(1,.ptr 0 0),(2,pB false),(9,pN i82)],⟨[some ⟨211,jR p0⟩],[]⟩⟩) (fun _=>⟨[(1,.ptr 0 0),(2,pB false)],⟨[some ⟨211,jR p0⟩],[]⟩⟩) (eX H) ?_ ?_
 ·rintro i82 ⟨⟩ H
  refine gQ 9 ?_;refine c5 H (fun h84 h84l H=>?_) (fun h84 H=>?_)
  ·refine gQ 8 ?_;refine gI H fun y85 h86 H=>(q1 (zM h86 h84l) (q1 (iR (aL.cs y85)) (bM H fun x88 z87 H=>(q1 (bI func269 (pD y85 _ z87)) ?_))))
   refine gQ 2 ?_;refine bE H (fun h89 H=>gE 4) fun h89 H=>?_;exact gE 6
  exact gE 0
 rintro⟨⟩ H
 refine gQ 5 ?_;refine c7.fact (cQ 0 8 rfl rfl rfl (bW.trs_len _)) (fun hl91=>?_)
 refine bV (σ:=Unit) (fun i90 _=>⟨[(1,.ptr 0 0),(2,pB false),(10,pN i90)],⟨[some ⟨211,jR p0⟩],[]⟩⟩) (fun _=>⟨[(2,pB false)],⟨[some ⟨211,jR p0⟩],[]⟩⟩) (eX H) ?_ ?_
 ·rintro i90 ⟨⟩ H
  refine gQ 9 ?_;refine c5 H (fun h92 h92l H=>?_) (fun h92 H=>?_)
  ·refine gQ 8 ?_;refine gI H fun y93 h94 H=>(q1 (zM h94 h92l) (q1 (iR (bW.cs y93)) ?_))
   refine gQ 7 ?_;refine bM H fun x96 z95 H=>(q1 (bI func205 (eN fu y93.aEt _ z95)) ?_)
   refine gQ 2 ?_;refine dK 178 H (fun g97 H=>gE 23) fun g97 H=>?_;refine gQ 2 ?_;refine bM H fun x99 z98 H=>(qg g97 (bI func228 (UE fu y93.aEh _ z98)) ?_)
   refine gQ 3 ?_;refine dK 184 H (fun g100 H=>gE 17) fun g100 H=>?_;refine gQ 2 ?_;refine bM H fun x102 z101 H=>(qg g100 (bI func207 (mT fu y93.aEh _ z101)) ?_)
   refine gQ 3 ?_;refine dK 190 H (fun g103 H=>gE 11) fun g103 H=>?_;refine qg g103 bY (qg g103 (b5 [pI y93.aEe.aD8,pS y93.aEe.aEb,pS y93.aEe.aD4,pI y93.aEe.aEM,pI y93.aEe.aD6.aD8,pS y93.aEe.aD6.aD4,aT y93.aEe.aD6.aD5,jF y93.aEe.aD5,tA y93.aEe.aEo]) (bM H fun x105 z104 H=>(qg g103 (bI func269 (pD y93.aEe _ z104)) ?_)))
   refine gQ 3 ?_;refine bE H (fun h106 H=>gE 4) fun h106 H=>?_;exact gE 6
  exact gE 0
 rintro⟨⟩ H
 exact gE 4
def nS:Nat→aL→J Bool
 |0,_=>none
 |fu+1,p0=>N2 fu (nS fu) p0
theorem adT(fu:Nat):G2 (nS fu):=by
 induction fu with
 |zero=>exact(fun p0 r H=>by simp only [nS] at H;cases H)
 |succ fu ih=>exact(fun p0 r H=>by simp only [nS] at H;exact aaF fu (nS fu) ih p0 r H)
theorem ahK(fu:Nat):G2 (nS fu):=(adT fu)
def CR(fu:Nat)(pe:aL):J Bool:=bd (nU fu pe 300) fun x2=>sw (decide (x2≥0)) (bd (nS fu pe) fun x5=>some x5) (some false)
theorem U4(fu:Nat)(pe:aL)(r:Bool)(H:CR fu pe=some r):bS prog 262 [(aL.pv pe)] (pB r):=by
 refine qJ func262 H (fun C hC H=>?_)
 refine gQ 2 ?_;refine q1 (fN (jR pe)) ?_;refine gQ 4 ?_;refine q1 (b5 [pI pe.aD8,pS pe.aEb,pS pe.aD4,pI pe.aEM,pI pe.aD6.aD8,pS pe.aD6.aD4,aT pe.aD6.aD5,jF pe.aD5,tA pe.aEo]) (bM H fun x2 z1 H=>(q1 (bI func268 (ahT fu pe 300 _ z1)) ?_))
 refine gQ 2 ?_;refine dK 6 H (fun g3 H=>?_) fun g3 H=>?_
 ·refine qg g3 (b5 [pI pe.aD8,pS pe.aEb,pS pe.aD4,pI pe.aEM,pI pe.aD6.aD8,pS pe.aD6.aD4,aT pe.aD6.aD5,jF pe.aD5,tA pe.aEo]) (bM H fun x5 z4 H=>(qg g3 (bI func269 (ahK fu pe _ z4)) ?_))
  exact gE 3
 exact gE 5
def adW(fu:Nat)(pa pb:LB):Nat→Unit→J (LR Unit Bool):=fun i2 _=>gd (i2<(pb).length) (sw (!decide (aR pa i2=aR pb i2)) (some (.ret false)) (some (.next ())))
def JO(fu:Nat)(pa pb:LB):J Bool:=sw (!decide ((pa.length:Int)=(pb.length:Int))) (some false) (so (loopN (adW fu pa pb) (pa.length-0) 0 ()) fun _=>some true)
theorem QJ(fu:Nat)(pa:LB)(pb:LB)(r:Bool)(H:JO fu pa pb=some r):bS prog 270 [rS pa,rS pb] (pB r):=by
 refine qJ func270 H (fun C hC H=>?_)
 refine gQ 13 ?_;refine bE H (fun h1 H=>gE 4) fun h1 H=>?_;refine gQ 6 ?_;refine gM 0 (b0 _) (fun hl3=>?_)
 refine bV (σ:=Unit) (fun i2 _=>⟨[(0,rS pa),(1,rS pb),(4,pB false),(5,pN i2)],⟨[],[]⟩⟩) (fun _=>⟨[(4,pB false)],⟨[],[]⟩⟩) (eX H) ?_ ?_
 ·rintro i2 ⟨⟩ H
  refine gQ 8 ?_;refine c5 H (fun h4 h4l H=>?_) (fun h4 H=>?_)
  ·refine gQ 4 ?_;refine cK H fun z5 H=>(dW (dI [0] bG (dI [5] bG (dI [17,18] rB (dI [19] yB (dI [1] bG (dI [5] bG (dI [21,22] rB (dI [23] yB (dI [20,24] rSn (dN ?_)))))))))))
   refine bE H (fun h6 H=>gE 4) fun h6 H=>?_;exact gE 6
  exact gE 0
 rintro⟨⟩ H
 exact gE 4
abbrev pW:=aL→aL→Option Bool
def A1(m:pW):Prop:= ∀(p0:aL) (p7:aL) (r:Bool),m p0 p7=some r→bS prog 263 [(aL.pv p0),(aL.pv p7)] (pB r:PV)
def Z0(fu:Nat)(p5:pW)(p0 p7:aL)(x6:Bool):Nat→Unit→J (LR Unit Bool):=fun i10 _=>lt (aR p0.aD5 i10) fun y13=>gd (i10<(p7.aD5).length) (lt (aR p7.aD5 i10) fun y16=>bd (p5 y13 y16) fun x19=>sw (!(x19)) (some (.ret false)) (some (.next ())))
def Z1(fu:Nat)(p5:pW)(p0 p7:aL)(x6:Bool):Nat→Unit→J (LR Unit Bool):=fun i21 _=>lt (aR p0.aEo i21) fun y24=>gd (i21<(p7.aEo).length) (lt (aR p7.aEo i21) fun y27=>sw (!decide (y24.aEt=y27.aEt)) (some (.ret false)) (bd (JO fu y24.aEh y27.aEh) fun x31=>sw (!(x31)) (some (.ret false)) (bd (p5 y24.aEe y27.aEe) fun x34=>sw (!(x34)) (some (.ret false)) (some (.next ())))))
def GX(fu:Nat)(p5:pW)(p0 p7:aL):J Bool:=sw (!decide (p0.aD8=p7.aD8)) (some false) (sw (!decide (p0.aEb=p7.aEb)) (some false) (sw (!decide (p0.aD4=p7.aD4)) (some false) (sw (!decide (p0.aEM=p7.aEM)) (some false) (bd (fS fu p0.aD6 p7.aD6) fun x6=>sw (!(x6)) (some false) (sw (!decide ((p0.aD5.length:Int)=(p7.aD5.length:Int))) (some false) (sw (!decide ((p0.aEo.length:Int)=(p7.aEo.length:Int))) (some false) (so (loopN (Z0 fu p5 p0 p7 x6) (p0.aD5.length-0) 0 ()) fun _=>so (loopN (Z1 fu p5 p0 p7 x6) (p0.aEo.length-0) 0 ()) fun _=>some true)))))))
theorem UZ(fu:Nat)(p5:pW)(pA:A1 p5):A1 (GX fu p5):=by
 intro p0 p7 r H
 refine qJ func263 H (fun C hC H=>?_)
 refine gQ 2 ?_;refine q1 (fN (jR p0)) (q1 (fN (jR p7)) ?_)
 refine gQ 11 ?_;refine dK 12 H (fun g1 H=>gE 52) fun g1 H=>?_;refine gQ 7 ?_;refine dK 19 H (fun g2 H=>gE 45) fun g2 H=>?_;refine gQ 7 ?_;refine dK 26 H (fun g3 H=>gE 38) fun g3 H=>?_;refine gQ 7 ?_;refine dK 33 H (fun g4 H=>gE 31) fun g4 H=>?_;refine qg g4 bY (qg g4 (b5 [pI p0.aD6.aD8,pS p0.aD6.aD4,aT p0.aD6.aD5]) (qg g4 bY (qg g4 (b5 [pI p7.aD6.aD8,pS p7.aD6.aD4,aT p7.aD6.aD5]) (bM H fun x6 z5 H=>(qg g4 (bI func38 (MH fu p0.aD6 p7.aD6 _ z5)) ?_)))))
 refine gQ 3 ?_;refine dK 41 H (fun g7 H=>gE 23) fun g7 H=>?_;refine gQ 9 ?_;refine dK 50 H (fun g8 H=>gE 14) fun g8 H=>?_;refine gQ 9 ?_;refine bE H (fun h9 H=>gE 4) fun h9 H=>?_;refine gQ 6 ?_;refine gM 43 (aL.trs_len _) (fun hl11=>?_)
 refine bV (σ:=Unit) (fun i10 _=>⟨[(2,.ptr 0 0),(3,.ptr 1 0),(4,pB false),(5,pN i10)],⟨[some ⟨211,jR p0⟩,some ⟨211,jR p7⟩],[]⟩⟩) (fun _=>⟨[(2,.ptr 0 0),(3,.ptr 1 0),(4,pB false)],⟨[some ⟨211,jR p0⟩,some ⟨211,jR p7⟩],[]⟩⟩) (eX H) ?_ ?_
 ·rintro i10 ⟨⟩ H
  refine gQ 9 ?_;refine c5 H (fun h12 h12l H=>?_) (fun h12 H=>?_)
  ·refine gQ 4 ?_;refine gI H fun y13 h14 H=>(cK H fun z15 H=>(gI H fun y16 h17 H=>(bM H fun x19 z18 H=>(dW (dI [2] bY (dD [66] eI (dI [5] bG (dI [67,68] (zM h14 h12l) (dI [69] (iR (aL.cs y13)) (dI [3] bY (dD [71] eI (dI [5] bG (dI [72,73] (zM h17 z15) ?_)))))))))))))
   refine dI [74] (iR (aL.cs y16)) (dI [70,75] (bI func263 (pA y13 y16 _ z18)) (dI [76] LI (dN ?_)))
   refine bE H (fun h20 H=>gE 4) fun h20 H=>?_;exact gE 6
  exact gE 0
 rintro⟨⟩ H
 refine gQ 5 ?_;refine c7.fact (cQ 0 8 rfl rfl rfl (bW.trs_len _)) (fun hl22=>?_)
 refine bV (σ:=Unit) (fun i21 _=>⟨[(2,.ptr 0 0),(3,.ptr 1 0),(4,pB false),(6,pN i21)],⟨[some ⟨211,jR p0⟩,some ⟨211,jR p7⟩],[]⟩⟩) (fun _=>⟨[(4,pB false)],⟨[some ⟨211,jR p0⟩,some ⟨211,jR p7⟩],[]⟩⟩) (eX H) ?_ ?_
 ·rintro i21 ⟨⟩ H
  refine gQ 9 ?_;refine c5 H (fun h23 h23l H=>?_) (fun h23 H=>?_)
  ·refine gQ 4 ?_;refine gI H fun y24 h25 H=>(cK H fun z26 H=>(gI H fun y27 h28 H=>?_))
   rcases n0 (!decide (y24.aEt=y27.aEt)) with g29|g29
   ·have H:=r9 H g29
    refine dW (dI [2] bY (dD [85] eI (dI [6] bG (dI [86,87] (zM h25 h23l) (dI [88] zL (dI [89] yB (dI [3] bY (dD [91] eI (dI [6] bG (dI [92,93] (zM h28 z26) (dI [94] zL (dI [95] yB (dI [90,96] rSn ?_)))))))))))))
    refine dI [97] bG ?_
    iterate 14 refine KA g29 ?_
    refine dI [98] (DB g29) (dI [113] bG ?_)
    iterate 14 refine KA rfl ?_
    refine dI [114] (DB rfl) (dN ?_)
    exact gE 5
   have H:=r8 H g29
   refine bM H fun x31 z30 H=>?_
   rcases n0 (!(x31)) with g32|g32
   ·have H:=r9 H g32
    refine dW (dI [2] bY (dD [85] eI (dI [6] bG (dI [86,87] (zM h25 h23l) (dI [88] zL (dI [89] yB (dI [3] bY (dD [91] eI (dI [6] bG (dI [92,93] (zM h28 z26) (dI [94] zL (dI [95] yB (dI [90,96] rSn ?_)))))))))))))
    refine dI [97] bG (dI (hg:=bB g29) [2] bY (dD (hg:=bB g29) [99] eI (dI (hg:=bB g29) [6] bG (dI (hg:=bB g29) [100,101] (zM h25 h23l) (dI (hg:=bB g29) [102] zL (dI (hg:=bB g29) [103] yB (dI (hg:=bB g29) [3] bY (dD (hg:=bB g29) [105] eI (dI (hg:=bB g29) [6] bG (dI (hg:=bB g29) [106,107] (zM h28 z26) (dI (hg:=bB g29) [108] zL (dI (hg:=bB g29) [109] yB (dI (hg:=bB g29) [104,110] (bI func270 (QJ fu y24.aEh y27.aEh _ z30)) ?_)))))))))))))
    refine dI (hg:=bB g29) [111] LI (dI [98,112] (EQ g29) (dI [113] bG ?_))
    iterate 14 refine KA g32 ?_
    refine dI [114] (DB g32) (dN ?_)
    exact gE 5
   have H:=r8 H g32
   refine bM H fun x34 z33 H=>(dW (dI [2] bY (dD [85] eI (dI [6] bG (dI [86,87] (zM h25 h23l) (dI [88] zL (dI [89] yB (dI [3] bY (dD [91] eI (dI [6] bG (dI [92,93] (zM h28 z26) (dI [94] zL (dI [95] yB ?_)))))))))))))
   refine dI [90,96] rSn (dI [97] bG (dI (hg:=bB g29) [2] bY (dD (hg:=bB g29) [99] eI (dI (hg:=bB g29) [6] bG (dI (hg:=bB g29) [100,101] (zM h25 h23l) (dI (hg:=bB g29) [102] zL (dI (hg:=bB g29) [103] yB (dI (hg:=bB g29) [3] bY (dD (hg:=bB g29) [105] eI (dI (hg:=bB g29) [6] bG (dI (hg:=bB g29) [106,107] (zM h28 z26) (dI (hg:=bB g29) [108] zL (dI (hg:=bB g29) [109] yB ?_)))))))))))))
   refine dI (hg:=bB g29) [104,110] (bI func270 (QJ fu y24.aEh y27.aEh _ z30)) (dI (hg:=bB g29) [111] LI (dI [98,112] (EQ g29) (dI [113] bG (dI (hg:=bB g32) [2] bY (dD (hg:=bB g32) [115] eI (dI (hg:=bB g32) [6] bG (dI (hg:=bB g32) [116,117] (zM h25 h23l) (dI (hg:=bB g32) [118] zL (dI (hg:=bB g32) [119] (iR (aL.cs y24.aEe)) (dI (hg:=bB g32) [3] bY (dD (hg:=bB g32) [121] eI (dI (hg:=bB g32) [6] bG (dI (hg:=bB g32) [122,123] (zM h28 z26) ?_)))))))))))))
   refine dI (hg:=bB g32) [124] zL (dI (hg:=bB g32) [125] (iR (aL.cs y27.aEe)) (dI (hg:=bB g32) [120,126] (bI func263 (pA y24.aEe y27.aEe _ z33)) (dI (hg:=bB g32) [127] LI (dI [114,128] (EQ g32) (dN ?_)))))
   refine bE H (fun h35 H=>gE 4) fun h35 H=>?_;exact gE 6
  exact gE 0
 rintro⟨⟩ H
 exact gE 4
def kZ:Nat→aL→aL→J Bool
 |0,_,_=>none
 |fu+1,p0,p7=>GX fu (kZ fu) p0 p7
theorem XP(fu:Nat):A1 (kZ fu):=by
 induction fu with
 |zero=>exact(fun p0 p7 r H=>by simp only [kZ] at H;cases H)
 |succ fu ih=>exact(fun p0 p7 r H=>by simp only [kZ] at H;exact UZ fu (kZ fu) ih p0 p7 r H)
theorem Z3(fu:Nat):A1 (kZ fu):=(XP fu)
abbrev sQ:=aL→(LB)→(LB)→Option ((LB))
def G3(m:sQ):Prop:= ∀(p0:aL) (p7:LB) (pE:LB) (r:(LB)),m p0 p7 pE=some r→cF prog 267 [(aL.pv p0),rS p7,aS pE 0] ⟨[],[⟨9,1,aY (pE),false⟩]⟩ (fun q t=>q=(aS r 0:PV)∧t=⟨[],[⟨9,1,aY (r),false⟩]⟩)
def ahL(fu:Nat)(p3:sQ)(p0:aL)(p7 pE:LB):J (((LB))⊕((LB))):=sw (decide (p0.aD8=3)) (bd (lS fu p7 p0.aD4) fun x5=>sw (!(x5)) (bd (lS fu pE p0.aD4) fun x8=>sw (!(x8)) (gd ((pE).length+(([p0.aD4]:LB)).length≤68719476736) (some (.inr (pE++([p0.aD4]:LB))))) (some (.inr pE))) (some (.inr pE))) (some (.inr pE))
def ahM(fu:Nat)(p3:sQ)(p0:aL)(p7 pE v2:LB):Nat→((LB))→J (LR ((LB)) ((LB))):=fun i11 v13=>sw (decide (p0.aD8=8)) (sw (decide ((i11:Int)=1)) (gd (([]:LB).length+(p7).length≤68719476736) (gd ((([])++p7).length+(([p0.aD4]:LB)).length≤68719476736) (lt (aR p0.aD5 i11) fun y20=>bd (p3 y20 ((([])++p7)++([p0.aD4]:LB)) v13) fun x23=>some (.next x23)))) (lt (aR p0.aD5 i11) fun y24=>bd (p3 y24 p7 v13) fun x27=>some (.next x27))) (lt (aR p0.aD5 i11) fun y28=>bd (p3 y28 p7 v13) fun x31=>some (.next x31))
def ahN(fu:Nat)(p3:sQ)(p0:aL)(p7 pE v2 v13:LB):Nat→((LB))→J (LR ((LB)) ((LB))):=fun i32 v34=>lt (aR p0.aEo i32) fun y37=>gd (([]:LB).length+(p7).length≤68719476736) (gd ((([])++p7).length+(y37.aEh).length≤68719476736) (bd (p3 y37.aEe ((([])++p7)++y37.aEh) v34) fun x42=>some (.next x42)))
def N3(fu:Nat)(p3:sQ)(p0:aL)(p7 pE:LB):J ((LB)):=so (ahL fu p3 p0 p7 pE) fun v2=>so (loopN (ahM fu p3 p0 p7 pE v2) (p0.aD5.length-0) 0 v2) fun v13=>so (loopN (ahN fu p3 p0 p7 pE v2 v13) (p0.aEo.length-0) 0 v13) fun v34=>some v34
theorem aaG(fu:Nat)(p3:sQ)(p9:G3 p3):G3 (N3 fu p3):=by
 intro p0 p7 pE r H
 refine qJ func267 H (fun C hC H=>?_)
 refine gQ 2 ?_;refine q1 (fN (jR p0)) ?_;refine gQ 3 ?_;refine oT (σ:=(LB)) (fun v2=>⟨[(1,rS p7),(2,aS v2 0),(3,.ptr 0 0),(6,.nil)],⟨[some ⟨211,jR p0⟩],[⟨9,1,aY (v2),false⟩]⟩⟩) (eX H) (fun H=>?_) ?_
 ·refine gQ 6 ?_;refine dK 13 H (fun g3 H=>?_) fun g3 H=>?_
  ·refine gQ 3 ?_;refine bM H fun x5 z4 H=>(qg g3 (bI func153 (mW fu p7 p0.aD4 _ z4)) ?_)
   refine gQ 3 ?_;refine dK 20 H (fun g6 H=>?_) fun g6 H=>?_
   ·refine gQ 3 ?_;refine bM H fun x8 z7 H=>(qg g6 (bI func153 (mW fu pE p0.aD4 _ z7)) ?_)
    refine gQ 3 ?_;refine bE H (fun h9 H=>?_) (fun h9 H=>?_)
    ·refine gQ 4 ?_;refine q1 (iQ ([p0.aD4]:LB)) (cK H fun z10 H=>(q1 (mA z10) ?_))
     exact gE 2
    exact gE 1
   exact gE 9
  exact gE 16
 rintro v2 H
 refine gQ 5 ?_;refine c7.fact (cQ 0 7 rfl rfl rfl (aL.trs_len _)) (fun hl14=>?_)
 refine bV (σ:=(LB)) (fun i11 v13=>⟨[(1,rS p7),(2,aS v13 0),(3,.ptr 0 0),(6,.nil),(7,pN i11)],⟨[some ⟨211,jR p0⟩],[⟨9,1,aY (v13),false⟩]⟩⟩) (fun v13=>⟨[(1,rS p7),(2,aS v13 0),(3,.ptr 0 0),(6,.nil)],⟨[some ⟨211,jR p0⟩],[⟨9,1,aY (v13),false⟩]⟩⟩) (eX H) ?_ ?_
 ·rintro i11 v13 H
  refine gQ 9 ?_;refine c5 H (fun h15 h15l H=>?_) (fun h15 H=>?_)
  ·refine gQ 15 ?_;refine dK 43 H (fun g16 H=>?_) fun g16 H=>?_
   ·refine gQ 4 ?_;refine bE H (fun h17 H=>?_) (fun h17 H=>?_)
    ·refine cK H fun z18 H=>(cK H fun z19 H=>(dW (dE [] (sA ([]:LB)) (dI [1] bG (dE [47,48] (mA z18) (dI [3] bY (dB [50] 0 2 vE (dI [51] (iQ ([p0.aD4]:LB)) (dE [49,52] (mA z19) (dI [53] bG (dN ?_)))))))))))
     refine gQ 4 ?_;refine gI H fun y20 h21 H=>(q1 (zM h21 h15l) (q1 (iR (aL.cs y20)) ?_))
     refine gQ 2 ?_;refine bM H fun x23 z22 H=>(q1 (fJ [] [0] func267 (p9 y20 ((([])++p7)++([p0.aD4]:LB)) v13 _ z22)) ?_)
     exact gE 7
    refine gQ 5 ?_;refine gI H fun y24 h25 H=>(q1 (zM h25 h15l) (q1 (iR (aL.cs y24)) ?_))
    refine gQ 2 ?_;refine bM H fun x27 z26 H=>(q1 (fJ [] [0] func267 (p9 y24 p7 v13 _ z26)) ?_)
    exact gE 7
   refine gQ 10 ?_;refine gI H fun y28 h29 H=>(q1 (zM h29 h15l) (q1 (iR (aL.cs y28)) ?_))
   refine gQ 2 ?_;refine bM H fun x31 z30 H=>(q1 (fJ [] [0] func267 (p9 y28 p7 v13 _ z30)) ?_)
   exact gE 7
  exact gE 0
 rintro v13 H
 refine gQ 5 ?_;refine c7.fact (cQ 0 8 rfl rfl rfl (bW.trs_len _)) (fun hl35=>?_)
 refine bV (σ:=(LB)) (fun i32 v34=>⟨[(1,rS p7),(2,aS v34 0),(3,.ptr 0 0),(6,.nil),(9,pN i32)],⟨[some ⟨211,jR p0⟩],[⟨9,1,aY (v34),false⟩]⟩⟩) (fun v34=>⟨[(2,aS v34 0),(6,.nil)],⟨[some ⟨211,jR p0⟩],[⟨9,1,aY (v34),false⟩]⟩⟩) (eX H) ?_ ?_
 ·rintro i32 v34 H
  refine gQ 9 ?_;refine c5 H (fun h36 h36l H=>?_) (fun h36 H=>?_)
  ·refine gQ 3 ?_;refine gI H fun y37 h38 H=>(cK H fun z39 H=>(cK H fun z40 H=>(bM H fun x42 z41 H=>(dW (dI [3] bY (dB [69] 0 3 vE (dI [9] bG (dI [70,71] (zM h38 h36l) (dI [72] zL (dI [73] (iR (aL.cs y37.aEe)) (dE [] (sA ([]:LB)) (dI [1] bG (dE [75,76] (mA z39) ?_)))))))))))))
   refine dI [3] bY (dB [78] 0 2 vE (dI [9] bG (dI [79,80] (zM h38 h36l) (dI [81] zL (dI [82] yB (dE [77,83] (mA z40) (dI [2] bG (dE [74,84,85] (fJ [] [0] func267 (p9 y37.aEe ((([])++p7)++y37.aEh) v34 _ z41)) (dI [86] bG (dN ?_))))))))))
   exact gE 5
  exact gE 0
 rintro v34 H
 exact gE 5
def nT:Nat→aL→(LB)→(LB)→J ((LB))
 |0,_,_,_=>none
 |fu+1,p0,p7,pE=>N3 fu (nT fu) p0 p7 pE
theorem adU(fu:Nat):G3 (nT fu):=by
 induction fu with
 |zero=>exact(fun p0 p7 pE r H=>by simp only [nT] at H;cases H)
 |succ fu ih=>exact(fun p0 p7 pE r H=>by simp only [nT] at H;exact aaG fu (nT fu) ih p0 p7 pE r H)
theorem ahP(fu:Nat):G3 (nT fu):=(adU fu)
def xJ(fu:Nat)(pe:aL):J ((LB)):=bd (nT fu pe ([]) ([])) fun x2=>some x2
theorem QB(fu:Nat)(pe:aL)(r:(LB))(H:xJ fu pe=some r):bS prog 261 [(aL.pv pe)] (rS r):=by
 refine qJ func261 H (fun C hC H=>?_)
 refine gQ 2 ?_;refine q1 (fN (jR pe)) ?_;refine gQ 4 ?_;refine q1 (b5 [pI pe.aD8,pS pe.aEb,pS pe.aD4,pI pe.aEM,pI pe.aD6.aD8,pS pe.aD6.aD4,aT pe.aD6.aD5,jF pe.aD5,tA pe.aEo]) ?_
 iterate 2 refine q1 (sA ([]:LB)) ?_
 refine bM H fun x2 z1 H=>(q1 (fJ [] [1] func267 (ahP fu pe ([]) ([]) _ z1)) ?_)
 exact gE 2
def T6(fu:Nat)(pt:aA)(p4 x2:LB):Nat→Unit→J (LR Unit Bool):=fun i3 _=>bd (lS fu p4 (aR x2 i3)) fun x7=>sw (!(x7)) (some (.ret false)) (some (.next ()))
def mJ(fu:Nat)(pt:aA)(p4:LB):J Bool:=bd (oO fu pt) fun x2=>so (loopN (T6 fu pt p4 x2) (x2.length-0) 0 ()) fun _=>bd (iU fu pt) fun x10=>some x10
theorem sR(fu:Nat)(pt:aA)(p4:LB)(r:Bool)(H:mJ fu pt p4=some r):bS prog 248 [(aA.pv pt),rS p4] (pB r):=by
 refine qJ func248 H (fun C hC H=>?_)
 refine gQ 2 ?_;refine q1 (fN (b7 pt)) ?_;refine gQ 4 ?_;refine q1 (b5 [pI pt.aD8,pS pt.aD4,aT pt.aD5]) (bM H fun x2 z1 H=>(q1 (bI func85 (D2 fu pt _ z1)) ?_))
 refine gQ 7 ?_;refine gM 5 (b0 _) (fun hl4=>?_)
 refine bV (σ:=Unit) (fun i3 _=>⟨[(1,rS p4),(2,.ptr 0 0),(4,pB false),(5,rS x2),(6,pN i3)],⟨[some ⟨30,b7 pt⟩],[]⟩⟩) (fun _=>⟨[(2,.ptr 0 0),(4,pB false)],⟨[some ⟨30,b7 pt⟩],[]⟩⟩) (eX H) ?_ ?_
 ·rintro i3 ⟨⟩ H
  refine gQ 8 ?_;refine c5 H (fun h5 h5l H=>?_) (fun h5 H=>?_)
  ·refine gQ 10 ?_;refine bM H fun x7 z6 H=>(q1 (bI func153 (mW fu p4 (aR x2 i3) _ z6)) ?_)
   refine gQ 2 ?_;refine bE H (fun h8 H=>gE 4) fun h8 H=>?_;exact gE 6
  exact gE 0
 rintro⟨⟩ H
 refine gQ 2 ?_;refine q1 (b5 [pI pt.aD8,pS pt.aD4,aT pt.aD5]) (bM H fun x10 z9 H=>(q1 (bI func258 (mU fu pt _ z9)) ?_))
 exact gE 2
def YA(fu:Nat)(p2:Z aA)(p4:LB):Nat→Unit→J (LR Unit Bool):=fun i1 _=>bd (mJ fu (aR p2 i1) p4) fun x5=>sw (!(x5)) (some (.ret false)) (some (.next ()))
def BI(fu:Nat)(p2:Z aA)(p4:LB):J Bool:=so (loopN (YA fu p2 p4) (p2.length-0) 0 ()) fun _=>some true
theorem YB(fu:Nat)(p2:Z aA)(p4:LB)(r:Bool)(H:BI fu p2 p4=some r):bS prog 247 [aT p2,rS p4] (pB r):=by
 refine qJ func247 H (fun C hC H=>?_)
 refine gQ 9 ?_;refine gM 0 (aA.trs_len _) (fun hl2=>?_)
 refine bV (σ:=Unit) (fun i1 _=>⟨[(0,aT p2),(1,rS p4),(4,pB false),(5,pN i1)],⟨[],[]⟩⟩) (fun _=>⟨[(4,pB false)],⟨[],[]⟩⟩) (eX H) ?_ ?_
 ·rintro i1 ⟨⟩ H
  refine gQ 8 ?_;refine c5 H (fun h3 h3l H=>?_) (fun h3 H=>?_)
  ·refine gQ 8 ?_;refine q1 (iR (aA.cs (aR p2 i1))) (q1 bG (bM H fun x5 z4 H=>(q1 (bI func248 (sR fu (aR p2 i1) p4 _ z4)) ?_)))
   refine gQ 2 ?_;refine bE H (fun h6 H=>gE 4) fun h6 H=>?_;exact gE 6
  exact gE 0
 rintro⟨⟩ H
 exact gE 4
def N8(fu:Nat)(pe:aL):J Bool:=bd (kZ fu pe (aL.mk 0 s_ s_ 0 (aA.mk 0 s_ []) [] [])) fun x2=>some x2
theorem ah3(fu:Nat)(pe:aL)(r:Bool)(H:N8 fu pe=some r):bS prog 257 [(aL.pv pe)] (pB r):=by
 refine qJ func257 H (fun C hC H=>?_)
 refine gQ 2 ?_;refine q1 (fN (jR pe)) ?_;refine gQ 4 ?_;refine q1 (b5 [pI pe.aD8,pS pe.aEb,pS pe.aD4,pI pe.aEM,pI pe.aD6.aD8,pS pe.aD6.aD4,aT pe.aD6.aD5,jF pe.aD5,tA pe.aEo]) (q1 rR (bM H fun x2 z1 H=>(q1 (bI func263 (Z3 fu pe (aL.mk 0 s_ s_ 0 (aA.mk 0 s_ []) [] []) _ z1)) ?_)))
 exact gE 2
def gV(fu:Nat)(p2:LB)(pF:Int):J Bool:=sw (decide ((p2.length:Int)≤pF)) (bd (HQ fu p2) fun x3=>sw x3 (bd (lH fu p2) fun x6=>some x6) (some false)) (some false)
theorem iC(fu:Nat)(p2:LB)(pF:Int)(r:Bool)(H:gV fu p2 pF=some r):bS prog 206 [rS p2,pI pF] (pB r):=by
 refine qJ func206 H (fun C hC H=>?_)
 refine gQ 11 ?_;refine dK 9 H (fun g1 H=>?_) fun g1 H=>?_
 ·refine qg g1 bG (bM H fun x3 z2 H=>(qg g1 (bI func228 (UE fu p2 _ z2)) ?_))
  refine gQ 2 ?_;refine dK 13 H (fun g4 H=>?_) fun g4 H=>?_
  ·refine qg g4 bG (bM H fun x6 z5 H=>(qg g4 (bI func207 (mT fu p2 _ z5)) ?_))
   exact gE 3
  exact gE 5
 exact gE 9
def ah0(fu:Nat)(pe:aL)(p4 x2:LB):Nat→Unit→J (LR Unit Bool):=fun i3 _=>bd (lS fu p4 (aR x2 i3)) fun x7=>sw (!(x7)) (some (.ret false)) (some (.next ()))
def CY(fu:Nat)(pe:aL)(p4:LB):J Bool:=bd (xJ fu pe) fun x2=>so (loopN (ah0 fu pe p4 x2) (x2.length-0) 0 ()) fun _=>bd (CR fu pe) fun x10=>some x10
theorem JS(fu:Nat)(pe:aL)(p4:LB)(r:Bool)(H:CY fu pe p4=some r):bS prog 252 [(aL.pv pe),rS p4] (pB r):=by
 refine qJ func252 H (fun C hC H=>?_)
 refine gQ 2 ?_;refine q1 (fN (jR pe)) ?_;refine gQ 4 ?_;refine q1 (b5 [pI pe.aD8,pS pe.aEb,pS pe.aD4,pI pe.aEM,pI pe.aD6.aD8,pS pe.aD6.aD4,aT pe.aD6.aD5,jF pe.aD5,tA pe.aEo]) (bM H fun x2 z1 H=>(q1 (bI func261 (QB fu pe _ z1)) ?_))
 refine gQ 7 ?_;refine gM 5 (b0 _) (fun hl4=>?_)
 refine bV (σ:=Unit) (fun i3 _=>⟨[(1,rS p4),(2,.ptr 0 0),(4,pB false),(5,rS x2),(6,pN i3)],⟨[some ⟨211,jR pe⟩],[]⟩⟩) (fun _=>⟨[(2,.ptr 0 0),(4,pB false)],⟨[some ⟨211,jR pe⟩],[]⟩⟩) (eX H) ?_ ?_
 ·rintro i3 ⟨⟩ H
  refine gQ 8 ?_;refine c5 H (fun h5 h5l H=>?_) (fun h5 H=>?_)
  ·refine gQ 10 ?_;refine bM H fun x7 z6 H=>(q1 (bI func153 (mW fu p4 (aR x2 i3) _ z6)) ?_)
   refine gQ 2 ?_;refine bE H (fun h8 H=>gE 4) fun h8 H=>?_;exact gE 6
  exact gE 0
 rintro⟨⟩ H
 refine gQ 2 ?_;refine q1 (b5 [pI pe.aD8,pS pe.aEb,pS pe.aD4,pI pe.aEM,pI pe.aD6.aD8,pS pe.aD6.aD4,aT pe.aD6.aD5,jF pe.aD5,tA pe.aEo]) (bM H fun x10 z9 H=>(q1 (bI func262 (U4 fu pe _ z9)) ?_))
 exact gE 2
def S9(fu:Nat)(ps:aG):J Bool:=bd (dM fu ps.aD4) fun x2=>sw (!(x2)) (some false) (sw (decide ((ps.aEn.length:Int)>4)) (some false) (bd (BI fu ps.aEn ([kS]:LB)) fun x6=>sw (!(x6)) (some false) (bd (mJ fu ps.aEl ([kS]:LB)) fun x9=>sw (!(x9)) (some false) (sw (!(ps.aED)) (sw (decide ((ps.aEh.length:Int)=0)) (bd (N8 fu ps.aEe) fun x14=>some x14) (some false)) (bd (gV fu ps.aEh 5) fun x16=>sw x16 (sw (decide ((ps.aEh.length:Int)=aW ((ps.aEn.length:Int)+1))) (bd (CY fu ps.aEe ps.aEh) fun x20=>some x20) (some false)) (some false))))))
theorem akS(fu:Nat)(ps:aG)(r:Bool)(H:S9 fu ps=some r):bS prog 246 [(aG.pv ps)] (pB r):=by
 refine qJ func246 H (fun C hC H=>?_)
 refine gQ 2 ?_;refine q1 (fN (ajG ps)) ?_;refine gQ 7 ?_;refine bM H fun x2 z1 H=>(q1 (bI func205 (eN fu ps.aD4 _ z1)) ?_)
 refine gQ 2 ?_;refine dK 7 H (fun g3 H=>gE 25) fun g3 H=>?_;refine gQ 6 ?_;refine dK 13 H (fun g4 H=>gE 19) fun g4 H=>?_;refine gQ 2 ?_;refine qg g4 (iQ ([kS]:LB)) (bM H fun x6 z5 H=>(qg g4 (bI func247 (YB fu ps.aEn ([kS]:LB) _ z5)) ?_))
 refine gQ 3 ?_;refine dK 20 H (fun g7 H=>gE 12) fun g7 H=>?_;refine qg g7 bY (qg g7 (b5 [pI ps.aEl.aD8,pS ps.aEl.aD4,aT ps.aEl.aD5]) (qg g7 (iQ ([kS]:LB)) (bM H fun x9 z8 H=>(qg g7 (bI func248 (sR fu ps.aEl ([kS]:LB) _ z8)) ?_))))
 refine gQ 3 ?_;refine bE H (fun h10 H=>gE 4) fun h10 H=>?_;refine gQ 8 ?_;refine bE H (fun h11 H=>?_) (fun h11 H=>?_)
 ·refine gQ 7 ?_;refine dK 34 H (fun g12 H=>?_) fun g12 H=>?_
  ·refine qg g12 bY (qg g12 (b5 [pI ps.aEe.aD8,pS ps.aEe.aEb,pS ps.aEe.aD4,pI ps.aEe.aEM,pI ps.aEe.aD6.aD8,pS ps.aEe.aD6.aD4,aT ps.aEe.aD6.aD5,jF ps.aEe.aD5,tA ps.aEe.aEo]) (bM H fun x14 z13 H=>(qg g12 (bI func257 (ah3 fu ps.aEe _ z13)) ?_)))
   exact gE 3
  exact gE 6
 refine gQ 5 ?_;refine bM H fun x16 z15 H=>(q1 (bI func206 (iC fu ps.aEh 5 _ z15)) (q1 bG ?_))
 refine dK 42 H (fun g17 H=>?_) fun g17 H=>?_
 ·refine gQ 6 ?_;refine qg g17 rAw ?_;refine gQ 3 ?_;refine dK 52 H (fun g18 H=>?_) fun g18 H=>?_
  ·refine qg g18 bY (qg g18 (b5 [pI ps.aEe.aD8,pS ps.aEe.aEb,pS ps.aEe.aD4,pI ps.aEe.aEM,pI ps.aEe.aD6.aD8,pS ps.aEe.aD6.aD4,aT ps.aEe.aD6.aD5,jF ps.aEe.aD5,tA ps.aEe.aEo]) ?_)
   refine gQ 2 ?_;refine bM H fun x20 z19 H=>(qg g18 (bI func252 (JS fu ps.aEe ps.aEh _ z19)) ?_)
   exact gE 3
  exact gE 8
 exact gE 18
def SR(fu:Nat)(pt:aU):Nat→((LB))→J (LR ((LB)) Bool):=fun i1 v3=>lt (aR pt.aEp i1) fun y6=>bd (S9 fu y6) fun x9=>sw (!(x9)) (some (.ret false)) (gd ((v3).length+(([y6.aD4]:LB)).length≤68719476736) (some (.next (v3++([y6.aD4]:LB)))))
def t9(fu:Nat)(pt:aU):J Bool:=so (loopN (SR fu pt) (pt.aEp.length-0) 0 ([])) fun v3=>sw (pt.aEA) (sw (pt.aEq) (some false) (sw (decide ((pt.aEp.length:Int)>0)) (some false) (sw (decide ((pt.aEc.length:Int)>0)) (some false) (bd (dM fu pt.aD4) fun x17=>sw x17 (bd (gV fu pt.aEc 4) fun x20=>sw x20 (bd (gV fu v3 6) fun x23=>some x23) (some false)) (some false))))) (bd (dM fu pt.aD4) fun x25=>sw x25 (bd (gV fu pt.aEc 4) fun x28=>sw x28 (bd (gV fu v3 6) fun x31=>some x31) (some false)) (some false))
theorem FV(fu:Nat)(pt:aU)(r:Bool)(H:t9 fu pt=some r):bS prog 229 [(aU.pv pt)] (pB r):=by
 refine qJ func229 H (fun C hC H=>?_)
 refine gQ 2 ?_;refine q1 (fN (tM pt)) ?_;refine gQ 4 ?_;refine q1 (sA ([]:LB)) ?_;refine gQ 7 ?_;refine c7.fact (cQ 0 4 rfl rfl rfl (aG.trs_len _)) (fun hl4=>?_)
 refine bV (σ:=(LB)) (fun i1 v3=>⟨[(1,.ptr 0 0),(2,pB false),(3,aS v3 0),(4,pN i1)],⟨[some ⟨156,tM pt⟩],[⟨9,1,aY (v3),false⟩]⟩⟩) (fun v3=>⟨[(1,.ptr 0 0),(2,pB false),(3,aS v3 0)],⟨[some ⟨156,tM pt⟩],[⟨9,1,aY (v3),false⟩]⟩⟩) (eX H) ?_ ?_
 ·rintro i1 v3 H
  refine gQ 9 ?_;refine c5 H (fun h5 h5l H=>?_) (fun h5 H=>?_)
  ·refine gQ 9 ?_;refine gI H fun y6 h7 H=>(q1 (zM h7 h5l) (q1 (iR (aG.cs y6)) (bM H fun x9 z8 H=>(q1 (bI func246 (akS fu y6 _ z8)) ?_))))
   refine gQ 2 ?_;refine bE H (fun h10 H=>gE 4) fun h10 H=>?_;refine gQ 6 ?_;refine q1 (zM h7 h5l) ?_;refine gQ 2 ?_;refine q1 (iQ ([y6.aD4]:LB)) (cK H fun z11 H=>(q1 (mA z11) ?_))
   exact gE 7
  exact gE 0
 rintro v3 H
 refine gQ 6 ?_;refine dK 31 H (fun g12 H=>?_) fun g12 H=>?_
 ·refine gQ 3 ?_;refine dK 34 H (fun g13 H=>gE 18) fun g13 H=>?_;refine gQ 6 ?_;refine dK 40 H (fun g14 H=>gE 12) fun g14 H=>?_;refine gQ 7 ?_;refine bE H (fun h15 H=>gE 4) fun h15 H=>?_;refine gQ 5 ?_;refine bM H fun x17 z16 H=>(q1 (bI func205 (eN fu pt.aD4 _ z16)) (q1 bG ?_))
  refine dK 50 H (fun g18 H=>?_) fun g18 H=>?_
  ·refine gQ 2 ?_;refine bM H fun x20 z19 H=>(qg g18 (bI func206 (iC fu pt.aEc 4 _ z19)) ?_)
   refine gQ 2 ?_;refine dK 55 H (fun g21 H=>?_) fun g21 H=>?_
   ·refine qg g21 bG (bM H fun x23 z22 H=>(qg g21 (bI func206 (iC fu v3 6 _ z22)) ?_))
    exact gE 3
   exact gE 5
  exact gE 10
 refine gQ 22 ?_;refine bM H fun x25 z24 H=>(q1 (bI func205 (eN fu pt.aD4 _ z24)) (q1 bG ?_))
 refine dK 50 H (fun g26 H=>?_) fun g26 H=>?_
 ·refine gQ 2 ?_;refine bM H fun x28 z27 H=>(qg g26 (bI func206 (iC fu pt.aEc 4 _ z27)) ?_)
  refine gQ 2 ?_;refine dK 55 H (fun g29 H=>?_) fun g29 H=>?_
  ·refine qg g29 bG (bM H fun x31 z30 H=>(qg g29 (bI func206 (iC fu v3 6 _ z30)) ?_))
   exact gE 3
  exact gE 5
 exact gE 10
def AJ(fu:Nat)(pd:aM):Nat→((LB))→J (LR ((LB)) Bool):=fun i1 v3=>sw (decide ((((((aR pd.aD9 i1).aEm).length:Nat):Int):Int)>4)) (some (.ret false)) (bd (BI fu ((aR pd.aD9 i1).aEm) pd.aEh) fun x8=>sw (!(x8)) (some (.ret false)) (gd ((v3).length+(([((aR pd.aD9 i1).aD4)]:LB)).length≤68719476736) (some (.next (v3++([((aR pd.aD9 i1).aD4)]:LB))))))
def kQ(fu:Nat)(pd:aM):J Bool:=so (loopN (AJ fu pd) (pd.aD9.length-0) 0 ([])) fun v3=>bd (dM fu pd.aD4) fun x12=>sw x12 (bd (gV fu pd.aEh 3) fun x15=>sw x15 (sw (decide ((v3.length:Int)>0)) (bd (gV fu v3 5) fun x19=>some x19) (some false)) (some false)) (some false)
theorem AK(fu:Nat)(pd:aM)(r:Bool)(H:kQ fu pd=some r):bS prog 230 [(aM.pv pd)] (pB r):=by
 refine qJ func230 H (fun C hC H=>?_)
 refine gQ 2 ?_;refine q1 (fN (jX pd)) ?_;refine gQ 4 ?_;refine q1 (sA ([]:LB)) ?_;refine gQ 7 ?_;refine c7.fact (cQ 0 2 rfl rfl rfl (aC.trs_len _)) (fun hl4=>?_)
 refine bV (σ:=(LB)) (fun i1 v3=>⟨[(1,.ptr 0 0),(2,pB false),(3,aS v3 0),(4,pN i1)],⟨[some ⟨39,jX pd⟩],[⟨9,1,aY (v3),false⟩]⟩⟩) (fun v3=>⟨[(1,.ptr 0 0),(2,pB false),(3,aS v3 0)],⟨[some ⟨39,jX pd⟩],[⟨9,1,aY (v3),false⟩]⟩⟩) (eX H) ?_ ?_
 ·rintro i1 v3 H
  refine gQ 9 ?_;refine c5 H (fun h5 h5l H=>?_) (fun h5 H=>?_)
  ·refine gQ 5 ?_
   rcases n0 (decide ((((((aR pd.aD9 i1).aEm).length:Nat):Int):Int)>4)) with g6|g6
   ·have H:=r9 H g6
    refine dW (dI [1] bY (dD [13] eI (dI [4] bG (dI [14,15] rB (dI [16] zL (dI [17] yB (dI [18] UH (dI [19] rGt (dI [20] bG ?_)))))))))
    iterate 10 refine KA g6 ?_
    refine dI [21] (DB g6) (dN ?_)
    exact gE 5
   have H:=r8 H g6
   refine bM H fun x8 z7 H=>(dW (dI [1] bY (dD [13] eI (dI [4] bG (dI [14,15] rB (dI [16] zL (dI [17] yB (dI [18] UH (dI [19] rGt (dI [20] bG (dI (hg:=bB g6) [1] bY (dD (hg:=bB g6) [22] eI (dI (hg:=bB g6) [4] bG ?_)))))))))))))
   refine dI (hg:=bB g6) [23,24] rB (dI (hg:=bB g6) [25] zL (dI (hg:=bB g6) [26] yB (dI (hg:=bB g6) [1] bY (dD (hg:=bB g6) [28] eI (dI (hg:=bB g6) [27,29] (bI func247 (YB fu ((aR pd.aD9 i1).aEm) pd.aEh _ z7)) (dI (hg:=bB g6) [30] LI (dI [21,31] (EQ g6) (dN ?_))))))))
   refine bE H (fun h9 H=>gE 4) fun h9 H=>?_;refine gQ 9 ?_;refine q1 (iQ ([((aR pd.aD9 i1).aD4)]:LB)) (cK H fun z10 H=>(q1 (mA z10) ?_))
   exact gE 7
  exact gE 0
 rintro v3 H
 refine gQ 4 ?_;refine bM H fun x12 z11 H=>(q1 (bI func205 (eN fu pd.aD4 _ z11)) (q1 bG ?_))
 refine dK 45 H (fun g13 H=>?_) fun g13 H=>?_
 ·refine gQ 2 ?_;refine bM H fun x15 z14 H=>(qg g13 (bI func206 (iC fu pd.aEh 3 _ z14)) ?_)
  refine gQ 2 ?_;refine dK 50 H (fun g16 H=>?_) fun g16 H=>?_
  ·refine gQ 5 ?_;refine dK 55 H (fun g17 H=>?_) fun g17 H=>?_
   ·refine qg g17 bG (bM H fun x19 z18 H=>(qg g17 (bI func206 (iC fu v3 5 _ z18)) ?_))
    exact gE 3
   exact gE 5
  exact gE 10
 exact gE 15
def AB(fu:Nat)(pb:aF):J Bool:=bd (dM fu pb.aEb) fun x2=>sw x2 (bd (iU fu pb.aD6) fun x5=>some x5) (some false)
theorem SQ(fu:Nat)(pb:aF)(r:Bool)(H:AB fu pb=some r):bS prog 259 [(aF.pv pb)] (pB r):=by
 refine qJ func259 H (fun C hC H=>?_)
 refine gQ 2 ?_;refine q1 (fN (dG pb)) ?_;refine gQ 6 ?_;refine bM H fun x2 z1 H=>(q1 (bI func205 (eN fu pb.aEb _ z1)) (q1 bG ?_))
 refine dK 6 H (fun g3 H=>?_) fun g3 H=>?_
 ·refine qg g3 bY (qg g3 (b5 [pI pb.aD6.aD8,pS pb.aD6.aD4,aT pb.aD6.aD5]) (bM H fun x5 z4 H=>(qg g3 (bI func258 (mU fu pb.aD6 _ z4)) ?_)))
  exact gE 3
 exact gE 6
def QL(fu:Nat)(p2:Z aF)(p4:LB):Nat→Unit→J (LR Unit Bool):=fun i1 _=>bd (AB fu (aR p2 i1)) fun x5=>sw (!(x5)) (some (.ret false)) (bd (mJ fu ((aR p2 i1).aD6) p4) fun x8=>sw (!(x8)) (some (.ret false)) (bd (eA fu ((aR p2 i1).aD6)) fun x11=>sw x11 (some (.ret false)) (some (.next ()))))
def vA(fu:Nat)(p2:Z aF)(p4:LB):J Bool:=so (loopN (QL fu p2 p4) (p2.length-0) 0 ()) fun _=>some (decide ((p2.length:Int)≤4))
theorem QM(fu:Nat)(p2:Z aF)(p4:LB)(r:Bool)(H:vA fu p2 p4=some r):bS prog 249 [cP p2,rS p4] (pB r):=by
 refine qJ func249 H (fun C hC H=>?_)
 refine gQ 9 ?_;refine gM 0 (aF.trs_len _) (fun hl2=>?_)
 refine bV (σ:=Unit) (fun i1 _=>⟨[(0,cP p2),(1,rS p4),(4,pB false),(5,pN i1)],⟨[],[]⟩⟩) (fun _=>⟨[(0,cP p2),(4,pB false)],⟨[],[]⟩⟩) (eX H) ?_ ?_
 ·rintro i1 ⟨⟩ H
  refine gQ 8 ?_;refine c5 H (fun h3 h3l H=>?_) (fun h3 H=>?_)
  ·refine gQ 8 ?_;refine q1 (iR (aF.cs (aR p2 i1))) (bM H fun x5 z4 H=>(q1 (bI func259 (SQ fu (aR p2 i1) _ z4)) ?_))
   refine gQ 2 ?_;refine dK 18 H (fun g6 H=>gE 23) fun g6 H=>?_;refine gQ 4 ?_;refine qg g6 (iR (aA.cs ((aR p2 i1).aD6))) (qg g6 bG (bM H fun x8 z7 H=>(qg g6 (bI func248 (sR fu ((aR p2 i1).aD6) p4 _ z7)) ?_)))
   refine gQ 3 ?_;refine dK 28 H (fun g9 H=>gE 13) fun g9 H=>?_;refine gQ 4 ?_;refine qg g9 (iR (aA.cs ((aR p2 i1).aD6))) (bM H fun x11 z10 H=>(qg g9 (bI func86 (wA fu ((aR p2 i1).aD6) _ z10)) ?_))
   refine gQ 2 ?_;refine bE H (fun h12 H=>gE 4) fun h12 H=>?_;exact gE 6
  exact gE 0
 rintro⟨⟩ H
 exact gE 7
def AO(fu:Nat)(p0:aI)(x2 x5 x8 x11 x15:Bool):Nat→Unit→J (LR Unit Bool):=fun i17 _=>bd (JL fu (aR p0.aEh i17) p0.aEj) fun x21=>sw (!(x21)) (some (.ret false)) (some (.next ()))
def AN(fu:Nat)(p0:aI)(x2 x5 x8 x11 x15:Bool):J (Bool⊕Unit):=sw (p0.aEE) (bd (mJ fu p0.aEq p0.aEh) fun x25=>sw (!(x25)) (some (.inl false)) (some (.inr ()))) (bd (pZ fu p0.aEq) fun x28=>sw (!(x28)) (some (.inl false)) (some (.inr ())))
def AP(fu:Nat)(p0:aI)(x2 x5 x8 x11 x15:Bool):Nat→((LB))→J (LR ((LB)) Bool):=fun i30 v32=>lt (aR p0.aEw i30) fun y35=>sw (decide ((y35.aEh.length:Int)=0)) (some (.ret false)) (bd (gV fu y35.aEh 5) fun x39=>sw (!(x39)) (some (.ret false)) (bd (CY fu y35.aEe y35.aEh) fun x42=>sw (!(x42)) (some (.ret false)) (gd ((v32).length+(([y35.aD4]:LB)).length≤68719476736) (some (.next (v32++([y35.aD4]:LB)))))))
def kR(fu:Nat)(p0:aI):J Bool:=bd (dM fu p0.aEb) fun x2=>sw (!(x2)) (some false) (bd (gV fu p0.aEh 3) fun x5=>sw (!(x5)) (some false) (bd (mJ fu p0.aEj p0.aEh) fun x8=>sw (!(x8)) (some false) (bd (eA fu p0.aEj) fun x11=>sw x11 (some false) (sw (decide (p0.aEj.aD8=4)) (some false) (bd (vA fu p0.aEk p0.aEh) fun x15=>sw (!(x15)) (some false) (so (loopN (AO fu p0 x2 x5 x8 x11 x15) (p0.aEh.length-0) 0 ()) fun _=>so (AN fu p0 x2 x5 x8 x11 x15) fun _=>so (loopN (AP fu p0 x2 x5 x8 x11 x15) (p0.aEw.length-0) 0 ([])) fun v32=>bd (gV fu v32 6) fun x46=>some x46))))))
theorem AQ(fu:Nat)(p0:aI)(r:Bool)(H:kR fu p0=some r):bS prog 231 [(aI.pv p0)] (pB r):=by
 refine qJ func231 H (fun C hC H=>?_)
 refine gQ 2 ?_;refine q1 (fN (dU p0)) ?_;refine gQ 7 ?_;refine bM H fun x2 z1 H=>(q1 (bI func205 (eN fu p0.aEb _ z1)) ?_)
 refine gQ 2 ?_;refine dK 11 H (fun g3 H=>gE 38) fun g3 H=>?_;refine gQ 2 ?_;refine bM H fun x5 z4 H=>(qg g3 (bI func206 (iC fu p0.aEh 3 _ z4)) ?_)
 refine gQ 3 ?_;refine dK 17 H (fun g6 H=>gE 32) fun g6 H=>?_;refine qg g6 bY (qg g6 (b5 [pI p0.aEj.aD8,pS p0.aEj.aD4,aT p0.aEj.aD5]) ?_)
 refine gQ 2 ?_;refine bM H fun x8 z7 H=>(qg g6 (bI func248 (sR fu p0.aEj p0.aEh _ z7)) ?_)
 refine gQ 3 ?_;refine dK 25 H (fun g9 H=>gE 24) fun g9 H=>?_;refine qg g9 bY (qg g9 (b5 [pI p0.aEj.aD8,pS p0.aEj.aD4,aT p0.aEj.aD5]) (bM H fun x11 z10 H=>(qg g9 (bI func86 (wA fu p0.aEj _ z10)) ?_)))
 refine gQ 2 ?_;refine dK 30 H (fun g12 H=>gE 19) fun g12 H=>?_;refine gQ 6 ?_;refine dK 36 H (fun g13 H=>gE 13) fun g13 H=>?_;refine gQ 4 ?_;refine bM H fun x15 z14 H=>(qg g13 (bI func249 (QM fu p0.aEk p0.aEh _ z14)) ?_)
 refine gQ 3 ?_;refine bE H (fun h16 H=>gE 4) fun h16 H=>?_;refine gQ 6 ?_;refine gM 13 (b0 _) (fun hl18=>?_)
 refine bV (σ:=Unit) (fun i17 _=>⟨[(1,.ptr 0 0),(2,pB false),(3,pN i17)],⟨[some ⟨163,dU p0⟩],[]⟩⟩) (fun _=>⟨[(1,.ptr 0 0),(2,pB false)],⟨[some ⟨163,dU p0⟩],[]⟩⟩) (eX H) ?_ ?_
 ·rintro i17 ⟨⟩ H
  refine gQ 9 ?_;refine c5 H (fun h19 h19l H=>?_) (fun h19 H=>?_)
  ·refine gQ 4 ?_;refine bM H fun x21 z20 H=>(dW (dI [1] bY (dD [51] eI (dI [3] bG (dI [52,53] rB (dI [54] yB (dI [1] bY (dD [56] (b5 [pI p0.aEj.aD8,pS p0.aEj.aD4,aT p0.aEj.aD5]) (dI [55,57] (bI func250 (adO fu (aR p0.aEh i17) p0.aEj _ z20)) (dI [58] LI (dN ?_)))))))))))
   refine bE H (fun h22 H=>gE 4) fun h22 H=>?_;exact gE 6
  exact gE 0
 rintro⟨⟩ H
 refine qS ?_;refine oT (σ:=Unit) (fun _=>⟨[(1,.ptr 0 0),(2,pB false)],⟨[some ⟨163,dU p0⟩],[]⟩⟩) (eX H) (fun H=>?_) ?_
 ·refine gQ 5 ?_;refine dK 62 H (fun g23 H=>?_) fun g23 H=>?_
  ·refine qg g23 bY (qg g23 (b5 [pI p0.aEq.aD8,pS p0.aEq.aD4,aT p0.aEq.aD5]) ?_)
   refine gQ 2 ?_;refine bM H fun x25 z24 H=>(qg g23 (bI func248 (sR fu p0.aEq p0.aEh _ z24)) ?_)
   refine gQ 3 ?_;refine dK 70 H (fun g26 H=>gE 16) fun g26 H=>?_;refine gQ 4 ?_
   iterate 4 refine qk (congrArg (fun b=> !b) g23) ?_
   refine qg g26 (EQ (congrArg (fun b=> !b) g23)) ?_;exact gE 4
  refine gQ 12 ?_;refine qg (congrArg (fun b=> !b) g23) bY (qg (congrArg (fun b=> !b) g23) (b5 [pI p0.aEq.aD8,pS p0.aEq.aD4,aT p0.aEq.aD5]) (bM H fun x28 z27 H=>(qg (congrArg (fun b=> !b) g23) (bI func251 (zC fu p0.aEq _ z27)) (qg (congrArg (fun b=> !b) g23) LI (qg rfl (DB (congrArg (fun b=> !b) g23)) ?_)))))
  refine gQ 2 ?_;refine bE H (fun h29 H=>gE 4) fun h29 H=>?_;exact gE 1
 rintro⟨⟩ H
 refine gQ 2 ?_;refine q1 (sA ([]:LB)) ?_;refine gQ 7 ?_;refine c7.fact (cQ 0 11 rfl rfl rfl (aP.trs_len _)) (fun hl33=>?_)
 refine bV (σ:=(LB)) (fun i30 v32=>⟨[(1,.ptr 0 0),(2,pB false),(4,aS v32 0),(5,pN i30)],⟨[some ⟨163,dU p0⟩],[⟨9,1,aY (v32),false⟩]⟩⟩) (fun v32=>⟨[(2,pB false),(4,aS v32 0)],⟨[some ⟨163,dU p0⟩],[⟨9,1,aY (v32),false⟩]⟩⟩) (eX H) ?_ ?_
 ·rintro i30 v32 H
  refine gQ 9 ?_;refine c5 H (fun h34 h34l H=>?_) (fun h34 H=>?_)
  ·refine gQ 8 ?_;refine gI H fun y35 h36 H=>(q1 (zM h36 h34l) (q1 (iR (aP.cs y35)) ?_))
   refine gQ 11 ?_;refine dK 98 H (fun g37 H=>gE 19) fun g37 H=>?_;refine gQ 2 ?_;refine bM H fun x39 z38 H=>(qg g37 (bI func206 (iC fu y35.aEh 5 _ z38)) ?_)
   refine gQ 3 ?_;refine dK 104 H (fun g40 H=>gE 13) fun g40 H=>?_;refine qg g40 bY (qg g40 (b5 [pI y35.aEe.aD8,pS y35.aEe.aEb,pS y35.aEe.aD4,pI y35.aEe.aEM,pI y35.aEe.aD6.aD8,pS y35.aEe.aD6.aD4,aT y35.aEe.aD6.aD5,jF y35.aEe.aD5,tA y35.aEe.aEo]) ?_)
   refine gQ 2 ?_;refine bM H fun x42 z41 H=>(qg g40 (bI func252 (JS fu y35.aEe y35.aEh _ z41)) ?_)
   refine gQ 3 ?_;refine bE H (fun h43 H=>gE 4) fun h43 H=>?_;refine gQ 5 ?_;refine q1 (iQ ([y35.aD4]:LB)) (cK H fun z44 H=>(q1 (mA z44) ?_))
   exact gE 7
  exact gE 0
 rintro v32 H
 refine gQ 3 ?_;refine bM H fun x46 z45 H=>(q1 (bI func206 (iC fu v32 6 _ z45)) ?_)
 exact gE 2
def LV(fu:Nat)(pf:aO):Nat→((LB))→J (LR ((LB)) Bool):=fun i1 v3=>bd (mJ fu ((aR pf.aEn i1).aD6) pf.aEh) fun x7=>sw (!(x7)) (some (.ret false)) (gd ((v3).length+(([((aR pf.aEn i1).aD4)]:LB)).length≤68719476736) (some (.next (v3++([((aR pf.aEn i1).aD4)]:LB)))))
def pY(fu:Nat)(pf:aO):J Bool:=so (loopN (LV fu pf) (pf.aEn.length-0) 0 ([])) fun v3=>bd (dM fu pf.aD4) fun x11=>sw x11 (bd (gV fu pf.aEh 3) fun x14=>sw x14 (bd (vA fu pf.aEk pf.aEh) fun x17=>sw x17 (bd (gV fu v3 5) fun x20=>sw x20 (bd (mJ fu pf.aEl pf.aEh) fun x23=>sw x23 (bd (CY fu pf.aEe v3) fun x26=>some x26) (some false)) (some false)) (some false)) (some false)) (some false)
theorem AM(fu:Nat)(pf:aO)(r:Bool)(H:pY fu pf=some r):bS prog 232 [(aO.pv pf)] (pB r):=by
 refine qJ func232 H (fun C hC H=>?_)
 refine gQ 2 ?_;refine q1 (fN (BC pf)) ?_;refine gQ 4 ?_;refine q1 (sA ([]:LB)) ?_;refine gQ 7 ?_;refine c7.fact (cQ 0 3 rfl rfl rfl (aV.trs_len _)) (fun hl4=>?_)
 refine bV (σ:=(LB)) (fun i1 v3=>⟨[(1,.ptr 0 0),(2,pB false),(3,aS v3 0),(4,pN i1)],⟨[some ⟨213,BC pf⟩],[⟨9,1,aY (v3),false⟩]⟩⟩) (fun v3=>⟨[(1,.ptr 0 0),(2,pB false),(3,aS v3 0)],⟨[some ⟨213,BC pf⟩],[⟨9,1,aY (v3),false⟩]⟩⟩) (eX H) ?_ ?_
 ·rintro i1 v3 H
  refine gQ 9 ?_;refine c5 H (fun h5 h5l H=>?_) (fun h5 H=>?_)
  ·refine gQ 5 ?_;refine bM H fun x7 z6 H=>(dW (dI [1] bY (dD [13] eI (dI [4] bG (dI [14,15] rB (dI [16] zL (dI [17] (iR (aA.cs ((aR pf.aEn i1).aD6))) (dI [1] bY (dD [19] eI (dI [18,20] (bI func248 (sR fu ((aR pf.aEn i1).aD6) pf.aEh _ z6)) (dI [21] LI (dN ?_))))))))))))
   refine bE H (fun h8 H=>gE 4) fun h8 H=>?_;refine gQ 9 ?_;refine q1 (iQ ([((aR pf.aEn i1).aD4)]:LB)) (cK H fun z9 H=>(q1 (mA z9) ?_))
   exact gE 7
  exact gE 0
 rintro v3 H
 refine gQ 4 ?_;refine bM H fun x11 z10 H=>(q1 (bI func205 (eN fu pf.aD4 _ z10)) (q1 bG ?_))
 refine dK 35 H (fun g12 H=>?_) fun g12 H=>?_
 ·refine gQ 2 ?_;refine bM H fun x14 z13 H=>(qg g12 (bI func206 (iC fu pf.aEh 3 _ z13)) ?_)
  refine gQ 2 ?_;refine dK 40 H (fun g15 H=>?_) fun g15 H=>?_
  ·refine gQ 4 ?_;refine bM H fun x17 z16 H=>(qg g15 (bI func249 (QM fu pf.aEk pf.aEh _ z16)) ?_)
   refine gQ 2 ?_;refine dK 47 H (fun g18 H=>?_) fun g18 H=>?_
   ·refine qg g18 bG (bM H fun x20 z19 H=>(qg g18 (bI func206 (iC fu v3 5 _ z19)) ?_))
    refine gQ 2 ?_;refine dK 51 H (fun g21 H=>?_) fun g21 H=>?_
    ·refine qg g21 bY (qg g21 (b5 [pI pf.aEl.aD8,pS pf.aEl.aD4,aT pf.aEl.aD5]) ?_)
     refine gQ 2 ?_;refine bM H fun x23 z22 H=>(qg g21 (bI func248 (sR fu pf.aEl pf.aEh _ z22)) ?_)
     refine gQ 2 ?_;refine dK 58 H (fun g24 H=>?_) fun g24 H=>?_
     ·refine qg g24 bY (qg g24 (b5 [pI pf.aEe.aD8,pS pf.aEe.aEb,pS pf.aEe.aD4,pI pf.aEe.aEM,pI pf.aEe.aD6.aD8,pS pf.aEe.aD6.aD4,aT pf.aEe.aD6.aD5,jF pf.aEe.aD5,tA pf.aEe.aEo]) (qg g24 bG (bM H fun x26 z25 H=>(qg g24 (bI func252 (JS fu pf.aEe v3 _ z25)) ?_))))
      exact gE 3
     exact gE 7
    exact gE 14
   exact gE 18
  exact gE 25
 exact gE 30
end
end Go.Proofs.YtfcoaagbccmahaaGreat.W
