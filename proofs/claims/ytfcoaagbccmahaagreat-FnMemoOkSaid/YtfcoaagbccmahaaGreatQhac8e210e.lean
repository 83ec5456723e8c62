/- The reference's parser, pG 4. No conditions. -/
import Derived.Test.YtfcoaagbccmahaaGreatQh3614ae5e
set_option linter.unusedSimpArgs false
set_option linter.unusedVariables false
namespace Go.Proofs.YtfcoaagbccmahaaGreat.W
set_option maxRecDepth 100000
set_option maxHeartbeats 40000000
noncomputable section
open Tryz Go.RowKit Go.Proofs
attribute [local irreducible] lt
abbrev vL:=aM→Int→Option Int
def IU(m:vL):Prop:= ∀(pe:aM) (p8:Int) (r:Int),m pe p8=some r→bU prog 268 [(aM.pv pe),pI p8] (pI r:PV)
def akL(fu:Nat)(p6:vL)(pe:aM)(p8:Int):Nat→Int→J (LR Int Int):=fun i1 v2=>sw (decide (v2≥0)) (lt (aR pe.aFt i1) fun y6=>bd (p6 y6 v2) fun x9=>some (.next x9)) (some (.brk v2))
def akM(fu:Nat)(p6:vL)(pe:aM)(p8 v2:Int):Nat→Int→J (LR Int Int):=fun i10 v11=>sw (decide (v11≥0)) (lt (aR pe.aFP i10) fun y15=>bd (p6 y15.aFE v11) fun x18=>some (.next x18)) (some (.brk v11))
def PR(fu:Nat)(p6:vL)(pe:aM)(p8:Int):J Int:=so (loopN (akL fu p6 pe p8) (pe.aFt.length-0) 0 (bB (p8-1))) fun v2=>so (loopN (akM fu p6 pe p8 v2) (pe.aFP.length-0) 0 v2) fun v11=>some v11
theorem ac3(fu:Nat)(p6:vL)(pC:IU p6):IU (PR fu p6):=by
 intro pe p8 r H
 refine qJ func268 H (fun C hC H=>?_)
 refine gQ 2 ?_;refine q1 (fQ (kH pe)) ?_;refine gQ 13 ?_;refine dR.fact (cP 0 7 rfl rfl rfl (aM.tl _)) (fun hl3=>?_)
 refine bV (σ:=Int) (fun i1 v2=>⟨[(1,pI v2),(2,.ptr 0 0),(4,pI 0),(5,pN i1)],⟨[some ⟨211,kH pe⟩],[]⟩⟩) (fun v2=>⟨[(1,pI v2),(2,.ptr 0 0),(4,pI 0)],⟨[some ⟨211,kH pe⟩],[]⟩⟩) (fA H) ?_ ?_
 ·rintro i1 v2 H
  refine gQ 9 ?_;refine xO 14 rfl (fun g4=>?_) (fun g4=>?_)
  ·have g4l:=yJ g4
   have H:=lnT g4l H
   have g4n:=yI g4
   refine gQ 4 ?_;refine bG H (fun h5 H=>?_) (fun h5 H=>?_)
   ·refine gQ 7 ?_;refine gM H fun y6 h7 H=>(q1 (AR h7 g4n) (q1 (gZ (aM.cs y6)) (q1 bI (bN H fun x9 z8 H=>(q1 (bJ func268 (pC y6 v2 _ z8)) ?_)))))
    exact gE 7
   exact gE 0
  have H:=lnE (yH g4) H
  exact gE 5
 rintro v2 H
 refine gQ 5 ?_;refine dR.fact (cP 0 8 rfl rfl rfl (cC.tl _)) (fun hl12=>?_)
 refine bV (σ:=Int) (fun i10 v11=>⟨[(1,pI v11),(2,.ptr 0 0),(4,pI 0),(6,pN i10)],⟨[some ⟨211,kH pe⟩],[]⟩⟩) (fun v11=>⟨[(1,pI v11),(4,pI 0)],⟨[some ⟨211,kH pe⟩],[]⟩⟩) (fA H) ?_ ?_
 ·rintro i10 v11 H
  refine gQ 9 ?_;refine xO 32 rfl (fun g13=>?_) (fun g13=>?_)
  ·have g13l:=yJ g13
   have H:=lnT g13l H
   have g13n:=yI g13
   refine gQ 4 ?_;refine bG H (fun h14 H=>?_) (fun h14 H=>?_)
   ·refine gQ 7 ?_;refine gM H fun y15 h16 H=>(q1 (AR h16 g13n) (q1 xE (q1 (gZ (aM.cs y15.aFE)) (q1 bI (bN H fun x18 z17 H=>(q1 (bJ func268 (pC y15.aFE v11 _ z17)) ?_))))))
    exact gE 7
   exact gE 0
  have H:=lnE (yH g13) H
  exact gE 5
 rintro v11 H
 exact gE 5
def o5:Nat→aM→Int→J Int
 |0,_,_=>none
 |fu+1,pe,p8=>PR fu (o5 fu) pe p8
theorem agN(fu:Nat):IU (o5 fu):=by
 induction fu with
 |zero=>exact(fun pe p8 r H=>by simp only [o5] at H;cases H)
 |succ fu ih=>exact(fun pe p8 r H=>by simp only [o5] at H;exact ac3 fu (o5 fu) ih pe p8 r H)
theorem akO(fu:Nat):IU (o5 fu):=(agN fu)
def anP(fu:Nat)(pk:Int):J ((Bool×Bool×Bool×Bool×Int×Bool)⊕Bool):=sw (decide (pk=1)) (some (.inr (decide (pk=1)))) (some (.inr (decide (pk=2))))
def anQ(fu:Nat)(pk:Int)(v1:Bool):J ((Bool×Bool×Bool×Bool×Int×Bool)⊕Bool):=sw (decide (pk=4)) (some (.inr (decide (pk=4)))) (some (.inr (decide (pk=6))))
def anR(fu:Nat)(pk:Int)(v1 v5:Bool):J ((Bool×Bool×Bool×Bool×Int×Bool)⊕Bool):=sw (decide (pk=8)) (some (.inr (decide (pk=8)))) (some (.inr (decide (pk=10))))
def UX(fu:Nat)(pk:Int):J (Bool×Bool×Bool×Bool×Int×Bool):=so (anP fu pk) fun v1=>sw (v1) (some (false,false,true,false,0,false)) (sw (decide (pk=3)) (some (false,true,false,false,0,false)) (so (anQ fu pk v1) fun v5=>sw (v5) (some (false,true,false,false,(-1),false)) (sw (decide (pk=5)) (some (true,true,false,false,(-1),false)) (sw (decide (pk=7)) (some (false,false,false,false,1,true)) (so (anR fu pk v1 v5) fun v10=>sw (v10) (some (false,true,false,false,2,false)) (sw (decide (pk=9)) (some (false,false,false,false,3,false)) (sw (decide (pk=11)) (some (true,false,false,false,1,false)) (some (false,false,false,true,1,false)))))))))
theorem anS(fu:Nat)(pk:Int)(r:Bool×Bool×Bool×Bool×Int×Bool)(H:UX fu pk=some r):bU prog 271 [pI pk] (.tup [pB r.1,pB r.2.1,pB r.2.2.1,pB r.2.2.2.1,pI r.2.2.2.2.1,pB r.2.2.2.2.2]):=by
 refine qJ func271 H (fun C hC H=>?_)
 refine gQ 16 ?_;refine qY (σ:=Bool) (fun v1=>⟨[(2,pB false),(3,pB false),(4,pB false),(5,pB false),(6,pI 0),(7,pB false),(8,pI pk),(9,pB v1)],⟨[],[]⟩⟩) (fA H) (fun H=>?_) ?_
 ·refine gQ 5 ?_;refine bG H (fun h2 H=>gE 1) fun h2 H=>?_;exact gE 4
 rintro v1 H
 refine bG H (fun h3 H=>gE 9) fun h3 H=>?_;refine gQ 5 ?_;refine bG H (fun h4 H=>gE 9) fun h4 H=>?_;refine qS ?_;refine qY (σ:=Bool) (fun v5=>⟨[(2,pB false),(3,pB false),(4,pB false),(5,pB false),(6,pI 0),(7,pB false),(8,pI pk),(14,pB v5)],⟨[],[]⟩⟩) (fA H) (fun H=>?_) ?_
 ·refine gQ 5 ?_;refine bG H (fun h6 H=>gE 1) fun h6 H=>?_;exact gE 4
 rintro v5 H
 refine bG H (fun h7 H=>gE 9) fun h7 H=>?_;refine gQ 5 ?_;refine bG H (fun h8 H=>gE 9) fun h8 H=>?_;refine gQ 5 ?_;refine bG H (fun h9 H=>gE 9) fun h9 H=>?_;refine qS ?_;refine qY (σ:=Bool) (fun v10=>⟨[(2,pB false),(3,pB false),(4,pB false),(5,pB false),(6,pI 0),(7,pB false),(8,pI pk),(21,pB v10)],⟨[],[]⟩⟩) (fA H) (fun H=>?_) ?_
 ·refine gQ 5 ?_;refine bG H (fun h11 H=>gE 1) fun h11 H=>?_;exact gE 4
 rintro v10 H
 refine bG H (fun h12 H=>gE 9) fun h12 H=>?_;refine gQ 5 ?_;refine bG H (fun h13 H=>gE 9) fun h13 H=>?_;refine gQ 5 ?_;refine bG H (fun h14 H=>gE 9) fun h14 H=>?_;exact gE 10
def PT(fu:Nat)(ps:Y):J Bool:=bd (mL fu ([D5,JU,SS,ST,SU]:LB) ps) fun x2=>some x2
theorem akP(fu:Nat)(ps:Y)(r:Bool)(H:PT fu ps=some r):bU prog 272 [pS ps] (pB r):=by
 refine qJ func272 H (fun C hC H=>?_)
 refine gQ 6 ?_;refine q1 (iL ([D5,JU,SS,ST,SU]:LB)) (q1 bI (bN H fun x2 z1 H=>(q1 (bJ func153 (nT fu ([D5,JU,SS,ST,SU]:LB) ps _ z1)) ?_)))
 exact gE 2
def rK(fu:Nat)(pt:aA):J Bool:=sw (decide (pt.aFw=0)) (sw (decide (pt.aFs=s_)) (some (decide ((pt.aFt.length:Int)=0))) (some false)) (some false)
theorem AH(fu:Nat)(pt:aA)(r:Bool)(H:rK fu pt=some r):bU prog 251 [(aA.pv pt)] (pB r):=by
 refine qJ func251 H (fun C hC H=>?_)
 refine gQ 2 ?_;refine q1 (fQ (cF pt)) ?_;refine gQ 8 ?_;refine dY 6 H (fun g1 H=>?_) fun g1 H=>?_
 ·refine gQ 5 ?_;refine dY 11 H (fun g2 H=>gE 7) fun g2 H=>?_;exact gE 7
 exact gE 12
abbrev nH:=aM→Option Bool
def IS(m:nH):Prop:= ∀(p0:aM) (r:Bool),m p0=some r→bU prog 269 [(aM.pv p0)] (pB r:PV)
def aj8(fu:Nat)(p1:nH)(p0:aM)(x2 x3 x4 x5:Bool)(x6:Int)(x7:Bool):J (Bool⊕Unit):=bd (IZ fu p0.aFw 1 12) fun x9=>sw (!(x9)) (some (.inl false)) (bd (dX fu p0.aFz) fun x12=>sw (!decide (x12=x2)) (some (.inl false)) (sw (!(x2)) (sw (!decide (p0.aFz=s_)) (some (.inl false)) (sw (!(x4)) (sw (!decide (p0.aGa=0)) (some (.inl false)) (sw (!decide ((decide ((p0.aFP.length:Int)>0):Bool)=x7)) (some (.inl false)) (some (.inr ())))) (sw (!decide ((decide ((p0.aFP.length:Int)>0):Bool)=x7)) (some (.inl false)) (some (.inr ()))))) (sw (!(x4)) (sw (!decide (p0.aGa=0)) (some (.inl false)) (sw (!decide ((decide ((p0.aFP.length:Int)>0):Bool)=x7)) (some (.inl false)) (some (.inr ())))) (sw (!decide ((decide ((p0.aFP.length:Int)>0):Bool)=x7)) (some (.inl false)) (some (.inr ()))))))
def aj9(fu:Nat)(p1:nH)(p0:aM)(x2 x3 x4 x5:Bool)(x6:Int)(x7:Bool):J (Bool⊕Unit):=sw (decide (p0.aFw=10)) (bd (PT fu p0.aFs) fun x26=>sw (!(x26)) (some (.inl false)) (sw (!decide (p0.aFw=10)) (bd (dX fu p0.aFs) fun x30=>sw (!decide (x30=x3)) (some (.inl false)) (sw (!(x3)) (sw (!decide (p0.aFs=s_)) (some (.inl false)) (some (.inr ()))) (some (.inr ())))) (some (.inr ())))) (sw (!decide (p0.aFw=10)) (bd (dX fu p0.aFs) fun x36=>sw (!decide (x36=x3)) (some (.inl false)) (sw (!(x3)) (sw (!decide (p0.aFs=s_)) (some (.inl false)) (some (.inr ()))) (some (.inr ())))) (some (.inr ())))
def akA(fu:Nat)(p1:nH)(p0:aM)(x2 x3 x4 x5:Bool)(x6:Int)(x7:Bool):J (Bool⊕Unit):=sw (decide (x6≥0)) (sw (!decide ((p0.aFt.length:Int)=x6)) (some (.inl false)) (sw (decide (p0.aFw=5)) (sw (decide ((p0.aFt.length:Int)=0)) (some (.inl false)) (sw x5 (bd (jK fu p0.aFu) fun x46=>sw (!(x46)) (some (.inl false)) (some (.inr ()))) (bd (rK fu p0.aFu) fun x49=>sw (!(x49)) (some (.inl false)) (some (.inr ()))))) (sw x5 (bd (jK fu p0.aFu) fun x53=>sw (!(x53)) (some (.inl false)) (some (.inr ()))) (bd (rK fu p0.aFu) fun x56=>sw (!(x56)) (some (.inl false)) (some (.inr ())))))) (sw (decide (p0.aFw=5)) (sw (decide ((p0.aFt.length:Int)=0)) (some (.inl false)) (sw x5 (bd (jK fu p0.aFu) fun x62=>sw (!(x62)) (some (.inl false)) (some (.inr ()))) (bd (rK fu p0.aFu) fun x65=>sw (!(x65)) (some (.inl false)) (some (.inr ()))))) (sw x5 (bd (jK fu p0.aFu) fun x69=>sw (!(x69)) (some (.inl false)) (some (.inr ()))) (bd (rK fu p0.aFu) fun x72=>sw (!(x72)) (some (.inl false)) (some (.inr ())))))
def akB(fu:Nat)(p1:nH)(p0:aM)(x2 x3 x4 x5:Bool)(x6:Int)(x7:Bool):J (Bool⊕Unit):=sw (decide (p0.aFw=1)) (bd (IZ fu p0.aGa (-999999) 999999) fun x76=>sw (!(x76)) (some (.inl false)) (some (.inr ()))) (sw (decide (p0.aFw=2)) (bd (IZ fu p0.aGa 0 1) fun x80=>sw (!(x80)) (some (.inl false)) (some (.inr ()))) (some (.inr ())))
def akC(fu:Nat)(p1:nH)(p0:aM)(x2 x3 x4 x5:Bool)(x6:Int)(x7:Bool):Nat→Unit→J (LR Unit Bool):=fun i82 _=>lt (aR p0.aFt i82) fun y85=>bd (p1 y85) fun x88=>sw (!(x88)) (some (.ret false)) (some (.next ()))
def akD(fu:Nat)(p1:nH)(p0:aM)(x2 x3 x4 x5:Bool)(x6:Int)(x7:Bool):Nat→Unit→J (LR Unit Bool):=fun i90 _=>lt (aR p0.aFP i90) fun y93=>bd (dX fu y93.aFU) fun x96=>sw (!(x96)) (some (.ret false)) (bd (I8 fu y93.aFH) fun x99=>sw (!(x99)) (some (.ret false)) (bd (l0 fu y93.aFH) fun x102=>sw (!(x102)) (some (.ret false)) (bd (p1 y93.aFE) fun x105=>sw (!(x105)) (some (.ret false)) (some (.next ())))))
def PP(fu:Nat)(p1:nH)(p0:aM):J Bool:=bd (UX fu p0.aFw) fun(x2,x3,x4,x5,x6,x7)=>so (aj8 fu p1 p0 x2 x3 x4 x5 x6 x7) fun _=>so (aj9 fu p1 p0 x2 x3 x4 x5 x6 x7) fun _=>so (akA fu p1 p0 x2 x3 x4 x5 x6 x7) fun _=>so (akB fu p1 p0 x2 x3 x4 x5 x6 x7) fun _=>so (loopN (akC fu p1 p0 x2 x3 x4 x5 x6 x7) (p0.aFt.length-0) 0 ()) fun _=>so (loopN (akD fu p1 p0 x2 x3 x4 x5 x6 x7) (p0.aFP.length-0) 0 ()) fun _=>some true
theorem ac1(fu:Nat)(p1:nH)(pD:IS p1):IS (PP fu p1):=by
 intro p0 r H
 refine qJ func269 H (fun C hC H=>?_)
 refine gQ 2 ?_;refine q1 (fQ (kH p0)) ?_;refine gQ 6 ?_
 obtain⟨⟨x2,x3,x4,x5,x6,x7⟩,z1,H⟩:=bdI H
 refine q1 (bJ func271 (anS fu p0.aFw _ z1)) ?_;refine gQ 15 ?_;refine qY (σ:=Unit) (fun _=>⟨[(1,.ptr 0 0),(2,pB false),(4,pB x3),(6,pB x5),(7,pI x6)],⟨[some ⟨211,kH p0⟩],[]⟩⟩) (fA H) (fun H=>?_) ?_
 ·refine gQ 4 ?_;refine bN H fun x9 z8 H=>(q1 (bJ func64 (LC fu p0.aFw 1 12 _ z8)) ?_)
  refine gQ 2 ?_;refine dY 26 H (fun g10 H=>gE 38) fun g10 H=>?_;refine gQ 2 ?_;refine bN H fun x12 z11 H=>(qg g10 (bJ func205 (eT fu p0.aFz _ z11)) (qg g10 bI (qg g10 (CU rfl rfl rfl rfl underlying4) ?_)))
  refine gQ 2 ?_;refine dY 33 H (fun g13 H=>gE 31) fun g13 H=>?_;refine gQ 3 ?_;refine dY 36 H (fun g14 H=>?_) fun g14 H=>?_
  ·refine gQ 6 ?_;refine dY 42 H (fun g15 H=>gE 22) fun g15 H=>?_;refine gQ 3 ?_;refine dY 45 H (fun g16 H=>?_) fun g16 H=>?_
   ·refine gQ 6 ?_;refine dY 51 H (fun g17 H=>gE 13) fun g17 H=>?_;refine gQ 5 ?_;refine qg g17 (CU rfl rfl rfl rfl underlying4) ?_;refine gQ 2 ?_;refine bG H (fun h18 H=>gE 4) fun h18 H=>?_;exact gE 1
   refine gQ 11 ?_;refine qg rfl (CU rfl rfl rfl rfl underlying4) ?_;refine gQ 2 ?_;refine bG H (fun h19 H=>gE 4) fun h19 H=>?_;exact gE 1
  refine gQ 9 ?_;refine dY 45 H (fun g20 H=>?_) fun g20 H=>?_
  ·refine gQ 6 ?_;refine dY 51 H (fun g21 H=>gE 13) fun g21 H=>?_;refine gQ 5 ?_;refine qg g21 (CU rfl rfl rfl rfl underlying4) ?_;refine gQ 2 ?_;refine bG H (fun h22 H=>gE 4) fun h22 H=>?_;exact gE 1
  refine gQ 11 ?_;refine qg rfl (CU rfl rfl rfl rfl underlying4) ?_;refine gQ 2 ?_;refine bG H (fun h23 H=>gE 4) fun h23 H=>?_;exact gE 1
 rintro⟨⟩ H
 refine qS ?_;refine qY (σ:=Unit) (fun _=>⟨[(1,.ptr 0 0),(2,pB false),(6,pB x5),(7,pI x6)],⟨[some ⟨211,kH p0⟩],[]⟩⟩) (fA H) (fun H=>?_) ?_
 ·refine gQ 6 ?_;refine dY 62 H (fun g24 H=>?_) fun g24 H=>?_
  ·refine gQ 2 ?_;refine bN H fun x26 z25 H=>(qg g24 (bJ func272 (akP fu p0.aFs _ z25)) ?_)
   refine gQ 3 ?_;refine dY 68 H (fun g27 H=>gE 26) fun g27 H=>?_;refine gQ 4 ?_;refine dY 72 H (fun g28 H=>?_) fun g28 H=>?_
   ·refine gQ 2 ?_;refine bN H fun x30 z29 H=>(qg g28 (bJ func205 (eT fu p0.aFs _ z29)) (qg g28 bI (qg g28 (CU rfl rfl rfl rfl underlying4) (qg g28 bI ?_))))
    refine dY 78 H (fun g31 H=>gE 16) fun g31 H=>?_;refine gQ 3 ?_;refine dY 81 H (fun g32 H=>?_) fun g32 H=>?_
    ·refine gQ 8 ?_;refine bG H (fun h33 H=>gE 4) fun h33 H=>?_;exact gE 1
    exact gE 10
   exact gE 19
  refine gQ 10 ?_;refine dY 72 H (fun g34 H=>?_) fun g34 H=>?_
  ·refine gQ 2 ?_;refine bN H fun x36 z35 H=>(qg g34 (bJ func205 (eT fu p0.aFs _ z35)) (qg g34 bI (qg g34 (CU rfl rfl rfl rfl underlying4) (qg g34 bI ?_))))
   refine dY 78 H (fun g37 H=>gE 16) fun g37 H=>?_;refine gQ 3 ?_;refine dY 81 H (fun g38 H=>?_) fun g38 H=>?_
   ·refine gQ 8 ?_;refine bG H (fun h39 H=>gE 4) fun h39 H=>?_;exact gE 1
   exact gE 10
  exact gE 19
 rintro⟨⟩ H
 refine qS ?_;refine qY (σ:=Unit) (fun _=>⟨[(1,.ptr 0 0),(2,pB false)],⟨[some ⟨211,kH p0⟩],[]⟩⟩) (fA H) (fun H=>?_) ?_
 ·refine gQ 5 ?_;refine dY 91 H (fun g40 H=>?_) fun g40 H=>?_
  ·refine gQ 7 ?_;refine dY 98 H (fun g41 H=>gE 35) fun g41 H=>?_;refine gQ 4 ?_;refine dY 102 H (fun g42 H=>?_) fun g42 H=>?_
   ·refine gQ 7 ?_;refine dY 109 H (fun g43 H=>gE 24) fun g43 H=>?_;refine gQ 2 ?_;refine dY 111 H (fun g44 H=>?_) fun g44 H=>?_
    ·refine qg g44 bW (qg g44 (b4 [pI p0.aFu.aFw,pS p0.aFu.aFs,aV p0.aFu.aFt]) (bN H fun x46 z45 H=>(qg g44 (bJ func258 (nS fu p0.aFu _ z45)) ?_)))
     refine gQ 4 ?_;refine dY 118 H (fun g47 H=>gE 15) fun g47 H=>?_;refine gQ 3 ?_
     iterate 4 refine qk (congrArg (fun b=> !b) g44) ?_
     refine qg g47 (D3 (congrArg (fun b=> !b) g44)) ?_;exact gE 4
    refine gQ 10 ?_;refine qg (congrArg (fun b=> !b) g44) bW (qg (congrArg (fun b=> !b) g44) (b4 [pI p0.aFu.aFw,pS p0.aFu.aFs,aV p0.aFu.aFt]) (bN H fun x49 z48 H=>(qg (congrArg (fun b=> !b) g44) (bJ func251 (AH fu p0.aFu _ z48)) (qg (congrArg (fun b=> !b) g44) JP (qg rfl (CJ (congrArg (fun b=> !b) g44)) ?_)))))
    refine gQ 2 ?_;refine bG H (fun h50 H=>gE 4) fun h50 H=>?_;exact gE 1
   refine gQ 9 ?_;refine dY 111 H (fun g51 H=>?_) fun g51 H=>?_
   ·refine qg g51 bW (qg g51 (b4 [pI p0.aFu.aFw,pS p0.aFu.aFs,aV p0.aFu.aFt]) (bN H fun x53 z52 H=>(qg g51 (bJ func258 (nS fu p0.aFu _ z52)) ?_)))
    refine gQ 4 ?_;refine dY 118 H (fun g54 H=>gE 15) fun g54 H=>?_;refine gQ 3 ?_
    iterate 4 refine qk (congrArg (fun b=> !b) g51) ?_
    refine qg g54 (D3 (congrArg (fun b=> !b) g51)) ?_;exact gE 4
   refine gQ 10 ?_;refine qg (congrArg (fun b=> !b) g51) bW (qg (congrArg (fun b=> !b) g51) (b4 [pI p0.aFu.aFw,pS p0.aFu.aFs,aV p0.aFu.aFt]) (bN H fun x56 z55 H=>(qg (congrArg (fun b=> !b) g51) (bJ func251 (AH fu p0.aFu _ z55)) (qg (congrArg (fun b=> !b) g51) JP (qg rfl (CJ (congrArg (fun b=> !b) g51)) ?_)))))
   refine gQ 2 ?_;refine bG H (fun h57 H=>gE 4) fun h57 H=>?_;exact gE 1
  refine gQ 11 ?_;refine dY 102 H (fun g58 H=>?_) fun g58 H=>?_
  ·refine gQ 7 ?_;refine dY 109 H (fun g59 H=>gE 24) fun g59 H=>?_;refine gQ 2 ?_;refine dY 111 H (fun g60 H=>?_) fun g60 H=>?_
   ·refine qg g60 bW (qg g60 (b4 [pI p0.aFu.aFw,pS p0.aFu.aFs,aV p0.aFu.aFt]) (bN H fun x62 z61 H=>(qg g60 (bJ func258 (nS fu p0.aFu _ z61)) ?_)))
    refine gQ 4 ?_;refine dY 118 H (fun g63 H=>gE 15) fun g63 H=>?_;refine gQ 3 ?_
    iterate 4 refine qk (congrArg (fun b=> !b) g60) ?_
    refine qg g63 (D3 (congrArg (fun b=> !b) g60)) ?_;exact gE 4
   refine gQ 10 ?_;refine qg (congrArg (fun b=> !b) g60) bW (qg (congrArg (fun b=> !b) g60) (b4 [pI p0.aFu.aFw,pS p0.aFu.aFs,aV p0.aFu.aFt]) (bN H fun x65 z64 H=>(qg (congrArg (fun b=> !b) g60) (bJ func251 (AH fu p0.aFu _ z64)) (qg (congrArg (fun b=> !b) g60) JP (qg rfl (CJ (congrArg (fun b=> !b) g60)) ?_)))))
   refine gQ 2 ?_;refine bG H (fun h66 H=>gE 4) fun h66 H=>?_;exact gE 1
  refine gQ 9 ?_;refine dY 111 H (fun g67 H=>?_) fun g67 H=>?_
  ·refine qg g67 bW (qg g67 (b4 [pI p0.aFu.aFw,pS p0.aFu.aFs,aV p0.aFu.aFt]) (bN H fun x69 z68 H=>(qg g67 (bJ func258 (nS fu p0.aFu _ z68)) ?_)))
   refine gQ 4 ?_;refine dY 118 H (fun g70 H=>gE 15) fun g70 H=>?_;refine gQ 3 ?_
   iterate 4 refine qk (congrArg (fun b=> !b) g67) ?_
   refine qg g70 (D3 (congrArg (fun b=> !b) g67)) ?_;exact gE 4
  refine gQ 10 ?_;refine qg (congrArg (fun b=> !b) g67) bW (qg (congrArg (fun b=> !b) g67) (b4 [pI p0.aFu.aFw,pS p0.aFu.aFs,aV p0.aFu.aFt]) (bN H fun x72 z71 H=>(qg (congrArg (fun b=> !b) g67) (bJ func251 (AH fu p0.aFu _ z71)) (qg (congrArg (fun b=> !b) g67) JP (qg rfl (CJ (congrArg (fun b=> !b) g67)) ?_)))))
  refine gQ 2 ?_;refine bG H (fun h73 H=>gE 4) fun h73 H=>?_;exact gE 1
 rintro⟨⟩ H
 refine qS ?_;refine qY (σ:=Unit) (fun _=>⟨[(1,.ptr 0 0),(2,pB false)],⟨[some ⟨211,kH p0⟩],[]⟩⟩) (fA H) (fun H=>?_) ?_
 ·refine gQ 6 ?_;refine dY 131 H (fun g74 H=>?_) fun g74 H=>?_
  ·refine gQ 2 ?_;refine bN H fun x76 z75 H=>(qg g74 (bJ func64 (LC fu p0.aGa (-999999) 999999 _ z75)) ?_)
   refine gQ 3 ?_;refine dY 137 H (fun g77 H=>gE 16) fun g77 H=>?_;refine gQ 4 ?_
   iterate 4 refine qk (dne (b:=2) g74 (by decide)) ?_
   refine qg g77 (D3 (dne (b:=2) g74 (by decide))) ?_;exact gE 4
  refine gQ 10 ?_;refine dY 141 H (fun g78 H=>?_) fun g78 H=>?_
  ·refine gQ 2 ?_;refine bN H fun x80 z79 H=>(qg g78 (bJ func64 (LC fu p0.aGa 0 1 _ z79)) ?_)
   refine gQ 4 ?_;refine bG H (fun h81 H=>gE 4) fun h81 H=>?_;exact gE 1
  exact gE 9
 rintro⟨⟩ H
 refine gQ 5 ?_;refine dR.fact (cP 0 7 rfl rfl rfl (aM.tl _)) (fun hl83=>?_)
 refine bV (σ:=Unit) (fun i82 _=>⟨[(1,.ptr 0 0),(2,pB false),(9,pN i82)],⟨[some ⟨211,kH p0⟩],[]⟩⟩) (fun _=>⟨[(1,.ptr 0 0),(2,pB false)],⟨[some ⟨211,kH p0⟩],[]⟩⟩) (fA H) ?_ ?_
 ·rintro i82 ⟨⟩ H
  refine gQ 9 ?_;refine cZ H (fun h84 h84l H=>?_) (fun h84 H=>?_)
  ·refine gQ 8 ?_;refine gM H fun y85 h86 H=>(q1 (AR h86 h84l) (q1 (gZ (aM.cs y85)) (bN H fun x88 z87 H=>(q1 (bJ func269 (pD y85 _ z87)) ?_))))
   refine gQ 2 ?_;refine bG H (fun h89 H=>gE 4) fun h89 H=>?_;exact gE 6
  exact gE 0
 rintro⟨⟩ H
 refine gQ 5 ?_;refine dR.fact (cP 0 8 rfl rfl rfl (cC.tl _)) (fun hl91=>?_)
 refine bV (σ:=Unit) (fun i90 _=>⟨[(1,.ptr 0 0),(2,pB false),(10,pN i90)],⟨[some ⟨211,kH p0⟩],[]⟩⟩) (fun _=>⟨[(2,pB false)],⟨[some ⟨211,kH p0⟩],[]⟩⟩) (fA H) ?_ ?_
 ·rintro i90 ⟨⟩ H
  refine gQ 9 ?_;refine cZ H (fun h92 h92l H=>?_) (fun h92 H=>?_)
  ·refine gQ 8 ?_;refine gM H fun y93 h94 H=>(q1 (AR h94 h92l) (q1 (gZ (cC.cs y93)) ?_))
   refine gQ 7 ?_;refine bN H fun x96 z95 H=>(q1 (bJ func205 (eT fu y93.aFU _ z95)) ?_)
   refine gQ 2 ?_;refine dY 178 H (fun g97 H=>gE 23) fun g97 H=>?_;refine gQ 2 ?_;refine bN H fun x99 z98 H=>(qg g97 (bJ func228 (V8 fu y93.aFH _ z98)) ?_)
   refine gQ 3 ?_;refine dY 184 H (fun g100 H=>gE 17) fun g100 H=>?_;refine gQ 2 ?_;refine bN H fun x102 z101 H=>(qg g100 (bJ func207 (nR fu y93.aFH _ z101)) ?_)
   refine gQ 3 ?_;refine dY 190 H (fun g103 H=>gE 11) fun g103 H=>?_;refine qg g103 bW (qg g103 (b4 [pI y93.aFE.aFw,pS y93.aFE.aFz,pS y93.aFE.aFs,pI y93.aFE.aGa,pI y93.aFE.aFu.aFw,pS y93.aFE.aFu.aFs,aV y93.aFE.aFu.aFt,jV y93.aFE.aFt,tX y93.aFE.aFP]) (bN H fun x105 z104 H=>(qg g103 (bJ func269 (pD y93.aFE _ z104)) ?_)))
   refine gQ 3 ?_;refine bG H (fun h106 H=>gE 4) fun h106 H=>?_;exact gE 6
  exact gE 0
 rintro⟨⟩ H
 exact gE 4
def o3:Nat→aM→J Bool
 |0,_=>none
 |fu+1,p0=>PP fu (o3 fu) p0
theorem agL(fu:Nat):IS (o3 fu):=by
 induction fu with
 |zero=>exact(fun p0 r H=>by simp only [o3] at H;cases H)
 |succ fu ih=>exact(fun p0 r H=>by simp only [o3] at H;exact ac1 fu (o3 fu) ih p0 r H)
theorem akF(fu:Nat):IS (o3 fu):=(agL fu)
def DI(fu:Nat)(pe:aM):J Bool:=bd (o5 fu pe 300) fun x2=>sw (decide (x2≥0)) (bd (o3 fu pe) fun x5=>some x5) (some false)
theorem W8(fu:Nat)(pe:aM)(r:Bool)(H:DI fu pe=some r):bU prog 262 [(aM.pv pe)] (pB r):=by
 refine qJ func262 H (fun C hC H=>?_)
 refine gQ 2 ?_;refine q1 (fQ (kH pe)) ?_;refine gQ 4 ?_;refine q1 (b4 [pI pe.aFw,pS pe.aFz,pS pe.aFs,pI pe.aGa,pI pe.aFu.aFw,pS pe.aFu.aFs,aV pe.aFu.aFt,jV pe.aFt,tX pe.aFP]) (bN H fun x2 z1 H=>(q1 (bJ func268 (akO fu pe 300 _ z1)) ?_))
 refine gQ 2 ?_;refine dY 6 H (fun g3 H=>?_) fun g3 H=>?_
 ·refine qg g3 (b4 [pI pe.aFw,pS pe.aFz,pS pe.aFs,pI pe.aGa,pI pe.aFu.aFw,pS pe.aFu.aFs,aV pe.aFu.aFt,jV pe.aFt,tX pe.aFP]) (bN H fun x5 z4 H=>(qg g3 (bJ func269 (akF fu pe _ z4)) ?_))
  exact gE 3
 exact gE 5
def agO(fu:Nat)(pa pb:LB):Nat→Unit→J (LR Unit Bool):=fun i2 _=>gd (i2<(pb).length) (sw (!decide (aR pa i2=aR pb i2)) (some (.ret false)) (some (.next ())))
def K3(fu:Nat)(pa pb:LB):J Bool:=sw (!decide ((pa.length:Int)=(pb.length:Int))) (some false) (so (loopN (agO fu pa pb) (pa.length-0) 0 ()) fun _=>some true)
theorem R8(fu:Nat)(pa:LB)(pb:LB)(r:Bool)(H:K3 fu pa pb=some r):bU prog 270 [rS pa,rS pb] (pB r):=by
 refine qJ func270 H (fun C hC H=>?_)
 refine gQ 13 ?_;refine bG H (fun h1 H=>gE 4) fun h1 H=>?_;refine gQ 6 ?_;refine gV 0 (b6 _) (fun hl3=>?_)
 refine bV (σ:=Unit) (fun i2 _=>⟨[(0,rS pa),(1,rS pb),(4,pB false),(5,pN i2)],⟨[],[]⟩⟩) (fun _=>⟨[(4,pB false)],⟨[],[]⟩⟩) (fA H) ?_ ?_
 ·rintro i2 ⟨⟩ H
  refine gQ 8 ?_;refine cZ H (fun h4 h4l H=>?_) (fun h4 H=>?_)
  ·refine gQ 4 ?_;refine cB H fun z5 H=>(dW (dI [0] bI (dI [5] bI (dI [17,18] mU (dI [19] wH (dI [1] bI (dI [5] bI (dI [21,22] mU (dI [23] wH (dI [20,24] rSn (dN ?_)))))))))))
   refine bG H (fun h6 H=>gE 4) fun h6 H=>?_;exact gE 6
  exact gE 0
 rintro⟨⟩ H
 exact gE 4
abbrev rG:=aM→aM→Option Bool
def B5(m:rG):Prop:= ∀(p0:aM) (p7:aM) (r:Bool),m p0 p7=some r→bU prog 263 [(aM.pv p0),(aM.pv p7)] (pB r:PV)
def acM(fu:Nat)(p5:rG)(p0 p7:aM)(x6:Bool):Nat→Unit→J (LR Unit Bool):=fun i10 _=>lt (aR p0.aFt i10) fun y13=>gd (i10<(p7.aFt).length) (lt (aR p7.aFt i10) fun y16=>bd (p5 y13 y16) fun x19=>sw (!(x19)) (some (.ret false)) (some (.next ())))
def acN(fu:Nat)(p5:rG)(p0 p7:aM)(x6:Bool):Nat→Unit→J (LR Unit Bool):=fun i21 _=>lt (aR p0.aFP i21) fun y24=>gd (i21<(p7.aFP).length) (lt (aR p7.aFP i21) fun y27=>sw (!decide (y24.aFU=y27.aFU)) (some (.ret false)) (bd (K3 fu y24.aFH y27.aFH) fun x31=>sw (!(x31)) (some (.ret false)) (bd (p5 y24.aFE y27.aFE) fun x34=>sw (!(x34)) (some (.ret false)) (some (.next ())))))
def IM(fu:Nat)(p5:rG)(p0 p7:aM):J Bool:=sw (!decide (p0.aFw=p7.aFw)) (some false) (sw (!decide (p0.aFz=p7.aFz)) (some false) (sw (!decide (p0.aFs=p7.aFs)) (some false) (sw (!decide (p0.aGa=p7.aGa)) (some false) (bd (gC fu p0.aFu p7.aFu) fun x6=>sw (!(x6)) (some false) (sw (!decide ((p0.aFt.length:Int)=(p7.aFt.length:Int))) (some false) (sw (!decide ((p0.aFP.length:Int)=(p7.aFP.length:Int))) (some false) (so (loopN (acM fu p5 p0 p7 x6) (p0.aFt.length-0) 0 ()) fun _=>so (loopN (acN fu p5 p0 p7 x6) (p0.aFP.length-0) 0 ()) fun _=>some true)))))))
theorem W3(fu:Nat)(p5:rG)(pA:B5 p5):B5 (IM fu p5):=by
 intro p0 p7 r H
 refine qJ func263 H (fun C hC H=>?_)
 refine gQ 2 ?_;refine q1 (fQ (kH p0)) (q1 (fQ (kH p7)) ?_)
 refine gQ 11 ?_;refine dY 12 H (fun g1 H=>gE 52) fun g1 H=>?_;refine gQ 7 ?_;refine dY 19 H (fun g2 H=>gE 45) fun g2 H=>?_;refine gQ 7 ?_;refine dY 26 H (fun g3 H=>gE 38) fun g3 H=>?_;refine gQ 7 ?_;refine dY 33 H (fun g4 H=>gE 31) fun g4 H=>?_;refine qg g4 bW (qg g4 (b4 [pI p0.aFu.aFw,pS p0.aFu.aFs,aV p0.aFu.aFt]) (qg g4 bW (qg g4 (b4 [pI p7.aFu.aFw,pS p7.aFu.aFs,aV p7.aFu.aFt]) (bN H fun x6 z5 H=>(qg g4 (bJ func38 (N1 fu p0.aFu p7.aFu _ z5)) ?_)))))
 refine gQ 3 ?_;refine dY 41 H (fun g7 H=>gE 23) fun g7 H=>?_;refine gQ 9 ?_;refine dY 50 H (fun g8 H=>gE 14) fun g8 H=>?_;refine gQ 9 ?_;refine bG H (fun h9 H=>gE 4) fun h9 H=>?_;refine gQ 6 ?_;refine gV 43 (aM.tl _) (fun hl11=>?_)
 refine bV (σ:=Unit) (fun i10 _=>⟨[(2,.ptr 0 0),(3,.ptr 1 0),(4,pB false),(5,pN i10)],⟨[some ⟨211,kH p0⟩,some ⟨211,kH p7⟩],[]⟩⟩) (fun _=>⟨[(2,.ptr 0 0),(3,.ptr 1 0),(4,pB false)],⟨[some ⟨211,kH p0⟩,some ⟨211,kH p7⟩],[]⟩⟩) (fA H) ?_ ?_
 ·rintro i10 ⟨⟩ H
  refine gQ 9 ?_;refine cZ H (fun h12 h12l H=>?_) (fun h12 H=>?_)
  ·refine gQ 4 ?_;refine gM H fun y13 h14 H=>(cB H fun z15 H=>(gM H fun y16 h17 H=>(bN H fun x19 z18 H=>(dW (dI [2] bW (dD [66] eG (dI [5] bI (dI [67,68] (AR h14 h12l) (dI [69] (gZ (aM.cs y13)) (dI [3] bW (dD [71] eG (dI [5] bI (dI [72,73] (AR h17 z15) ?_)))))))))))))
   refine dI [74] (gZ (aM.cs y16)) (dI [70,75] (bJ func263 (pA y13 y16 _ z18)) (dI [76] JP (dN ?_)))
   refine bG H (fun h20 H=>gE 4) fun h20 H=>?_;exact gE 6
  exact gE 0
 rintro⟨⟩ H
 refine gQ 5 ?_;refine dR.fact (cP 0 8 rfl rfl rfl (cC.tl _)) (fun hl22=>?_)
 refine bV (σ:=Unit) (fun i21 _=>⟨[(2,.ptr 0 0),(3,.ptr 1 0),(4,pB false),(6,pN i21)],⟨[some ⟨211,kH p0⟩,some ⟨211,kH p7⟩],[]⟩⟩) (fun _=>⟨[(4,pB false)],⟨[some ⟨211,kH p0⟩,some ⟨211,kH p7⟩],[]⟩⟩) (fA H) ?_ ?_
 ·rintro i21 ⟨⟩ H
  refine gQ 9 ?_;refine cZ H (fun h23 h23l H=>?_) (fun h23 H=>?_)
  ·refine gQ 4 ?_;refine gM H fun y24 h25 H=>(cB H fun z26 H=>(gM H fun y27 h28 H=>?_))
   rcases nA (!decide (y24.aFU=y27.aFU)) with g29|g29
   ·have H:=sS H g29
    refine dW (dI [2] bW (dD [85] eG (dI [6] bI (dI [86,87] (AR h25 h23l) (dI [88] xE (dI [89] wH (dI [3] bW (dD [91] eG (dI [6] bI (dI [92,93] (AR h28 z26) (dI [94] xE (dI [95] wH (dI [90,96] rSn ?_)))))))))))))
    refine dI [97] bI ?_
    iterate 14 refine JV g29 ?_
    refine dI [98] (CJ g29) (dI [113] bI ?_)
    iterate 14 refine JV rfl ?_
    refine dI [114] (CJ rfl) (dN ?_)
    exact gE 5
   have H:=sR H g29
   refine bN H fun x31 z30 H=>?_
   rcases nA (!(x31)) with g32|g32
   ·have H:=sS H g32
    refine dW (dI [2] bW (dD [85] eG (dI [6] bI (dI [86,87] (AR h25 h23l) (dI [88] xE (dI [89] wH (dI [3] bW (dD [91] eG (dI [6] bI (dI [92,93] (AR h28 z26) (dI [94] xE (dI [95] wH (dI [90,96] rSn ?_)))))))))))))
    refine dI [97] bI (dI (hg:=bD g29) [2] bW (dD (hg:=bD g29) [99] eG (dI (hg:=bD g29) [6] bI (dI (hg:=bD g29) [100,101] (AR h25 h23l) (dI (hg:=bD g29) [102] xE (dI (hg:=bD g29) [103] wH (dI (hg:=bD g29) [3] bW (dD (hg:=bD g29) [105] eG (dI (hg:=bD g29) [6] bI (dI (hg:=bD g29) [106,107] (AR h28 z26) (dI (hg:=bD g29) [108] xE (dI (hg:=bD g29) [109] wH (dI (hg:=bD g29) [104,110] (bJ func270 (R8 fu y24.aFH y27.aFH _ z30)) ?_)))))))))))))
    refine dI (hg:=bD g29) [111] JP (dI [98,112] (D3 g29) (dI [113] bI ?_))
    iterate 14 refine JV g32 ?_
    refine dI [114] (CJ g32) (dN ?_)
    exact gE 5
   have H:=sR H g32
   refine bN H fun x34 z33 H=>(dW (dI [2] bW (dD [85] eG (dI [6] bI (dI [86,87] (AR h25 h23l) (dI [88] xE (dI [89] wH (dI [3] bW (dD [91] eG (dI [6] bI (dI [92,93] (AR h28 z26) (dI [94] xE (dI [95] wH ?_)))))))))))))
   refine dI [90,96] rSn (dI [97] bI (dI (hg:=bD g29) [2] bW (dD (hg:=bD g29) [99] eG (dI (hg:=bD g29) [6] bI (dI (hg:=bD g29) [100,101] (AR h25 h23l) (dI (hg:=bD g29) [102] xE (dI (hg:=bD g29) [103] wH (dI (hg:=bD g29) [3] bW (dD (hg:=bD g29) [105] eG (dI (hg:=bD g29) [6] bI (dI (hg:=bD g29) [106,107] (AR h28 z26) (dI (hg:=bD g29) [108] xE (dI (hg:=bD g29) [109] wH ?_)))))))))))))
   refine dI (hg:=bD g29) [104,110] (bJ func270 (R8 fu y24.aFH y27.aFH _ z30)) (dI (hg:=bD g29) [111] JP (dI [98,112] (D3 g29) (dI [113] bI (dI (hg:=bD g32) [2] bW (dD (hg:=bD g32) [115] eG (dI (hg:=bD g32) [6] bI (dI (hg:=bD g32) [116,117] (AR h25 h23l) (dI (hg:=bD g32) [118] xE (dI (hg:=bD g32) [119] (gZ (aM.cs y24.aFE)) (dI (hg:=bD g32) [3] bW (dD (hg:=bD g32) [121] eG (dI (hg:=bD g32) [6] bI (dI (hg:=bD g32) [122,123] (AR h28 z26) ?_)))))))))))))
   refine dI (hg:=bD g32) [124] xE (dI (hg:=bD g32) [125] (gZ (aM.cs y27.aFE)) (dI (hg:=bD g32) [120,126] (bJ func263 (pA y24.aFE y27.aFE _ z33)) (dI (hg:=bD g32) [127] JP (dI [114,128] (D3 g32) (dN ?_)))))
   refine bG H (fun h35 H=>gE 4) fun h35 H=>?_;exact gE 6
  exact gE 0
 rintro⟨⟩ H
 exact gE 4
def lR:Nat→aM→aM→J Bool
 |0,_,_=>none
 |fu+1,p0,p7=>IM fu (lR fu) p0 p7
theorem aaE(fu:Nat):B5 (lR fu):=by
 induction fu with
 |zero=>exact(fun p0 p7 r H=>by simp only [lR] at H;cases H)
 |succ fu ih=>exact(fun p0 p7 r H=>by simp only [lR] at H;exact W3 fu (lR fu) ih p0 p7 r H)
theorem acP(fu:Nat):B5 (lR fu):=(aaE fu)
abbrev tJ:=aM→(LB)→(LB)→Option ((LB))
def IT(m:tJ):Prop:= ∀(p0:aM) (p7:LB) (pE:LB) (r:(LB)),m p0 p7 pE=some r→cM prog 267 [(aM.pv p0),rS p7,aS pE 0] ⟨[],[⟨9,1,bA (pE),false⟩]⟩ (fun q t=>q=(aS r 0:PV)∧t=⟨[],[⟨9,1,bA (r),false⟩]⟩)
def akG(fu:Nat)(p3:tJ)(p0:aM)(p7 pE:LB):J (((LB))⊕((LB))):=sw (decide (p0.aFw=3)) (bd (mL fu p7 p0.aFs) fun x5=>sw (!(x5)) (bd (mL fu pE p0.aFs) fun x8=>sw (!(x8)) (gd ((pE).length+(([p0.aFs]:LB)).length≤68719476736) (some (.inr (pE++([p0.aFs]:LB))))) (some (.inr pE))) (some (.inr pE))) (some (.inr pE))
def akH(fu:Nat)(p3:tJ)(p0:aM)(p7 pE v2:LB):Nat→((LB))→J (LR ((LB)) ((LB))):=fun i11 v13=>sw (decide (p0.aFw=8)) (sw (decide ((i11:Int)=1)) (gd (([]:LB).length+(p7).length≤68719476736) (gd ((([])++p7).length+(([p0.aFs]:LB)).length≤68719476736) (lt (aR p0.aFt i11) fun y20=>bd (p3 y20 ((([])++p7)++([p0.aFs]:LB)) v13) fun x23=>some (.next x23)))) (lt (aR p0.aFt i11) fun y24=>bd (p3 y24 p7 v13) fun x27=>some (.next x27))) (lt (aR p0.aFt i11) fun y28=>bd (p3 y28 p7 v13) fun x31=>some (.next x31))
def akI(fu:Nat)(p3:tJ)(p0:aM)(p7 pE v2 v13:LB):Nat→((LB))→J (LR ((LB)) ((LB))):=fun i32 v34=>lt (aR p0.aFP i32) fun y37=>gd (([]:LB).length+(p7).length≤68719476736) (gd ((([])++p7).length+(y37.aFH).length≤68719476736) (bd (p3 y37.aFE ((([])++p7)++y37.aFH) v34) fun x42=>some (.next x42)))
def PQ(fu:Nat)(p3:tJ)(p0:aM)(p7 pE:LB):J ((LB)):=so (akG fu p3 p0 p7 pE) fun v2=>so (loopN (akH fu p3 p0 p7 pE v2) (p0.aFt.length-0) 0 v2) fun v13=>so (loopN (akI fu p3 p0 p7 pE v2 v13) (p0.aFP.length-0) 0 v13) fun v34=>some v34
theorem ac2(fu:Nat)(p3:tJ)(p9:IT p3):IT (PQ fu p3):=by
 intro p0 p7 pE r H
 refine qJ func267 H (fun C hC H=>?_)
 refine gQ 2 ?_;refine q1 (fQ (kH p0)) ?_;refine gQ 3 ?_;refine qY (σ:=(LB)) (fun v2=>⟨[(1,rS p7),(2,aS v2 0),(3,.ptr 0 0),(6,.nil)],⟨[some ⟨211,kH p0⟩],[⟨9,1,bA (v2),false⟩]⟩⟩) (fA H) (fun H=>?_) ?_
 ·refine gQ 6 ?_;refine dY 13 H (fun g3 H=>?_) fun g3 H=>?_
  ·refine gQ 3 ?_;refine bN H fun x5 z4 H=>(qg g3 (bJ func153 (nT fu p7 p0.aFs _ z4)) ?_)
   refine gQ 3 ?_;refine dY 20 H (fun g6 H=>?_) fun g6 H=>?_
   ·refine gQ 3 ?_;refine bN H fun x8 z7 H=>(qg g6 (bJ func153 (nT fu pE p0.aFs _ z7)) ?_)
    refine gQ 3 ?_;refine bG H (fun h9 H=>?_) (fun h9 H=>?_)
    ·refine gQ 4 ?_;refine q1 (iL ([p0.aFs]:LB)) (cB H fun z10 H=>(q1 (lO z10) ?_))
     exact gE 2
    exact gE 1
   exact gE 9
  exact gE 16
 rintro v2 H
 refine gQ 5 ?_;refine dR.fact (cP 0 7 rfl rfl rfl (aM.tl _)) (fun hl14=>?_)
 refine bV (σ:=(LB)) (fun i11 v13=>⟨[(1,rS p7),(2,aS v13 0),(3,.ptr 0 0),(6,.nil),(7,pN i11)],⟨[some ⟨211,kH p0⟩],[⟨9,1,bA (v13),false⟩]⟩⟩) (fun v13=>⟨[(1,rS p7),(2,aS v13 0),(3,.ptr 0 0),(6,.nil)],⟨[some ⟨211,kH p0⟩],[⟨9,1,bA (v13),false⟩]⟩⟩) (fA H) ?_ ?_
 ·rintro i11 v13 H
  refine gQ 9 ?_;refine cZ H (fun h15 h15l H=>?_) (fun h15 H=>?_)
  ·refine gQ 15 ?_;refine dY 43 H (fun g16 H=>?_) fun g16 H=>?_
   ·refine gQ 4 ?_;refine bG H (fun h17 H=>?_) (fun h17 H=>?_)
    ·refine cB H fun z18 H=>(cB H fun z19 H=>(dW (dE [] (sM ([]:LB)) (dI [1] bI (dE [47,48] (lO z18) (dI [3] bW (dB [50] 0 2 tP (dI [51] (iL ([p0.aFs]:LB)) (dE [49,52] (lO z19) (dI [53] bI (dN ?_)))))))))))
     refine gQ 4 ?_;refine gM H fun y20 h21 H=>(q1 (AR h21 h15l) (q1 (gZ (aM.cs y20)) ?_))
     refine gQ 2 ?_;refine bN H fun x23 z22 H=>(q1 (fO [] [0] func267 (p9 y20 ((([])++p7)++([p0.aFs]:LB)) v13 _ z22)) ?_)
     exact gE 7
    refine gQ 5 ?_;refine gM H fun y24 h25 H=>(q1 (AR h25 h15l) (q1 (gZ (aM.cs y24)) ?_))
    refine gQ 2 ?_;refine bN H fun x27 z26 H=>(q1 (fO [] [0] func267 (p9 y24 p7 v13 _ z26)) ?_)
    exact gE 7
   refine gQ 10 ?_;refine gM H fun y28 h29 H=>(q1 (AR h29 h15l) (q1 (gZ (aM.cs y28)) ?_))
   refine gQ 2 ?_;refine bN H fun x31 z30 H=>(q1 (fO [] [0] func267 (p9 y28 p7 v13 _ z30)) ?_)
   exact gE 7
  exact gE 0
 rintro v13 H
 refine gQ 5 ?_;refine dR.fact (cP 0 8 rfl rfl rfl (cC.tl _)) (fun hl35=>?_)
 refine bV (σ:=(LB)) (fun i32 v34=>⟨[(1,rS p7),(2,aS v34 0),(3,.ptr 0 0),(6,.nil),(9,pN i32)],⟨[some ⟨211,kH p0⟩],[⟨9,1,bA (v34),false⟩]⟩⟩) (fun v34=>⟨[(2,aS v34 0),(6,.nil)],⟨[some ⟨211,kH p0⟩],[⟨9,1,bA (v34),false⟩]⟩⟩) (fA H) ?_ ?_
 ·rintro i32 v34 H
  refine gQ 9 ?_;refine cZ H (fun h36 h36l H=>?_) (fun h36 H=>?_)
  ·refine gQ 3 ?_;refine gM H fun y37 h38 H=>(cB H fun z39 H=>(cB H fun z40 H=>(bN H fun x42 z41 H=>(dW (dI [3] bW (dB [69] 0 3 tP (dI [9] bI (dI [70,71] (AR h38 h36l) (dI [72] xE (dI [73] (gZ (aM.cs y37.aFE)) (dE [] (sM ([]:LB)) (dI [1] bI (dE [75,76] (lO z39) ?_)))))))))))))
   refine dI [3] bW (dB [78] 0 2 tP (dI [9] bI (dI [79,80] (AR h38 h36l) (dI [81] xE (dI [82] wH (dE [77,83] (lO z40) (dI [2] bI (dE [74,84,85] (fO [] [0] func267 (p9 y37.aFE ((([])++p7)++y37.aFH) v34 _ z41)) (dI [86] bI (dN ?_))))))))))
   exact gE 5
  exact gE 0
 rintro v34 H
 exact gE 5
def o4:Nat→aM→(LB)→(LB)→J ((LB))
 |0,_,_,_=>none
 |fu+1,p0,p7,pE=>PQ fu (o4 fu) p0 p7 pE
theorem agM(fu:Nat):IT (o4 fu):=by
 induction fu with
 |zero=>exact(fun p0 p7 pE r H=>by simp only [o4] at H;cases H)
 |succ fu ih=>exact(fun p0 p7 pE r H=>by simp only [o4] at H;exact ac2 fu (o4 fu) ih p0 p7 pE r H)
theorem akK(fu:Nat):IT (o4 fu):=(agM fu)
def yN(fu:Nat)(pe:aM):J ((LB)):=bd (o4 fu pe ([]) ([])) fun x2=>some x2
theorem R2(fu:Nat)(pe:aM)(r:(LB))(H:yN fu pe=some r):bU prog 261 [(aM.pv pe)] (rS r):=by
 refine qJ func261 H (fun C hC H=>?_)
 refine gQ 2 ?_;refine q1 (fQ (kH pe)) ?_;refine gQ 4 ?_;refine q1 (b4 [pI pe.aFw,pS pe.aFz,pS pe.aFs,pI pe.aGa,pI pe.aFu.aFw,pS pe.aFu.aFs,aV pe.aFu.aFt,jV pe.aFt,tX pe.aFP]) ?_
 iterate 2 refine q1 (sM ([]:LB)) ?_
 refine bN H fun x2 z1 H=>(q1 (fO [] [1] func267 (akK fu pe ([]) ([]) _ z1)) ?_)
 exact gE 2
def VZ(fu:Nat)(pt:aA)(p4 x2:LB):Nat→Unit→J (LR Unit Bool):=fun i3 _=>bd (mL fu p4 (aR x2 i3)) fun x7=>sw (!(x7)) (some (.ret false)) (some (.next ()))
def nI(fu:Nat)(pt:aA)(p4:LB):J Bool:=bd (qL fu pt) fun x2=>so (loopN (VZ fu pt p4 x2) (x2.length-0) 0 ()) fun _=>bd (jK fu pt) fun x10=>some x10
theorem tK(fu:Nat)(pt:aA)(p4:LB)(r:Bool)(H:nI fu pt p4=some r):bU prog 248 [(aA.pv pt),rS p4] (pB r):=by
 refine qJ func248 H (fun C hC H=>?_)
 refine gQ 2 ?_;refine q1 (fQ (cF pt)) ?_;refine gQ 4 ?_;refine q1 (b4 [pI pt.aFw,pS pt.aFs,aV pt.aFt]) (bN H fun x2 z1 H=>(q1 (bJ func85 (ER fu pt _ z1)) ?_))
 refine gQ 7 ?_;refine gV 5 (b6 _) (fun hl4=>?_)
 refine bV (σ:=Unit) (fun i3 _=>⟨[(1,rS p4),(2,.ptr 0 0),(4,pB false),(5,rS x2),(6,pN i3)],⟨[some ⟨30,cF pt⟩],[]⟩⟩) (fun _=>⟨[(2,.ptr 0 0),(4,pB false)],⟨[some ⟨30,cF pt⟩],[]⟩⟩) (fA H) ?_ ?_
 ·rintro i3 ⟨⟩ H
  refine gQ 8 ?_;refine cZ H (fun h5 h5l H=>?_) (fun h5 H=>?_)
  ·refine gQ 10 ?_;refine bN H fun x7 z6 H=>(q1 (bJ func153 (nT fu p4 (aR x2 i3) _ z6)) ?_)
   refine gQ 2 ?_;refine bG H (fun h8 H=>gE 4) fun h8 H=>?_;exact gE 6
  exact gE 0
 rintro⟨⟩ H
 refine gQ 2 ?_;refine q1 (b4 [pI pt.aFw,pS pt.aFs,aV pt.aFt]) (bN H fun x10 z9 H=>(q1 (bJ func258 (nS fu pt _ z9)) ?_))
 exact gE 2
def aaY(fu:Nat)(p2:Z aA)(p4:LB):Nat→Unit→J (LR Unit Bool):=fun i1 _=>bd (nI fu (aR p2 i1) p4) fun x5=>sw (!(x5)) (some (.ret false)) (some (.next ()))
def CK(fu:Nat)(p2:Z aA)(p4:LB):J Bool:=so (loopN (aaY fu p2 p4) (p2.length-0) 0 ()) fun _=>some true
theorem aaZ(fu:Nat)(p2:Z aA)(p4:LB)(r:Bool)(H:CK fu p2 p4=some r):bU prog 247 [aV p2,rS p4] (pB r):=by
 refine qJ func247 H (fun C hC H=>?_)
 refine gQ 9 ?_;refine gV 0 (aA.tl _) (fun hl2=>?_)
 refine bV (σ:=Unit) (fun i1 _=>⟨[(0,aV p2),(1,rS p4),(4,pB false),(5,pN i1)],⟨[],[]⟩⟩) (fun _=>⟨[(4,pB false)],⟨[],[]⟩⟩) (fA H) ?_ ?_
 ·rintro i1 ⟨⟩ H
  refine gQ 8 ?_;refine cZ H (fun h3 h3l H=>?_) (fun h3 H=>?_)
  ·refine gQ 8 ?_;refine q1 (gZ (aA.cs (aR p2 i1))) (q1 bI (bN H fun x5 z4 H=>(q1 (bJ func248 (tK fu (aR p2 i1) p4 _ z4)) ?_)))
   refine gQ 2 ?_;refine bG H (fun h6 H=>gE 4) fun h6 H=>?_;exact gE 6
  exact gE 0
 rintro⟨⟩ H
 exact gE 4
def PX(fu:Nat)(pe:aM):J Bool:=bd (lR fu pe (aM.mk 0 s_ s_ 0 (aA.mk 0 s_ []) [] [])) fun x2=>some x2
theorem akY(fu:Nat)(pe:aM)(r:Bool)(H:PX fu pe=some r):bU prog 257 [(aM.pv pe)] (pB r):=by
 refine qJ func257 H (fun C hC H=>?_)
 refine gQ 2 ?_;refine q1 (fQ (kH pe)) ?_;refine gQ 4 ?_;refine q1 (b4 [pI pe.aFw,pS pe.aFz,pS pe.aFs,pI pe.aGa,pI pe.aFu.aFw,pS pe.aFu.aFs,aV pe.aFu.aFt,jV pe.aFt,tX pe.aFP]) (q1 rQ (bN H fun x2 z1 H=>(q1 (bJ func263 (acP fu pe (aM.mk 0 s_ s_ 0 (aA.mk 0 s_ []) [] []) _ z1)) ?_)))
 exact gE 2
def iI(fu:Nat)(p2:LB)(pF:Int):J Bool:=sw (decide ((p2.length:Int)≤pF)) (bd (I8 fu p2) fun x3=>sw x3 (bd (l0 fu p2) fun x6=>some x6) (some false)) (some false)
theorem iU(fu:Nat)(p2:LB)(pF:Int)(r:Bool)(H:iI fu p2 pF=some r):bU prog 206 [rS p2,pI pF] (pB r):=by
 refine qJ func206 H (fun C hC H=>?_)
 refine gQ 11 ?_;refine dY 9 H (fun g1 H=>?_) fun g1 H=>?_
 ·refine qg g1 bI (bN H fun x3 z2 H=>(qg g1 (bJ func228 (V8 fu p2 _ z2)) ?_))
  refine gQ 2 ?_;refine dY 13 H (fun g4 H=>?_) fun g4 H=>?_
  ·refine qg g4 bI (bN H fun x6 z5 H=>(qg g4 (bJ func207 (nR fu p2 _ z5)) ?_))
   exact gE 3
  exact gE 5
 exact gE 9
def akV(fu:Nat)(pe:aM)(p4 x2:LB):Nat→Unit→J (LR Unit Bool):=fun i3 _=>bd (mL fu p4 (aR x2 i3)) fun x7=>sw (!(x7)) (some (.ret false)) (some (.next ()))
def DR(fu:Nat)(pe:aM)(p4:LB):J Bool:=bd (yN fu pe) fun x2=>so (loopN (akV fu pe p4 x2) (x2.length-0) 0 ()) fun _=>bd (DI fu pe) fun x10=>some x10
theorem K7(fu:Nat)(pe:aM)(p4:LB)(r:Bool)(H:DR fu pe p4=some r):bU prog 252 [(aM.pv pe),rS p4] (pB r):=by
 refine qJ func252 H (fun C hC H=>?_)
 refine gQ 2 ?_;refine q1 (fQ (kH pe)) ?_;refine gQ 4 ?_;refine q1 (b4 [pI pe.aFw,pS pe.aFz,pS pe.aFs,pI pe.aGa,pI pe.aFu.aFw,pS pe.aFu.aFs,aV pe.aFu.aFt,jV pe.aFt,tX pe.aFP]) (bN H fun x2 z1 H=>(q1 (bJ func261 (R2 fu pe _ z1)) ?_))
 refine gQ 7 ?_;refine gV 5 (b6 _) (fun hl4=>?_)
 refine bV (σ:=Unit) (fun i3 _=>⟨[(1,rS p4),(2,.ptr 0 0),(4,pB false),(5,rS x2),(6,pN i3)],⟨[some ⟨211,kH pe⟩],[]⟩⟩) (fun _=>⟨[(2,.ptr 0 0),(4,pB false)],⟨[some ⟨211,kH pe⟩],[]⟩⟩) (fA H) ?_ ?_
 ·rintro i3 ⟨⟩ H
  refine gQ 8 ?_;refine cZ H (fun h5 h5l H=>?_) (fun h5 H=>?_)
  ·refine gQ 10 ?_;refine bN H fun x7 z6 H=>(q1 (bJ func153 (nT fu p4 (aR x2 i3) _ z6)) ?_)
   refine gQ 2 ?_;refine bG H (fun h8 H=>gE 4) fun h8 H=>?_;exact gE 6
  exact gE 0
 rintro⟨⟩ H
 refine gQ 2 ?_;refine q1 (b4 [pI pe.aFw,pS pe.aFz,pS pe.aFs,pI pe.aGa,pI pe.aFu.aFw,pS pe.aFu.aFs,aV pe.aFu.aFt,jV pe.aFt,tX pe.aFP]) (bN H fun x10 z9 H=>(q1 (bJ func262 (W8 fu pe _ z9)) ?_))
 exact gE 2
def U0(fu:Nat)(ps:aG):J Bool:=bd (dX fu ps.aFs) fun x2=>sw (!(x2)) (some false) (sw (decide ((ps.aFO.length:Int)>4)) (some false) (bd (CK fu ps.aFO ([lI]:LB)) fun x6=>sw (!(x6)) (some false) (bd (nI fu ps.aFM ([lI]:LB)) fun x9=>sw (!(x9)) (some false) (sw (!(ps.aF3)) (sw (decide ((ps.aFH.length:Int)=0)) (bd (PX fu ps.aFE) fun x14=>some x14) (some false)) (bd (iI fu ps.aFH 5) fun x16=>sw x16 (sw (decide ((ps.aFH.length:Int)=bB ((ps.aFO.length:Int)+1))) (bd (DR fu ps.aFE ps.aFH) fun x20=>some x20) (some false)) (some false))))))
theorem anX(fu:Nat)(ps:aG)(r:Bool)(H:U0 fu ps=some r):bU prog 246 [(aG.pv ps)] (pB r):=by
 refine qJ func246 H (fun C hC H=>?_)
 refine gQ 2 ?_;refine q1 (fQ (amJ ps)) ?_;refine gQ 7 ?_;refine bN H fun x2 z1 H=>(q1 (bJ func205 (eT fu ps.aFs _ z1)) ?_)
 refine gQ 2 ?_;refine dY 7 H (fun g3 H=>gE 25) fun g3 H=>?_;refine gQ 6 ?_;refine dY 13 H (fun g4 H=>gE 19) fun g4 H=>?_;refine gQ 2 ?_;refine qg g4 (iL ([lI]:LB)) (bN H fun x6 z5 H=>(qg g4 (bJ func247 (aaZ fu ps.aFO ([lI]:LB) _ z5)) ?_))
 refine gQ 3 ?_;refine dY 20 H (fun g7 H=>gE 12) fun g7 H=>?_;refine qg g7 bW (qg g7 (b4 [pI ps.aFM.aFw,pS ps.aFM.aFs,aV ps.aFM.aFt]) (qg g7 (iL ([lI]:LB)) (bN H fun x9 z8 H=>(qg g7 (bJ func248 (tK fu ps.aFM ([lI]:LB) _ z8)) ?_))))
 refine gQ 3 ?_;refine bG H (fun h10 H=>gE 4) fun h10 H=>?_;refine gQ 8 ?_;refine bG H (fun h11 H=>?_) (fun h11 H=>?_)
 ·refine gQ 7 ?_;refine dY 34 H (fun g12 H=>?_) fun g12 H=>?_
  ·refine qg g12 bW (qg g12 (b4 [pI ps.aFE.aFw,pS ps.aFE.aFz,pS ps.aFE.aFs,pI ps.aFE.aGa,pI ps.aFE.aFu.aFw,pS ps.aFE.aFu.aFs,aV ps.aFE.aFu.aFt,jV ps.aFE.aFt,tX ps.aFE.aFP]) (bN H fun x14 z13 H=>(qg g12 (bJ func257 (akY fu ps.aFE _ z13)) ?_)))
   exact gE 3
  exact gE 6
 refine gQ 5 ?_;refine bN H fun x16 z15 H=>(q1 (bJ func206 (iU fu ps.aFH 5 _ z15)) (q1 bI ?_))
 refine dY 42 H (fun g17 H=>?_) fun g17 H=>?_
 ·refine gQ 6 ?_;refine qg g17 rAw ?_;refine gQ 3 ?_;refine dY 52 H (fun g18 H=>?_) fun g18 H=>?_
  ·refine qg g18 bW (qg g18 (b4 [pI ps.aFE.aFw,pS ps.aFE.aFz,pS ps.aFE.aFs,pI ps.aFE.aGa,pI ps.aFE.aFu.aFw,pS ps.aFE.aFu.aFs,aV ps.aFE.aFu.aFt,jV ps.aFE.aFt,tX ps.aFE.aFP]) ?_)
   refine gQ 2 ?_;refine bN H fun x20 z19 H=>(qg g18 (bJ func252 (K7 fu ps.aFE ps.aFH _ z19)) ?_)
   exact gE 3
  exact gE 8
 exact gE 18
def UI(fu:Nat)(pt:aZ):Nat→((LB))→J (LR ((LB)) Bool):=fun i1 v3=>lt (aR pt.aFQ i1) fun y6=>bd (U0 fu y6) fun x9=>sw (!(x9)) (some (.ret false)) (gd ((v3).length+(([y6.aFs]:LB)).length≤68719476736) (some (.next (v3++([y6.aFs]:LB)))))
def uV(fu:Nat)(pt:aZ):J Bool:=so (loopN (UI fu pt) (pt.aFQ.length-0) 0 ([])) fun v3=>sw (pt.aF1) (sw (pt.aFR) (some false) (sw (decide ((pt.aFQ.length:Int)>0)) (some false) (sw (decide ((pt.aFD.length:Int)>0)) (some false) (bd (dX fu pt.aFs) fun x17=>sw x17 (bd (iI fu pt.aFD 4) fun x20=>sw x20 (bd (iI fu v3 6) fun x23=>some x23) (some false)) (some false))))) (bd (dX fu pt.aFs) fun x25=>sw x25 (bd (iI fu pt.aFD 4) fun x28=>sw x28 (bd (iI fu v3 6) fun x31=>some x31) (some false)) (some false))
theorem G2(fu:Nat)(pt:aZ)(r:Bool)(H:uV fu pt=some r):bU prog 229 [(aZ.pv pt)] (pB r):=by
 refine qJ func229 H (fun C hC H=>?_)
 refine gQ 2 ?_;refine q1 (fQ (t9 pt)) ?_;refine gQ 4 ?_;refine q1 (sM ([]:LB)) ?_;refine gQ 7 ?_;refine dR.fact (cP 0 4 rfl rfl rfl (aG.tl _)) (fun hl4=>?_)
 refine bV (σ:=(LB)) (fun i1 v3=>⟨[(1,.ptr 0 0),(2,pB false),(3,aS v3 0),(4,pN i1)],⟨[some ⟨156,t9 pt⟩],[⟨9,1,bA (v3),false⟩]⟩⟩) (fun v3=>⟨[(1,.ptr 0 0),(2,pB false),(3,aS v3 0)],⟨[some ⟨156,t9 pt⟩],[⟨9,1,bA (v3),false⟩]⟩⟩) (fA H) ?_ ?_
 ·rintro i1 v3 H
  refine gQ 9 ?_;refine cZ H (fun h5 h5l H=>?_) (fun h5 H=>?_)
  ·refine gQ 9 ?_;refine gM H fun y6 h7 H=>(q1 (AR h7 h5l) (q1 (gZ (aG.cs y6)) (bN H fun x9 z8 H=>(q1 (bJ func246 (anX fu y6 _ z8)) ?_))))
   refine gQ 2 ?_;refine bG H (fun h10 H=>gE 4) fun h10 H=>?_;refine gQ 6 ?_;refine q1 (AR h7 h5l) ?_;refine gQ 2 ?_;refine q1 (iL ([y6.aFs]:LB)) (cB H fun z11 H=>(q1 (lO z11) ?_))
   exact gE 7
  exact gE 0
 rintro v3 H
 refine gQ 6 ?_;refine dY 31 H (fun g12 H=>?_) fun g12 H=>?_
 ·refine gQ 3 ?_;refine dY 34 H (fun g13 H=>gE 18) fun g13 H=>?_;refine gQ 6 ?_;refine dY 40 H (fun g14 H=>gE 12) fun g14 H=>?_;refine gQ 7 ?_;refine bG H (fun h15 H=>gE 4) fun h15 H=>?_;refine gQ 5 ?_;refine bN H fun x17 z16 H=>(q1 (bJ func205 (eT fu pt.aFs _ z16)) (q1 bI ?_))
  refine dY 50 H (fun g18 H=>?_) fun g18 H=>?_
  ·refine gQ 2 ?_;refine bN H fun x20 z19 H=>(qg g18 (bJ func206 (iU fu pt.aFD 4 _ z19)) ?_)
   refine gQ 2 ?_;refine dY 55 H (fun g21 H=>?_) fun g21 H=>?_
   ·refine qg g21 bI (bN H fun x23 z22 H=>(qg g21 (bJ func206 (iU fu v3 6 _ z22)) ?_))
    exact gE 3
   exact gE 5
  exact gE 10
 refine gQ 22 ?_;refine bN H fun x25 z24 H=>(q1 (bJ func205 (eT fu pt.aFs _ z24)) (q1 bI ?_))
 refine dY 50 H (fun g26 H=>?_) fun g26 H=>?_
 ·refine gQ 2 ?_;refine bN H fun x28 z27 H=>(qg g26 (bJ func206 (iU fu pt.aFD 4 _ z27)) ?_)
  refine gQ 2 ?_;refine dY 55 H (fun g29 H=>?_) fun g29 H=>?_
  ·refine qg g29 bI (bN H fun x31 z30 H=>(qg g29 (bJ func206 (iU fu v3 6 _ z30)) ?_))
   exact gE 3
  exact gE 5
 exact gE 10
def BI(fu:Nat)(pd:aO):Nat→((LB))→J (LR ((LB)) Bool):=fun i1 v3=>sw (decide ((((((aR pd.aFx i1).aFN).length:Nat):Int):Int)>4)) (some (.ret false)) (bd (CK fu ((aR pd.aFx i1).aFN) pd.aFH) fun x8=>sw (!(x8)) (some (.ret false)) (gd ((v3).length+(([((aR pd.aFx i1).aFs)]:LB)).length≤68719476736) (some (.next (v3++([((aR pd.aFx i1).aFs)]:LB))))))
def lG(fu:Nat)(pd:aO):J Bool:=so (loopN (BI fu pd) (pd.aFx.length-0) 0 ([])) fun v3=>bd (dX fu pd.aFs) fun x12=>sw x12 (bd (iI fu pd.aFH 3) fun x15=>sw x15 (sw (decide ((v3.length:Int)>0)) (bd (iI fu v3 5) fun x19=>some x19) (some false)) (some false)) (some false)
theorem BJ(fu:Nat)(pd:aO)(r:Bool)(H:lG fu pd=some r):bU prog 230 [(aO.pv pd)] (pB r):=by
 refine qJ func230 H (fun C hC H=>?_)
 refine gQ 2 ?_;refine q1 (fQ (kO pd)) ?_;refine gQ 4 ?_;refine q1 (sM ([]:LB)) ?_;refine gQ 7 ?_;refine dR.fact (cP 0 2 rfl rfl rfl (aE.tl _)) (fun hl4=>?_)
 refine bV (σ:=(LB)) (fun i1 v3=>⟨[(1,.ptr 0 0),(2,pB false),(3,aS v3 0),(4,pN i1)],⟨[some ⟨39,kO pd⟩],[⟨9,1,bA (v3),false⟩]⟩⟩) (fun v3=>⟨[(1,.ptr 0 0),(2,pB false),(3,aS v3 0)],⟨[some ⟨39,kO pd⟩],[⟨9,1,bA (v3),false⟩]⟩⟩) (fA H) ?_ ?_
 ·rintro i1 v3 H
  refine gQ 9 ?_;refine cZ H (fun h5 h5l H=>?_) (fun h5 H=>?_)
  ·refine gQ 5 ?_
   rcases nA (decide ((((((aR pd.aFx i1).aFN).length:Nat):Int):Int)>4)) with g6|g6
   ·have H:=sS H g6
    refine dW (dI [1] bW (dD [13] eG (dI [4] bI (dI [14,15] mU (dI [16] xE (dI [17] wH (dI [18] tLn (dI [19] rGt (dI [20] bI ?_)))))))))
    iterate 10 refine JV g6 ?_
    refine dI [21] (CJ g6) (dN ?_)
    exact gE 5
   have H:=sR H g6
   refine bN H fun x8 z7 H=>(dW (dI [1] bW (dD [13] eG (dI [4] bI (dI [14,15] mU (dI [16] xE (dI [17] wH (dI [18] tLn (dI [19] rGt (dI [20] bI (dI (hg:=bD g6) [1] bW (dD (hg:=bD g6) [22] eG (dI (hg:=bD g6) [4] bI ?_)))))))))))))
   refine dI (hg:=bD g6) [23,24] mU (dI (hg:=bD g6) [25] xE (dI (hg:=bD g6) [26] wH (dI (hg:=bD g6) [1] bW (dD (hg:=bD g6) [28] eG (dI (hg:=bD g6) [27,29] (bJ func247 (aaZ fu ((aR pd.aFx i1).aFN) pd.aFH _ z7)) (dI (hg:=bD g6) [30] JP (dI [21,31] (D3 g6) (dN ?_))))))))
   refine bG H (fun h9 H=>gE 4) fun h9 H=>?_;refine gQ 9 ?_;refine q1 (iL ([((aR pd.aFx i1).aFs)]:LB)) (cB H fun z10 H=>(q1 (lO z10) ?_))
   exact gE 7
  exact gE 0
 rintro v3 H
 refine gQ 4 ?_;refine bN H fun x12 z11 H=>(q1 (bJ func205 (eT fu pd.aFs _ z11)) (q1 bI ?_))
 refine dY 45 H (fun g13 H=>?_) fun g13 H=>?_
 ·refine gQ 2 ?_;refine bN H fun x15 z14 H=>(qg g13 (bJ func206 (iU fu pd.aFH 3 _ z14)) ?_)
  refine gQ 2 ?_;refine dY 50 H (fun g16 H=>?_) fun g16 H=>?_
  ·refine gQ 5 ?_;refine dY 55 H (fun g17 H=>?_) fun g17 H=>?_
   ·refine qg g17 bI (bN H fun x19 z18 H=>(qg g17 (bJ func206 (iU fu v3 5 _ z18)) ?_))
    exact gE 3
   exact gE 5
  exact gE 10
 exact gE 15
def A9(fu:Nat)(pb:aD):J Bool:=bd (dX fu pb.aFz) fun x2=>sw x2 (bd (jK fu pb.aFu) fun x5=>some x5) (some false)
theorem UG(fu:Nat)(pb:aD)(r:Bool)(H:A9 fu pb=some r):bU prog 259 [(aD.pv pb)] (pB r):=by
 refine qJ func259 H (fun C hC H=>?_)
 refine gQ 2 ?_;refine q1 (fQ (b8 pb)) ?_;refine gQ 6 ?_;refine bN H fun x2 z1 H=>(q1 (bJ func205 (eT fu pb.aFz _ z1)) (q1 bI ?_))
 refine dY 6 H (fun g3 H=>?_) fun g3 H=>?_
 ·refine qg g3 bW (qg g3 (b4 [pI pb.aFu.aFw,pS pb.aFu.aFs,aV pb.aFu.aFt]) (bN H fun x5 z4 H=>(qg g3 (bJ func258 (nS fu pb.aFu _ z4)) ?_)))
  exact gE 3
 exact gE 6
def R9(fu:Nat)(p2:Z aD)(p4:LB):Nat→Unit→J (LR Unit Bool):=fun i1 _=>bd (A9 fu (aR p2 i1)) fun x5=>sw (!(x5)) (some (.ret false)) (bd (nI fu ((aR p2 i1).aFu) p4) fun x8=>sw (!(x8)) (some (.ret false)) (bd (eI fu ((aR p2 i1).aFu)) fun x11=>sw x11 (some (.ret false)) (some (.next ()))))
def wB(fu:Nat)(p2:Z aD)(p4:LB):J Bool:=so (loopN (R9 fu p2 p4) (p2.length-0) 0 ()) fun _=>some (decide ((p2.length:Int)≤4))
theorem SA(fu:Nat)(p2:Z aD)(p4:LB)(r:Bool)(H:wB fu p2 p4=some r):bU prog 249 [b0 p2,rS p4] (pB r):=by
 refine qJ func249 H (fun C hC H=>?_)
 refine gQ 9 ?_;refine gV 0 (aD.tl _) (fun hl2=>?_)
 refine bV (σ:=Unit) (fun i1 _=>⟨[(0,b0 p2),(1,rS p4),(4,pB false),(5,pN i1)],⟨[],[]⟩⟩) (fun _=>⟨[(0,b0 p2),(4,pB false)],⟨[],[]⟩⟩) (fA H) ?_ ?_
 ·rintro i1 ⟨⟩ H
  refine gQ 8 ?_;refine cZ H (fun h3 h3l H=>?_) (fun h3 H=>?_)
  ·refine gQ 8 ?_;refine q1 (gZ (aD.cs (aR p2 i1))) (bN H fun x5 z4 H=>(q1 (bJ func259 (UG fu (aR p2 i1) _ z4)) ?_))
   refine gQ 2 ?_;refine dY 18 H (fun g6 H=>gE 23) fun g6 H=>?_;refine gQ 4 ?_;refine qg g6 (gZ (aA.cs ((aR p2 i1).aFu))) (qg g6 bI (bN H fun x8 z7 H=>(qg g6 (bJ func248 (tK fu ((aR p2 i1).aFu) p4 _ z7)) ?_)))
   refine gQ 3 ?_;refine dY 28 H (fun g9 H=>gE 13) fun g9 H=>?_;refine gQ 4 ?_;refine qg g9 (gZ (aA.cs ((aR p2 i1).aFu))) (bN H fun x11 z10 H=>(qg g9 (bJ func86 (w9 fu ((aR p2 i1).aFu) _ z10)) ?_))
   refine gQ 2 ?_;refine bG H (fun h12 H=>gE 4) fun h12 H=>?_;exact gE 6
  exact gE 0
 rintro⟨⟩ H
 exact gE 7
def BM(fu:Nat)(p0:aL)(x2 x5 x8 x11 x15:Bool):Nat→Unit→J (LR Unit Bool):=fun i17 _=>bd (KZ fu (aR p0.aFH i17) p0.aFJ) fun x21=>sw (!(x21)) (some (.ret false)) (some (.next ()))
def BL(fu:Nat)(p0:aL)(x2 x5 x8 x11 x15:Bool):J (Bool⊕Unit):=sw (p0.aF4) (bd (nI fu p0.aFR p0.aFH) fun x25=>sw (!(x25)) (some (.inl false)) (some (.inr ()))) (bd (rK fu p0.aFR) fun x28=>sw (!(x28)) (some (.inl false)) (some (.inr ())))
def BN(fu:Nat)(p0:aL)(x2 x5 x8 x11 x15:Bool):Nat→((LB))→J (LR ((LB)) Bool):=fun i30 v32=>lt (aR p0.aFW i30) fun y35=>sw (decide ((y35.aFH.length:Int)=0)) (some (.ret false)) (bd (iI fu y35.aFH 5) fun x39=>sw (!(x39)) (some (.ret false)) (bd (DR fu y35.aFE y35.aFH) fun x42=>sw (!(x42)) (some (.ret false)) (gd ((v32).length+(([y35.aFs]:LB)).length≤68719476736) (some (.next (v32++([y35.aFs]:LB)))))))
def lH(fu:Nat)(p0:aL):J Bool:=bd (dX fu p0.aFz) fun x2=>sw (!(x2)) (some false) (bd (iI fu p0.aFH 3) fun x5=>sw (!(x5)) (some false) (bd (nI fu p0.aFJ p0.aFH) fun x8=>sw (!(x8)) (some false) (bd (eI fu p0.aFJ) fun x11=>sw x11 (some false) (sw (decide (p0.aFJ.aFw=4)) (some false) (bd (wB fu p0.aFL p0.aFH) fun x15=>sw (!(x15)) (some false) (so (loopN (BM fu p0 x2 x5 x8 x11 x15) (p0.aFH.length-0) 0 ()) fun _=>so (BL fu p0 x2 x5 x8 x11 x15) fun _=>so (loopN (BN fu p0 x2 x5 x8 x11 x15) (p0.aFW.length-0) 0 ([])) fun v32=>bd (iI fu v32 6) fun x46=>some x46))))))
theorem BO(fu:Nat)(p0:aL)(r:Bool)(H:lH fu p0=some r):bU prog 231 [(aL.pv p0)] (pB r):=by
 refine qJ func231 H (fun C hC H=>?_)
 refine gQ 2 ?_;refine q1 (fQ (eO p0)) ?_;refine gQ 7 ?_;refine bN H fun x2 z1 H=>(q1 (bJ func205 (eT fu p0.aFz _ z1)) ?_)
 refine gQ 2 ?_;refine dY 11 H (fun g3 H=>gE 38) fun g3 H=>?_;refine gQ 2 ?_;refine bN H fun x5 z4 H=>(qg g3 (bJ func206 (iU fu p0.aFH 3 _ z4)) ?_)
 refine gQ 3 ?_;refine dY 17 H (fun g6 H=>gE 32) fun g6 H=>?_;refine qg g6 bW (qg g6 (b4 [pI p0.aFJ.aFw,pS p0.aFJ.aFs,aV p0.aFJ.aFt]) ?_)
 refine gQ 2 ?_;refine bN H fun x8 z7 H=>(qg g6 (bJ func248 (tK fu p0.aFJ p0.aFH _ z7)) ?_)
 refine gQ 3 ?_;refine dY 25 H (fun g9 H=>gE 24) fun g9 H=>?_;refine qg g9 bW (qg g9 (b4 [pI p0.aFJ.aFw,pS p0.aFJ.aFs,aV p0.aFJ.aFt]) (bN H fun x11 z10 H=>(qg g9 (bJ func86 (w9 fu p0.aFJ _ z10)) ?_)))
 refine gQ 2 ?_;refine dY 30 H (fun g12 H=>gE 19) fun g12 H=>?_;refine gQ 6 ?_;refine dY 36 H (fun g13 H=>gE 13) fun g13 H=>?_;refine gQ 4 ?_;refine bN H fun x15 z14 H=>(qg g13 (bJ func249 (SA fu p0.aFL p0.aFH _ z14)) ?_)
 refine gQ 3 ?_;refine bG H (fun h16 H=>gE 4) fun h16 H=>?_;refine gQ 6 ?_;refine gV 13 (b6 _) (fun hl18=>?_)
 refine bV (σ:=Unit) (fun i17 _=>⟨[(1,.ptr 0 0),(2,pB false),(3,pN i17)],⟨[some ⟨163,eO p0⟩],[]⟩⟩) (fun _=>⟨[(1,.ptr 0 0),(2,pB false)],⟨[some ⟨163,eO p0⟩],[]⟩⟩) (fA H) ?_ ?_
 ·rintro i17 ⟨⟩ H
  refine gQ 9 ?_;refine cZ H (fun h19 h19l H=>?_) (fun h19 H=>?_)
  ·refine gQ 4 ?_;refine bN H fun x21 z20 H=>(dW (dI [1] bW (dD [51] eG (dI [3] bI (dI [52,53] mU (dI [54] wH (dI [1] bW (dD [56] (b4 [pI p0.aFJ.aFw,pS p0.aFJ.aFs,aV p0.aFJ.aFt]) (dI [55,57] (bJ func250 (agF fu (aR p0.aFH i17) p0.aFJ _ z20)) (dI [58] JP (dN ?_)))))))))))
   refine bG H (fun h22 H=>gE 4) fun h22 H=>?_;exact gE 6
  exact gE 0
 rintro⟨⟩ H
 refine qS ?_;refine qY (σ:=Unit) (fun _=>⟨[(1,.ptr 0 0),(2,pB false)],⟨[some ⟨163,eO p0⟩],[]⟩⟩) (fA H) (fun H=>?_) ?_
 ·refine gQ 5 ?_;refine dY 62 H (fun g23 H=>?_) fun g23 H=>?_
  ·refine qg g23 bW (qg g23 (b4 [pI p0.aFR.aFw,pS p0.aFR.aFs,aV p0.aFR.aFt]) ?_)
   refine gQ 2 ?_;refine bN H fun x25 z24 H=>(qg g23 (bJ func248 (tK fu p0.aFR p0.aFH _ z24)) ?_)
   refine gQ 3 ?_;refine dY 70 H (fun g26 H=>gE 16) fun g26 H=>?_;refine gQ 4 ?_
   iterate 4 refine qk (congrArg (fun b=> !b) g23) ?_
   refine qg g26 (D3 (congrArg (fun b=> !b) g23)) ?_;exact gE 4
  refine gQ 12 ?_;refine qg (congrArg (fun b=> !b) g23) bW (qg (congrArg (fun b=> !b) g23) (b4 [pI p0.aFR.aFw,pS p0.aFR.aFs,aV p0.aFR.aFt]) (bN H fun x28 z27 H=>(qg (congrArg (fun b=> !b) g23) (bJ func251 (AH fu p0.aFR _ z27)) (qg (congrArg (fun b=> !b) g23) JP (qg rfl (CJ (congrArg (fun b=> !b) g23)) ?_)))))
  refine gQ 2 ?_;refine bG H (fun h29 H=>gE 4) fun h29 H=>?_;exact gE 1
 rintro⟨⟩ H
 refine gQ 2 ?_;refine q1 (sM ([]:LB)) ?_;refine gQ 7 ?_;refine dR.fact (cP 0 11 rfl rfl rfl (aT.tl _)) (fun hl33=>?_)
 refine bV (σ:=(LB)) (fun i30 v32=>⟨[(1,.ptr 0 0),(2,pB false),(4,aS v32 0),(5,pN i30)],⟨[some ⟨163,eO p0⟩],[⟨9,1,bA (v32),false⟩]⟩⟩) (fun v32=>⟨[(2,pB false),(4,aS v32 0)],⟨[some ⟨163,eO p0⟩],[⟨9,1,bA (v32),false⟩]⟩⟩) (fA H) ?_ ?_
 ·rintro i30 v32 H
  refine gQ 9 ?_;refine cZ H (fun h34 h34l H=>?_) (fun h34 H=>?_)
  ·refine gQ 8 ?_;refine gM H fun y35 h36 H=>(q1 (AR h36 h34l) (q1 (gZ (aT.cs y35)) ?_))
   refine gQ 11 ?_;refine dY 98 H (fun g37 H=>gE 19) fun g37 H=>?_;refine gQ 2 ?_;refine bN H fun x39 z38 H=>(qg g37 (bJ func206 (iU fu y35.aFH 5 _ z38)) ?_)
   refine gQ 3 ?_;refine dY 104 H (fun g40 H=>gE 13) fun g40 H=>?_;refine qg g40 bW (qg g40 (b4 [pI y35.aFE.aFw,pS y35.aFE.aFz,pS y35.aFE.aFs,pI y35.aFE.aGa,pI y35.aFE.aFu.aFw,pS y35.aFE.aFu.aFs,aV y35.aFE.aFu.aFt,jV y35.aFE.aFt,tX y35.aFE.aFP]) ?_)
   refine gQ 2 ?_;refine bN H fun x42 z41 H=>(qg g40 (bJ func252 (K7 fu y35.aFE y35.aFH _ z41)) ?_)
   refine gQ 3 ?_;refine bG H (fun h43 H=>gE 4) fun h43 H=>?_;refine gQ 5 ?_;refine q1 (iL ([y35.aFs]:LB)) (cB H fun z44 H=>(q1 (lO z44) ?_))
   exact gE 7
  exact gE 0
 rintro v32 H
 refine gQ 3 ?_;refine bN H fun x46 z45 H=>(q1 (bJ func206 (iU fu v32 6 _ z45)) ?_)
 exact gE 2
def NL(fu:Nat)(pf:aQ):Nat→((LB))→J (LR ((LB)) Bool):=fun i1 v3=>bd (nI fu ((aR pf.aFO i1).aFu) pf.aFH) fun x7=>sw (!(x7)) (some (.ret false)) (gd ((v3).length+(([((aR pf.aFO i1).aFs)]:LB)).length≤68719476736) (some (.next (v3++([((aR pf.aFO i1).aFs)]:LB)))))
def rJ(fu:Nat)(pf:aQ):J Bool:=so (loopN (NL fu pf) (pf.aFO.length-0) 0 ([])) fun v3=>bd (dX fu pf.aFs) fun x11=>sw x11 (bd (iI fu pf.aFH 3) fun x14=>sw x14 (bd (wB fu pf.aFL pf.aFH) fun x17=>sw x17 (bd (iI fu v3 5) fun x20=>sw x20 (bd (nI fu pf.aFM pf.aFH) fun x23=>sw x23 (bd (DR fu pf.aFE v3) fun x26=>some x26) (some false)) (some false)) (some false)) (some false)) (some false)
theorem BK(fu:Nat)(pf:aQ)(r:Bool)(H:rJ fu pf=some r):bU prog 232 [(aQ.pv pf)] (pB r):=by
 refine qJ func232 H (fun C hC H=>?_)
 refine gQ 2 ?_;refine q1 (fQ (CF pf)) ?_;refine gQ 4 ?_;refine q1 (sM ([]:LB)) ?_;refine gQ 7 ?_;refine dR.fact (cP 0 3 rfl rfl rfl (aY.tl _)) (fun hl4=>?_)
 refine bV (σ:=(LB)) (fun i1 v3=>⟨[(1,.ptr 0 0),(2,pB false),(3,aS v3 0),(4,pN i1)],⟨[some ⟨213,CF pf⟩],[⟨9,1,bA (v3),false⟩]⟩⟩) (fun v3=>⟨[(1,.ptr 0 0),(2,pB false),(3,aS v3 0)],⟨[some ⟨213,CF pf⟩],[⟨9,1,bA (v3),false⟩]⟩⟩) (fA H) ?_ ?_
 ·rintro i1 v3 H
  refine gQ 9 ?_;refine cZ H (fun h5 h5l H=>?_) (fun h5 H=>?_)
  ·refine gQ 5 ?_;refine bN H fun x7 z6 H=>(dW (dI [1] bW (dD [13] eG (dI [4] bI (dI [14,15] mU (dI [16] xE (dI [17] (gZ (aA.cs ((aR pf.aFO i1).aFu))) (dI [1] bW (dD [19] eG (dI [18,20] (bJ func248 (tK fu ((aR pf.aFO i1).aFu) pf.aFH _ z6)) (dI [21] JP (dN ?_))))))))))))
   refine bG H (fun h8 H=>gE 4) fun h8 H=>?_;refine gQ 9 ?_;refine q1 (iL ([((aR pf.aFO i1).aFs)]:LB)) (cB H fun z9 H=>(q1 (lO z9) ?_))
   exact gE 7
  exact gE 0
 rintro v3 H
 refine gQ 4 ?_;refine bN H fun x11 z10 H=>(q1 (bJ func205 (eT fu pf.aFs _ z10)) (q1 bI ?_))
 refine dY 35 H (fun g12 H=>?_) fun g12 H=>?_
 ·refine gQ 2 ?_;refine bN H fun x14 z13 H=>(qg g12 (bJ func206 (iU fu pf.aFH 3 _ z13)) ?_)
  refine gQ 2 ?_;refine dY 40 H (fun g15 H=>?_) fun g15 H=>?_
  ·refine gQ 4 ?_;refine bN H fun x17 z16 H=>(qg g15 (bJ func249 (SA fu pf.aFL pf.aFH _ z16)) ?_)
   refine gQ 2 ?_;refine dY 47 H (fun g18 H=>?_) fun g18 H=>?_
   ·refine qg g18 bI (bN H fun x20 z19 H=>(qg g18 (bJ func206 (iU fu v3 5 _ z19)) ?_))
    refine gQ 2 ?_;refine dY 51 H (fun g21 H=>?_) fun g21 H=>?_
    ·refine qg g21 bW (qg g21 (b4 [pI pf.aFM.aFw,pS pf.aFM.aFs,aV pf.aFM.aFt]) ?_)
     refine gQ 2 ?_;refine bN H fun x23 z22 H=>(qg g21 (bJ func248 (tK fu pf.aFM pf.aFH _ z22)) ?_)
     refine gQ 2 ?_;refine dY 58 H (fun g24 H=>?_) fun g24 H=>?_
     ·refine qg g24 bW (qg g24 (b4 [pI pf.aFE.aFw,pS pf.aFE.aFz,pS pf.aFE.aFs,pI pf.aFE.aGa,pI pf.aFE.aFu.aFw,pS pf.aFE.aFu.aFs,aV pf.aFE.aFu.aFt,jV pf.aFE.aFt,tX pf.aFE.aFP]) (qg g24 bI (bN H fun x26 z25 H=>(qg g24 (bJ func252 (K7 fu pf.aFE v3 _ z25)) ?_))))
      exact gE 3
     exact gE 7
    exact gE 14
   exact gE 18
  exact gE 25
 exact gE 30
end
end Go.Proofs.YtfcoaagbccmahaaGreat.W
