/- Words, rules and walks of several kinds, laid together: MaP4, OkA4, MaP5, OkA5, MaP6, OkA6. No conditions but those that each theorem states. -/
import Derived.Test.YtfcoaagbccmahaaGreatQh524c6f93
import Derived.Test.YtfcoaagbccmahaaGreatQhb99b45eb
import Derived.Test.YtfcoaagbccmahaaGreatQhfd937320
set_option linter.unusedSimpArgs false
set_option linter.unusedVariables false
namespace Go.Proofs.YtfcoaagbccmahaaGreat.W
set_option maxRecDepth 100000
set_option maxHeartbeats 40000000
noncomputable section
open Tryz Go.RowKit Go.Proofs
attribute [local irreducible] lt
abbrev tU:=aM→Int→Option Int
def FU(m:tU):Prop:= ∀(pe:aM) (p8:Int) (r:Int),m pe p8=some r→bQ Tryz.prog 268 [(aM.pv pe),pI p8] (pI r:PV)
def afZ(fu:Nat)(p6:tU)(pe:aM)(p8:Int):Nat→Int→Option (LR Int Int):=fun i1 v2=>sw (decide (v2≥0)) (lt (aT pe.aBt i1) fun y6=>bd (p6 y6 v2) fun x9=>some (.next x9)) (some (.brk v2))
def af0(fu:Nat)(p6:tU)(pe:aM)(p8 v2:Int):Nat→Int→Option (LR Int Int):=fun i10 v11=>sw (decide (v11≥0)) (lt (aT pe.aBN i10) fun y15=>bd (p6 y15.aBC v11) fun x18=>some (.next x18)) (some (.brk v11))
def MQ(fu:Nat)(p6:tU)(pe:aM)(p8:Int):Option Int:=so (loopN (afZ fu p6 pe p8) (pe.aBt.length-0) 0 (aZ (p8-1))) fun v2=>so (loopN (af0 fu p6 pe p8 v2) (pe.aBN.length-0) 0 v2) fun v11=>some v11
theorem YQ(fu:Nat)(p6:tU)(pC:FU p6):FU (MQ fu p6):=by
 intro pe p8 r H
 refine qJ func268 H (fun C hC H=>?_)
 refine gQ 2 ?_;refine q1 (fE (jC pe)) ?_;refine gQ 13 ?_;refine cO.fact (cK 0 7 rfl rfl rfl (aM.trs_len _)) (fun hl3=>?_)
 refine bU (σ:=Int) (fun i1 v2=>⟨[(1,pI v2),(2,.ptr 0 0),(4,pI 0),(5,pN i1)],⟨[some ⟨211,jC pe⟩],[]⟩⟩) (fun v2=>⟨[(1,pI v2),(2,.ptr 0 0),(4,pI 0)],⟨[some ⟨211,jC pe⟩],[]⟩⟩) (eJ H) ?_ ?_
 ·rintro i1 v2 H
  refine gQ 9 ?_;refine AL.splitB 14 rfl (fun g4=>?_) (fun g4=>?_)
  ·have g4l:=wE g4
   have H:=lnT g4l H
   have g4n:=zT g4
   refine gQ 4 ?_;refine bF H (fun h5 H=>?_) (fun h5 H=>?_)
   ·refine gQ 7 ?_;refine fZ H fun y6 h7 H=>(q1 (xW h7 g4n) (q1 (gS (aM.cs y6)) (q1 bH (bM H fun x9 z8 H=>(q1 (bI func268 (pC y6 v2 _ z8)) ?_)))))
    exact gE 7
   exact gE 0
  have H:=lnE (wD g4) H
  exact gE 5
 rintro v2 H
 refine gQ 5 ?_;refine cO.fact (cK 0 8 rfl rfl rfl (bV.trs_len _)) (fun hl12=>?_)
 refine bU (σ:=Int) (fun i10 v11=>⟨[(1,pI v11),(2,.ptr 0 0),(4,pI 0),(6,pN i10)],⟨[some ⟨211,jC pe⟩],[]⟩⟩) (fun v11=>⟨[(1,pI v11),(4,pI 0)],⟨[some ⟨211,jC pe⟩],[]⟩⟩) (eJ H) ?_ ?_
 ·rintro i10 v11 H
  refine gQ 9 ?_;refine AL.splitB 32 rfl (fun g13=>?_) (fun g13=>?_)
  ·have g13l:=wE g13
   have H:=lnT g13l H
   have g13n:=zT g13
   refine gQ 4 ?_;refine bF H (fun h14 H=>?_) (fun h14 H=>?_)
   ·refine gQ 7 ?_;refine fZ H fun y15 h16 H=>(q1 (xW h16 g13n) (q1 wX (q1 (gS (aM.cs y15.aBC)) (q1 bH (bM H fun x18 z17 H=>(q1 (bI func268 (pC y15.aBC v11 _ z17)) ?_))))))
    exact gE 7
   exact gE 0
  have H:=lnE (wD g13) H
  exact gE 5
 rintro v11 H
 exact gE 5
def m3:Nat→aM→Int→Option Int
 |0,_,_=>none
 |fu+1,pe,p8=>MQ fu (m3 fu) pe p8
theorem ab3(fu:Nat):FU (m3 fu):=by
 induction fu with
 |zero=>exact(fun pe p8 r H=>by simp only [m3] at H;cases H)
 |succ fu ih=>exact(fun pe p8 r H=>by simp only [m3] at H;exact YQ fu (m3 fu) ih pe p8 r H)
theorem af2(fu:Nat):FU (m3 fu):=(ab3 fu)
def aiS(fu:Nat)(pk:Int):Option ((Bool×Bool×Bool×Bool×Int×Bool)⊕Bool):=sw (decide (pk=1)) (some (.inr (decide (pk=1)))) (some (.inr (decide (pk=2))))
def aiT(fu:Nat)(pk:Int)(v1:Bool):Option ((Bool×Bool×Bool×Bool×Int×Bool)⊕Bool):=sw (decide (pk=4)) (some (.inr (decide (pk=4)))) (some (.inr (decide (pk=6))))
def aiU(fu:Nat)(pk:Int)(v1 v5:Bool):Option ((Bool×Bool×Bool×Bool×Int×Bool)⊕Bool):=sw (decide (pk=8)) (some (.inr (decide (pk=8)))) (some (.inr (decide (pk=10))))
def RI(fu:Nat)(pk:Int):Option (Bool×Bool×Bool×Bool×Int×Bool):=so (aiS fu pk) fun v1=>sw (v1) (some (false,false,true,false,0,false)) (sw (decide (pk=3)) (some (false,true,false,false,0,false)) (so (aiT fu pk v1) fun v5=>sw (v5) (some (false,true,false,false,(-1),false)) (sw (decide (pk=5)) (some (true,true,false,false,(-1),false)) (sw (decide (pk=7)) (some (false,false,false,false,1,true)) (so (aiU fu pk v1 v5) fun v10=>sw (v10) (some (false,true,false,false,2,false)) (sw (decide (pk=9)) (some (false,false,false,false,3,false)) (sw (decide (pk=11)) (some (true,false,false,false,1,false)) (some (false,false,false,true,1,false)))))))))
theorem aiV(fu:Nat)(pk:Int)(r:Bool×Bool×Bool×Bool×Int×Bool)(H:RI fu pk=some r):bQ Tryz.prog 271 [pI pk] (.tup [pB r.1,pB r.2.1,pB r.2.2.1,pB r.2.2.2.1,pI r.2.2.2.2.1,pB r.2.2.2.2.2]):=by
 refine qJ func271 H (fun C hC H=>?_)
 refine gQ 16 ?_;refine nW (σ:=Bool) (fun v1=>⟨[(2,pB false),(3,pB false),(4,pB false),(5,pB false),(6,pI 0),(7,pB false),(8,pI pk),(9,pB v1)],⟨[],[]⟩⟩) (eJ H) (fun H=>?_) ?_
 ·refine gQ 5 ?_;refine bF H (fun h2 H=>gE 1) fun h2 H=>?_;exact gE 4
 rintro v1 H
 refine bF H (fun h3 H=>gE 9) fun h3 H=>?_;refine gQ 5 ?_;refine bF H (fun h4 H=>gE 9) fun h4 H=>?_;refine qS ?_;refine nW (σ:=Bool) (fun v5=>⟨[(2,pB false),(3,pB false),(4,pB false),(5,pB false),(6,pI 0),(7,pB false),(8,pI pk),(14,pB v5)],⟨[],[]⟩⟩) (eJ H) (fun H=>?_) ?_
 ·refine gQ 5 ?_;refine bF H (fun h6 H=>gE 1) fun h6 H=>?_;exact gE 4
 rintro v5 H
 refine bF H (fun h7 H=>gE 9) fun h7 H=>?_;refine gQ 5 ?_;refine bF H (fun h8 H=>gE 9) fun h8 H=>?_;refine gQ 5 ?_;refine bF H (fun h9 H=>gE 9) fun h9 H=>?_;refine qS ?_;refine nW (σ:=Bool) (fun v10=>⟨[(2,pB false),(3,pB false),(4,pB false),(5,pB false),(6,pI 0),(7,pB false),(8,pI pk),(21,pB v10)],⟨[],[]⟩⟩) (eJ H) (fun H=>?_) ?_
 ·refine gQ 5 ?_;refine bF H (fun h11 H=>gE 1) fun h11 H=>?_;exact gE 4
 rintro v10 H
 refine bF H (fun h12 H=>gE 9) fun h12 H=>?_;refine gQ 5 ?_;refine bF H (fun h13 H=>gE 9) fun h13 H=>?_;refine gQ 5 ?_;refine bF H (fun h14 H=>gE 9) fun h14 H=>?_;exact gE 10
def MR(fu:Nat)(ps:ByteArray):Option Bool:=bd (lC fu ([BF,GT,PD,PE,PF]:LB) ps) fun x2=>some x2
theorem af3(fu:Nat)(ps:ByteArray)(r:Bool)(H:MR fu ps=some r):bQ Tryz.prog 272 [pS ps] (pB r):=by
 refine qJ func272 H (fun C hC H=>?_)
 refine gQ 6 ?_;refine q1 (fY ([BF,GT,PD,PE,PF]:LB)) (q1 bH (bM H fun x2 z1 H=>(q1 (bI func153 (mB fu ([BF,GT,PD,PE,PF]:LB) ps _ z1)) ?_)))
 exact gE 2
def tV(fu:Nat)(pt:aA):Option Bool:=sw (decide (pt.aBw=0)) (sw (decide (pt.aBs=s_)) (some (decide ((pt.aBt.length:Int)=0))) (some false)) (some false)
theorem xQ(fu:Nat)(pt:aA)(r:Bool)(H:tV fu pt=some r):bQ Tryz.prog 251 [(aA.pv pt)] (pB r):=by
 refine qJ func251 H (fun C hC H=>?_)
 refine gQ 2 ?_;refine q1 (fE (b9 pt)) ?_;refine gQ 8 ?_;refine dL 6 H (fun g1 H=>?_) fun g1 H=>?_
 ·refine gQ 5 ?_;refine dL 11 H (fun g2 H=>gE 7) fun g2 H=>?_;exact gE 7
 exact gE 12
abbrev lY:=aM→Option Bool
def FS(m:lY):Prop:= ∀(p0:aM) (r:Bool),m p0=some r→bQ Tryz.prog 269 [(aM.pv p0)] (pB r:PV)
def afM(fu:Nat)(p1:lY)(p0:aM)(x2 x3 x4 x5:Bool)(x6:Int)(x7:Bool):Option (Bool⊕Unit):=bd (FY fu p0.aBw 1 12) fun x9=>sw (!(x9)) (some (.inl false)) (bd (dT fu p0.aBz) fun x12=>sw (!decide (x12=x2)) (some (.inl false)) (sw (!(x2)) (sw (!decide (p0.aBz=s_)) (some (.inl false)) (sw (!(x4)) (sw (!decide (p0.aCa=0)) (some (.inl false)) (sw (!decide ((decide ((p0.aBN.length:Int)>0):Bool)=x7)) (some (.inl false)) (some (.inr ())))) (sw (!decide ((decide ((p0.aBN.length:Int)>0):Bool)=x7)) (some (.inl false)) (some (.inr ()))))) (sw (!(x4)) (sw (!decide (p0.aCa=0)) (some (.inl false)) (sw (!decide ((decide ((p0.aBN.length:Int)>0):Bool)=x7)) (some (.inl false)) (some (.inr ())))) (sw (!decide ((decide ((p0.aBN.length:Int)>0):Bool)=x7)) (some (.inl false)) (some (.inr ()))))))
def afN(fu:Nat)(p1:lY)(p0:aM)(x2 x3 x4 x5:Bool)(x6:Int)(x7:Bool):Option (Bool⊕Unit):=sw (decide (p0.aBw=10)) (bd (MR fu p0.aBs) fun x26=>sw (!(x26)) (some (.inl false)) (sw (!decide (p0.aBw=10)) (bd (dT fu p0.aBs) fun x30=>sw (!decide (x30=x3)) (some (.inl false)) (sw (!(x3)) (sw (!decide (p0.aBs=s_)) (some (.inl false)) (some (.inr ()))) (some (.inr ())))) (some (.inr ())))) (sw (!decide (p0.aBw=10)) (bd (dT fu p0.aBs) fun x36=>sw (!decide (x36=x3)) (some (.inl false)) (sw (!(x3)) (sw (!decide (p0.aBs=s_)) (some (.inl false)) (some (.inr ()))) (some (.inr ())))) (some (.inr ())))
def afO(fu:Nat)(p1:lY)(p0:aM)(x2 x3 x4 x5:Bool)(x6:Int)(x7:Bool):Option (Bool⊕Unit):=sw (decide (x6≥0)) (sw (!decide ((p0.aBt.length:Int)=x6)) (some (.inl false)) (sw (decide (p0.aBw=5)) (sw (decide ((p0.aBt.length:Int)=0)) (some (.inl false)) (sw x5 (bd (kP fu p0.aBu) fun x46=>sw (!(x46)) (some (.inl false)) (some (.inr ()))) (bd (tV fu p0.aBu) fun x49=>sw (!(x49)) (some (.inl false)) (some (.inr ()))))) (sw x5 (bd (kP fu p0.aBu) fun x53=>sw (!(x53)) (some (.inl false)) (some (.inr ()))) (bd (tV fu p0.aBu) fun x56=>sw (!(x56)) (some (.inl false)) (some (.inr ())))))) (sw (decide (p0.aBw=5)) (sw (decide ((p0.aBt.length:Int)=0)) (some (.inl false)) (sw x5 (bd (kP fu p0.aBu) fun x62=>sw (!(x62)) (some (.inl false)) (some (.inr ()))) (bd (tV fu p0.aBu) fun x65=>sw (!(x65)) (some (.inl false)) (some (.inr ()))))) (sw x5 (bd (kP fu p0.aBu) fun x69=>sw (!(x69)) (some (.inl false)) (some (.inr ()))) (bd (tV fu p0.aBu) fun x72=>sw (!(x72)) (some (.inl false)) (some (.inr ())))))
def afP(fu:Nat)(p1:lY)(p0:aM)(x2 x3 x4 x5:Bool)(x6:Int)(x7:Bool):Option (Bool⊕Unit):=sw (decide (p0.aBw=1)) (bd (FY fu p0.aCa (-999999) 999999) fun x76=>sw (!(x76)) (some (.inl false)) (some (.inr ()))) (sw (decide (p0.aBw=2)) (bd (FY fu p0.aCa 0 1) fun x80=>sw (!(x80)) (some (.inl false)) (some (.inr ()))) (some (.inr ())))
def afQ(fu:Nat)(p1:lY)(p0:aM)(x2 x3 x4 x5:Bool)(x6:Int)(x7:Bool):Nat→Unit→Option (LR Unit Bool):=fun i82 _=>lt (aT p0.aBt i82) fun y85=>bd (p1 y85) fun x88=>sw (!(x88)) (some (.ret false)) (some (.next ()))
def afR(fu:Nat)(p1:lY)(p0:aM)(x2 x3 x4 x5:Bool)(x6:Int)(x7:Bool):Nat→Unit→Option (LR Unit Bool):=fun i90 _=>lt (aT p0.aBN i90) fun y93=>bd (dT fu y93.aBU) fun x96=>sw (!(x96)) (some (.ret false)) (bd (F6 fu y93.aBF) fun x99=>sw (!(x99)) (some (.ret false)) (bd (kO fu y93.aBF) fun x102=>sw (!(x102)) (some (.ret false)) (bd (p1 y93.aBC) fun x105=>sw (!(x105)) (some (.ret false)) (some (.next ())))))
def MO(fu:Nat)(p1:lY)(p0:aM):Option Bool:=bd (RI fu p0.aBw) fun(x2,x3,x4,x5,x6,x7)=>so (afM fu p1 p0 x2 x3 x4 x5 x6 x7) fun _=>so (afN fu p1 p0 x2 x3 x4 x5 x6 x7) fun _=>so (afO fu p1 p0 x2 x3 x4 x5 x6 x7) fun _=>so (afP fu p1 p0 x2 x3 x4 x5 x6 x7) fun _=>so (loopN (afQ fu p1 p0 x2 x3 x4 x5 x6 x7) (p0.aBt.length-0) 0 ()) fun _=>so (loopN (afR fu p1 p0 x2 x3 x4 x5 x6 x7) (p0.aBN.length-0) 0 ()) fun _=>some true
theorem YO(fu:Nat)(p1:lY)(pD:FS p1):FS (MO fu p1):=by
 intro p0 r H
 refine qJ func269 H (fun C hC H=>?_)
 refine gQ 2 ?_;refine q1 (fE (jC p0)) ?_;refine gQ 6 ?_
 obtain⟨⟨x2,x3,x4,x5,x6,x7⟩,z1,H⟩:=bdI H
 refine q1 (bI func271 (aiV fu p0.aBw _ z1)) ?_;refine gQ 15 ?_;refine nW (σ:=Unit) (fun _=>⟨[(1,.ptr 0 0),(2,pB false),(4,pB x3),(6,pB x5),(7,pI x6)],⟨[some ⟨211,jC p0⟩],[]⟩⟩) (eJ H) (fun H=>?_) ?_
 ·refine gQ 4 ?_;refine bM H fun x9 z8 H=>(q1 (bI func64 (IM fu p0.aBw 1 12 _ z8)) ?_)
  refine gQ 2 ?_;refine dL 26 H (fun g10 H=>gE 38) fun g10 H=>?_;refine gQ 2 ?_;refine bM H fun x12 z11 H=>(qg g10 (bI func205 (eA fu p0.aBz _ z11)) (qg g10 bH (qg g10 (bD.neqB rfl rfl rfl rfl Tryz.underlying4) ?_)))
  refine gQ 2 ?_;refine dL 33 H (fun g13 H=>gE 31) fun g13 H=>?_;refine gQ 3 ?_;refine dL 36 H (fun g14 H=>?_) fun g14 H=>?_
  ·refine gQ 6 ?_;refine dL 42 H (fun g15 H=>gE 22) fun g15 H=>?_;refine gQ 3 ?_;refine dL 45 H (fun g16 H=>?_) fun g16 H=>?_
   ·refine gQ 6 ?_;refine dL 51 H (fun g17 H=>gE 13) fun g17 H=>?_;refine gQ 5 ?_;refine qg g17 (bD.neqB rfl rfl rfl rfl Tryz.underlying4) ?_;refine gQ 2 ?_;refine bF H (fun h18 H=>gE 4) fun h18 H=>?_;exact gE 1
   refine gQ 11 ?_;refine qg rfl (bD.neqB rfl rfl rfl rfl Tryz.underlying4) ?_;refine gQ 2 ?_;refine bF H (fun h19 H=>gE 4) fun h19 H=>?_;exact gE 1
  refine gQ 9 ?_;refine dL 45 H (fun g20 H=>?_) fun g20 H=>?_
  ·refine gQ 6 ?_;refine dL 51 H (fun g21 H=>gE 13) fun g21 H=>?_;refine gQ 5 ?_;refine qg g21 (bD.neqB rfl rfl rfl rfl Tryz.underlying4) ?_;refine gQ 2 ?_;refine bF H (fun h22 H=>gE 4) fun h22 H=>?_;exact gE 1
  refine gQ 11 ?_;refine qg rfl (bD.neqB rfl rfl rfl rfl Tryz.underlying4) ?_;refine gQ 2 ?_;refine bF H (fun h23 H=>gE 4) fun h23 H=>?_;exact gE 1
 rintro⟨⟩ H
 refine qS ?_;refine nW (σ:=Unit) (fun _=>⟨[(1,.ptr 0 0),(2,pB false),(6,pB x5),(7,pI x6)],⟨[some ⟨211,jC p0⟩],[]⟩⟩) (eJ H) (fun H=>?_) ?_
 ·refine gQ 6 ?_;refine dL 62 H (fun g24 H=>?_) fun g24 H=>?_
  ·refine gQ 2 ?_;refine bM H fun x26 z25 H=>(qg g24 (bI func272 (af3 fu p0.aBs _ z25)) ?_)
   refine gQ 3 ?_;refine dL 68 H (fun g27 H=>gE 26) fun g27 H=>?_;refine gQ 4 ?_;refine dL 72 H (fun g28 H=>?_) fun g28 H=>?_
   ·refine gQ 2 ?_;refine bM H fun x30 z29 H=>(qg g28 (bI func205 (eA fu p0.aBs _ z29)) (qg g28 bH (qg g28 (bD.neqB rfl rfl rfl rfl Tryz.underlying4) (qg g28 bH ?_))))
    refine dL 78 H (fun g31 H=>gE 16) fun g31 H=>?_;refine gQ 3 ?_;refine dL 81 H (fun g32 H=>?_) fun g32 H=>?_
    ·refine gQ 8 ?_;refine bF H (fun h33 H=>gE 4) fun h33 H=>?_;exact gE 1
    exact gE 10
   exact gE 19
  refine gQ 10 ?_;refine dL 72 H (fun g34 H=>?_) fun g34 H=>?_
  ·refine gQ 2 ?_;refine bM H fun x36 z35 H=>(qg g34 (bI func205 (eA fu p0.aBs _ z35)) (qg g34 bH (qg g34 (bD.neqB rfl rfl rfl rfl Tryz.underlying4) (qg g34 bH ?_))))
   refine dL 78 H (fun g37 H=>gE 16) fun g37 H=>?_;refine gQ 3 ?_;refine dL 81 H (fun g38 H=>?_) fun g38 H=>?_
   ·refine gQ 8 ?_;refine bF H (fun h39 H=>gE 4) fun h39 H=>?_;exact gE 1
   exact gE 10
  exact gE 19
 rintro⟨⟩ H
 refine qS ?_;refine nW (σ:=Unit) (fun _=>⟨[(1,.ptr 0 0),(2,pB false)],⟨[some ⟨211,jC p0⟩],[]⟩⟩) (eJ H) (fun H=>?_) ?_
 ·refine gQ 5 ?_;refine dL 91 H (fun g40 H=>?_) fun g40 H=>?_
  ·refine gQ 7 ?_;refine dL 98 H (fun g41 H=>gE 35) fun g41 H=>?_;refine gQ 4 ?_;refine dL 102 H (fun g42 H=>?_) fun g42 H=>?_
   ·refine gQ 7 ?_;refine dL 109 H (fun g43 H=>gE 24) fun g43 H=>?_;refine gQ 2 ?_;refine dL 111 H (fun g44 H=>?_) fun g44 H=>?_
    ·refine qg g44 bZ (qg g44 (b6 [pI p0.aBu.aBw,pS p0.aBu.aBs,aU p0.aBu.aBt]) (bM H fun x46 z45 H=>(qg g44 (bI func258 (mA fu p0.aBu _ z45)) ?_)))
     refine gQ 4 ?_;refine dL 118 H (fun g47 H=>gE 15) fun g47 H=>?_;refine gQ 3 ?_
     iterate 4 refine qk (congrArg (fun b=> !b) g44) ?_
     refine qg g47 (FG (congrArg (fun b=> !b) g44)) ?_;exact gE 4
    refine gQ 10 ?_;refine qg (congrArg (fun b=> !b) g44) bZ (qg (congrArg (fun b=> !b) g44) (b6 [pI p0.aBu.aBw,pS p0.aBu.aBs,aU p0.aBu.aBt]) (bM H fun x49 z48 H=>(qg (congrArg (fun b=> !b) g44) (bI func251 (xQ fu p0.aBu _ z48)) (qg (congrArg (fun b=> !b) g44) J6 (qg rfl (C3 (congrArg (fun b=> !b) g44)) ?_)))))
    refine gQ 2 ?_;refine bF H (fun h50 H=>gE 4) fun h50 H=>?_;exact gE 1
   refine gQ 9 ?_;refine dL 111 H (fun g51 H=>?_) fun g51 H=>?_
   ·refine qg g51 bZ (qg g51 (b6 [pI p0.aBu.aBw,pS p0.aBu.aBs,aU p0.aBu.aBt]) (bM H fun x53 z52 H=>(qg g51 (bI func258 (mA fu p0.aBu _ z52)) ?_)))
    refine gQ 4 ?_;refine dL 118 H (fun g54 H=>gE 15) fun g54 H=>?_;refine gQ 3 ?_
    iterate 4 refine qk (congrArg (fun b=> !b) g51) ?_
    refine qg g54 (FG (congrArg (fun b=> !b) g51)) ?_;exact gE 4
   refine gQ 10 ?_;refine qg (congrArg (fun b=> !b) g51) bZ (qg (congrArg (fun b=> !b) g51) (b6 [pI p0.aBu.aBw,pS p0.aBu.aBs,aU p0.aBu.aBt]) (bM H fun x56 z55 H=>(qg (congrArg (fun b=> !b) g51) (bI func251 (xQ fu p0.aBu _ z55)) (qg (congrArg (fun b=> !b) g51) J6 (qg rfl (C3 (congrArg (fun b=> !b) g51)) ?_)))))
   refine gQ 2 ?_;refine bF H (fun h57 H=>gE 4) fun h57 H=>?_;exact gE 1
  refine gQ 11 ?_;refine dL 102 H (fun g58 H=>?_) fun g58 H=>?_
  ·refine gQ 7 ?_;refine dL 109 H (fun g59 H=>gE 24) fun g59 H=>?_;refine gQ 2 ?_;refine dL 111 H (fun g60 H=>?_) fun g60 H=>?_
   ·refine qg g60 bZ (qg g60 (b6 [pI p0.aBu.aBw,pS p0.aBu.aBs,aU p0.aBu.aBt]) (bM H fun x62 z61 H=>(qg g60 (bI func258 (mA fu p0.aBu _ z61)) ?_)))
    refine gQ 4 ?_;refine dL 118 H (fun g63 H=>gE 15) fun g63 H=>?_;refine gQ 3 ?_
    iterate 4 refine qk (congrArg (fun b=> !b) g60) ?_
    refine qg g63 (FG (congrArg (fun b=> !b) g60)) ?_;exact gE 4
   refine gQ 10 ?_;refine qg (congrArg (fun b=> !b) g60) bZ (qg (congrArg (fun b=> !b) g60) (b6 [pI p0.aBu.aBw,pS p0.aBu.aBs,aU p0.aBu.aBt]) (bM H fun x65 z64 H=>(qg (congrArg (fun b=> !b) g60) (bI func251 (xQ fu p0.aBu _ z64)) (qg (congrArg (fun b=> !b) g60) J6 (qg rfl (C3 (congrArg (fun b=> !b) g60)) ?_)))))
   refine gQ 2 ?_;refine bF H (fun h66 H=>gE 4) fun h66 H=>?_;exact gE 1
  refine gQ 9 ?_;refine dL 111 H (fun g67 H=>?_) fun g67 H=>?_
  ·refine qg g67 bZ (qg g67 (b6 [pI p0.aBu.aBw,pS p0.aBu.aBs,aU p0.aBu.aBt]) (bM H fun x69 z68 H=>(qg g67 (bI func258 (mA fu p0.aBu _ z68)) ?_)))
   refine gQ 4 ?_;refine dL 118 H (fun g70 H=>gE 15) fun g70 H=>?_;refine gQ 3 ?_
   iterate 4 refine qk (congrArg (fun b=> !b) g67) ?_
   refine qg g70 (FG (congrArg (fun b=> !b) g67)) ?_;exact gE 4
  refine gQ 10 ?_;refine qg (congrArg (fun b=> !b) g67) bZ (qg (congrArg (fun b=> !b) g67) (b6 [pI p0.aBu.aBw,pS p0.aBu.aBs,aU p0.aBu.aBt]) (bM H fun x72 z71 H=>(qg (congrArg (fun b=> !b) g67) (bI func251 (xQ fu p0.aBu _ z71)) (qg (congrArg (fun b=> !b) g67) J6 (qg rfl (C3 (congrArg (fun b=> !b) g67)) ?_)))))
  refine gQ 2 ?_;refine bF H (fun h73 H=>gE 4) fun h73 H=>?_;exact gE 1
 rintro⟨⟩ H
 refine qS ?_;refine nW (σ:=Unit) (fun _=>⟨[(1,.ptr 0 0),(2,pB false)],⟨[some ⟨211,jC p0⟩],[]⟩⟩) (eJ H) (fun H=>?_) ?_
 ·refine gQ 6 ?_;refine dL 131 H (fun g74 H=>?_) fun g74 H=>?_
  ·refine gQ 2 ?_;refine bM H fun x76 z75 H=>(qg g74 (bI func64 (IM fu p0.aCa (-999999) 999999 _ z75)) ?_)
   refine gQ 3 ?_;refine dL 137 H (fun g77 H=>gE 16) fun g77 H=>?_;refine gQ 4 ?_
   iterate 4 refine qk (dne (b:=2) g74 (by decide)) ?_
   refine qg g77 (FG (dne (b:=2) g74 (by decide))) ?_;exact gE 4
  refine gQ 10 ?_;refine dL 141 H (fun g78 H=>?_) fun g78 H=>?_
  ·refine gQ 2 ?_;refine bM H fun x80 z79 H=>(qg g78 (bI func64 (IM fu p0.aCa 0 1 _ z79)) ?_)
   refine gQ 4 ?_;refine bF H (fun h81 H=>gE 4) fun h81 H=>?_;exact gE 1
  exact gE 9
 rintro⟨⟩ H
 refine gQ 5 ?_;refine cO.fact (cK 0 7 rfl rfl rfl (aM.trs_len _)) (fun hl83=>?_)
 refine bU (σ:=Unit) (fun i82 _=>⟨[(1,.ptr 0 0),(2,pB false),(9,pN i82)],⟨[some ⟨211,jC p0⟩],[]⟩⟩) (fun _=>⟨[(1,.ptr 0 0),(2,pB false)],⟨[some ⟨211,jC p0⟩],[]⟩⟩) (eJ H) ?_ ?_
 ·rintro i82 ⟨⟩ H
  refine gQ 9 ?_;refine cT H (fun h84 h84l H=>?_) (fun h84 H=>?_)
  ·refine gQ 8 ?_;refine fZ H fun y85 h86 H=>(q1 (xW h86 h84l) (q1 (gS (aM.cs y85)) (bM H fun x88 z87 H=>(q1 (bI func269 (pD y85 _ z87)) ?_))))
   refine gQ 2 ?_;refine bF H (fun h89 H=>gE 4) fun h89 H=>?_;exact gE 6
  exact gE 0
 rintro⟨⟩ H
 refine gQ 5 ?_;refine cO.fact (cK 0 8 rfl rfl rfl (bV.trs_len _)) (fun hl91=>?_)
 refine bU (σ:=Unit) (fun i90 _=>⟨[(1,.ptr 0 0),(2,pB false),(10,pN i90)],⟨[some ⟨211,jC p0⟩],[]⟩⟩) (fun _=>⟨[(2,pB false)],⟨[some ⟨211,jC p0⟩],[]⟩⟩) (eJ H) ?_ ?_
 ·rintro i90 ⟨⟩ H
  refine gQ 9 ?_;refine cT H (fun h92 h92l H=>?_) (fun h92 H=>?_)
  ·refine gQ 8 ?_;refine fZ H fun y93 h94 H=>(q1 (xW h94 h92l) (q1 (gS (bV.cs y93)) ?_))
   refine gQ 7 ?_;refine bM H fun x96 z95 H=>(q1 (bI func205 (eA fu y93.aBU _ z95)) ?_)
   refine gQ 2 ?_;refine dL 178 H (fun g97 H=>gE 23) fun g97 H=>?_;refine gQ 2 ?_;refine bM H fun x99 z98 H=>(qg g97 (bI func228 (ST fu y93.aBF _ z98)) ?_)
   refine gQ 3 ?_;refine dL 184 H (fun g100 H=>gE 17) fun g100 H=>?_;refine gQ 2 ?_;refine bM H fun x102 z101 H=>(qg g100 (bI func207 (l9 fu y93.aBF _ z101)) ?_)
   refine gQ 3 ?_;refine dL 190 H (fun g103 H=>gE 11) fun g103 H=>?_;refine qg g103 bZ (qg g103 (b6 [pI y93.aBC.aBw,pS y93.aBC.aBz,pS y93.aBC.aBs,pI y93.aBC.aCa,pI y93.aBC.aBu.aBw,pS y93.aBC.aBu.aBs,aU y93.aBC.aBu.aBt,iI y93.aBC.aBt,rV y93.aBC.aBN]) (bM H fun x105 z104 H=>(qg g103 (bI func269 (pD y93.aBC _ z104)) ?_)))
   refine gQ 3 ?_;refine bF H (fun h106 H=>gE 4) fun h106 H=>?_;exact gE 6
  exact gE 0
 rintro⟨⟩ H
 exact gE 4
def mY:Nat→aM→Option Bool
 |0,_=>none
 |fu+1,p0=>MO fu (mY fu) p0
theorem ab1(fu:Nat):FS (mY fu):=by
 induction fu with
 |zero=>exact(fun p0 r H=>by simp only [mY] at H;cases H)
 |succ fu ih=>exact(fun p0 r H=>by simp only [mY] at H;exact YO fu (mY fu) ih p0 r H)
theorem afT(fu:Nat):FS (mY fu):=(ab1 fu)
def AZ(fu:Nat)(pe:aM):Option Bool:=bd (m3 fu pe 300) fun x2=>sw (decide (x2≥0)) (bd (mY fu pe) fun x5=>some x5) (some false)
theorem TK(fu:Nat)(pe:aM)(r:Bool)(H:AZ fu pe=some r):bQ Tryz.prog 262 [(aM.pv pe)] (pB r):=by
 refine qJ func262 H (fun C hC H=>?_)
 refine gQ 2 ?_;refine q1 (fE (jC pe)) ?_;refine gQ 4 ?_;refine q1 (b6 [pI pe.aBw,pS pe.aBz,pS pe.aBs,pI pe.aCa,pI pe.aBu.aBw,pS pe.aBu.aBs,aU pe.aBu.aBt,iI pe.aBt,rV pe.aBN]) (bM H fun x2 z1 H=>(q1 (bI func268 (af2 fu pe 300 _ z1)) ?_))
 refine gQ 2 ?_;refine dL 6 H (fun g3 H=>?_) fun g3 H=>?_
 ·refine qg g3 (b6 [pI pe.aBw,pS pe.aBz,pS pe.aBs,pI pe.aCa,pI pe.aBu.aBw,pS pe.aBu.aBs,aU pe.aBu.aBt,iI pe.aBt,rV pe.aBN]) (bM H fun x5 z4 H=>(qg g3 (bI func269 (afT fu pe _ z4)) ?_))
  exact gE 3
 exact gE 5
def ab4(fu:Nat)(pa pb:LB):Nat→Unit→Option (LR Unit Bool):=fun i2 _=>gd (i2<(pb).length) (sw (!decide (aT pa i2=aT pb i2)) (some (.ret false)) (some (.next ())))
def IB(fu:Nat)(pa pb:LB):Option Bool:=sw (!decide ((pa.length:Int)=(pb.length:Int))) (some false) (so (loopN (ab4 fu pa pb) (pa.length-0) 0 ()) fun _=>some true)
theorem OY(fu:Nat)(pa:LB)(pb:LB)(r:Bool)(H:IB fu pa pb=some r):bQ Tryz.prog 270 [rS pa,rS pb] (pB r):=by
 refine qJ func270 H (fun C hC H=>?_)
 refine gQ 13 ?_;refine bF H (fun h1 H=>gE 4) fun h1 H=>?_;refine gQ 6 ?_;refine fS 0 (b0 _) (fun hl3=>?_)
 refine bU (σ:=Unit) (fun i2 _=>⟨[(0,rS pa),(1,rS pb),(4,pB false),(5,pN i2)],⟨[],[]⟩⟩) (fun _=>⟨[(4,pB false)],⟨[],[]⟩⟩) (eJ H) ?_ ?_
 ·rintro i2 ⟨⟩ H
  refine gQ 8 ?_;refine cT H (fun h4 h4l H=>?_) (fun h4 H=>?_)
  ·refine gQ 4 ?_;refine cA H fun z5 H=>(dW (dI [0] bH (dI [5] bH (dI [17,18] m9 (dI [19] vE (dI [1] bH (dI [5] bH (dI [21,22] m9 (dI [23] vE (dI [20,24] rSn (dN ?_)))))))))))
   refine bF H (fun h6 H=>gE 4) fun h6 H=>?_;exact gE 6
  exact gE 0
 rintro⟨⟩ H
 exact gE 4
abbrev n6:=aM→aM→Option Bool
def zF(m:n6):Prop:= ∀(p0:aM) (p7:aM) (r:Bool),m p0 p7=some r→bQ Tryz.prog 263 [(aM.pv p0),(aM.pv p7)] (pB r:PV)
def X9(fu:Nat)(p5:n6)(p0 p7:aM)(x6:Bool):Nat→Unit→Option (LR Unit Bool):=fun i10 _=>lt (aT p0.aBt i10) fun y13=>gd (i10<(p7.aBt).length) (lt (aT p7.aBt i10) fun y16=>bd (p5 y13 y16) fun x19=>sw (!(x19)) (some (.ret false)) (some (.next ())))
def YA(fu:Nat)(p5:n6)(p0 p7:aM)(x6:Bool):Nat→Unit→Option (LR Unit Bool):=fun i21 _=>lt (aT p0.aBN i21) fun y24=>gd (i21<(p7.aBN).length) (lt (aT p7.aBN i21) fun y27=>sw (!decide (y24.aBU=y27.aBU)) (some (.ret false)) (bd (IB fu y24.aBF y27.aBF) fun x31=>sw (!(x31)) (some (.ret false)) (bd (p5 y24.aBC y27.aBC) fun x34=>sw (!(x34)) (some (.ret false)) (some (.next ())))))
def FJ(fu:Nat)(p5:n6)(p0 p7:aM):Option Bool:=sw (!decide (p0.aBw=p7.aBw)) (some false) (sw (!decide (p0.aBz=p7.aBz)) (some false) (sw (!decide (p0.aBs=p7.aBs)) (some false) (sw (!decide (p0.aCa=p7.aCa)) (some false) (bd (fJ fu p0.aBu p7.aBu) fun x6=>sw (!(x6)) (some false) (sw (!decide ((p0.aBt.length:Int)=(p7.aBt.length:Int))) (some false) (sw (!decide ((p0.aBN.length:Int)=(p7.aBN.length:Int))) (some false) (so (loopN (X9 fu p5 p0 p7 x6) (p0.aBt.length-0) 0 ()) fun _=>so (loopN (YA fu p5 p0 p7 x6) (p0.aBN.length-0) 0 ()) fun _=>some true)))))))
theorem TF(fu:Nat)(p5:n6)(pA:zF p5):zF (FJ fu p5):=by
 intro p0 p7 r H
 refine qJ func263 H (fun C hC H=>?_)
 refine gQ 2 ?_;refine q1 (fE (jC p0)) (q1 (fE (jC p7)) ?_)
 refine gQ 11 ?_;refine dL 12 H (fun g1 H=>gE 52) fun g1 H=>?_;refine gQ 7 ?_;refine dL 19 H (fun g2 H=>gE 45) fun g2 H=>?_;refine gQ 7 ?_;refine dL 26 H (fun g3 H=>gE 38) fun g3 H=>?_;refine gQ 7 ?_;refine dL 33 H (fun g4 H=>gE 31) fun g4 H=>?_;refine qg g4 bZ (qg g4 (b6 [pI p0.aBu.aBw,pS p0.aBu.aBs,aU p0.aBu.aBt]) (qg g4 bZ (qg g4 (b6 [pI p7.aBu.aBw,pS p7.aBu.aBs,aU p7.aBu.aBt]) (bM H fun x6 z5 H=>(qg g4 (bI func38 (K0 fu p0.aBu p7.aBu _ z5)) ?_)))))
 refine gQ 3 ?_;refine dL 41 H (fun g7 H=>gE 23) fun g7 H=>?_;refine gQ 9 ?_;refine dL 50 H (fun g8 H=>gE 14) fun g8 H=>?_;refine gQ 9 ?_;refine bF H (fun h9 H=>gE 4) fun h9 H=>?_;refine gQ 6 ?_;refine fS 43 (aM.trs_len _) (fun hl11=>?_)
 refine bU (σ:=Unit) (fun i10 _=>⟨[(2,.ptr 0 0),(3,.ptr 1 0),(4,pB false),(5,pN i10)],⟨[some ⟨211,jC p0⟩,some ⟨211,jC p7⟩],[]⟩⟩) (fun _=>⟨[(2,.ptr 0 0),(3,.ptr 1 0),(4,pB false)],⟨[some ⟨211,jC p0⟩,some ⟨211,jC p7⟩],[]⟩⟩) (eJ H) ?_ ?_
 ·rintro i10 ⟨⟩ H
  refine gQ 9 ?_;refine cT H (fun h12 h12l H=>?_) (fun h12 H=>?_)
  ·refine gQ 4 ?_;refine fZ H fun y13 h14 H=>(cA H fun z15 H=>(fZ H fun y16 h17 H=>(bM H fun x19 z18 H=>(dW (dI [2] bZ (dD [66] eB (dI [5] bH (dI [67,68] (xW h14 h12l) (dI [69] (gS (aM.cs y13)) (dI [3] bZ (dD [71] eB (dI [5] bH (dI [72,73] (xW h17 z15) ?_)))))))))))))
   refine dI [74] (gS (aM.cs y16)) (dI [70,75] (bI func263 (pA y13 y16 _ z18)) (dI [76] J6 (dN ?_)))
   refine bF H (fun h20 H=>gE 4) fun h20 H=>?_;exact gE 6
  exact gE 0
 rintro⟨⟩ H
 refine gQ 5 ?_;refine cO.fact (cK 0 8 rfl rfl rfl (bV.trs_len _)) (fun hl22=>?_)
 refine bU (σ:=Unit) (fun i21 _=>⟨[(2,.ptr 0 0),(3,.ptr 1 0),(4,pB false),(6,pN i21)],⟨[some ⟨211,jC p0⟩,some ⟨211,jC p7⟩],[]⟩⟩) (fun _=>⟨[(4,pB false)],⟨[some ⟨211,jC p0⟩,some ⟨211,jC p7⟩],[]⟩⟩) (eJ H) ?_ ?_
 ·rintro i21 ⟨⟩ H
  refine gQ 9 ?_;refine cT H (fun h23 h23l H=>?_) (fun h23 H=>?_)
  ·refine gQ 4 ?_;refine fZ H fun y24 h25 H=>(cA H fun z26 H=>(fZ H fun y27 h28 H=>?_))
   rcases nS (!decide (y24.aBU=y27.aBU)) with g29|g29
   ·have H:=sE H g29
    refine dW (dI [2] bZ (dD [85] eB (dI [6] bH (dI [86,87] (xW h25 h23l) (dI [88] wX (dI [89] vE (dI [3] bZ (dD [91] eB (dI [6] bH (dI [92,93] (xW h28 z26) (dI [94] wX (dI [95] vE (dI [90,96] rSn ?_)))))))))))))
    refine dI [97] bH ?_
    iterate 14 refine NB g29 ?_
    refine dI [98] (C3 g29) (dI [113] bH ?_)
    iterate 14 refine NB rfl ?_
    refine dI [114] (C3 rfl) (dN ?_)
    exact gE 5
   have H:=sD H g29
   refine bM H fun x31 z30 H=>?_
   rcases nS (!(x31)) with g32|g32
   ·have H:=sE H g32
    refine dW (dI [2] bZ (dD [85] eB (dI [6] bH (dI [86,87] (xW h25 h23l) (dI [88] wX (dI [89] vE (dI [3] bZ (dD [91] eB (dI [6] bH (dI [92,93] (xW h28 z26) (dI [94] wX (dI [95] vE (dI [90,96] rSn ?_)))))))))))))
    refine dI [97] bH (dI (hg:=bG g29) [2] bZ (dD (hg:=bG g29) [99] eB (dI (hg:=bG g29) [6] bH (dI (hg:=bG g29) [100,101] (xW h25 h23l) (dI (hg:=bG g29) [102] wX (dI (hg:=bG g29) [103] vE (dI (hg:=bG g29) [3] bZ (dD (hg:=bG g29) [105] eB (dI (hg:=bG g29) [6] bH (dI (hg:=bG g29) [106,107] (xW h28 z26) (dI (hg:=bG g29) [108] wX (dI (hg:=bG g29) [109] vE (dI (hg:=bG g29) [104,110] (bI func270 (OY fu y24.aBF y27.aBF _ z30)) ?_)))))))))))))
    refine dI (hg:=bG g29) [111] J6 (dI [98,112] (FG g29) (dI [113] bH ?_))
    iterate 14 refine NB g32 ?_
    refine dI [114] (C3 g32) (dN ?_)
    exact gE 5
   have H:=sD H g32
   refine bM H fun x34 z33 H=>(dW (dI [2] bZ (dD [85] eB (dI [6] bH (dI [86,87] (xW h25 h23l) (dI [88] wX (dI [89] vE (dI [3] bZ (dD [91] eB (dI [6] bH (dI [92,93] (xW h28 z26) (dI [94] wX (dI [95] vE ?_)))))))))))))
   refine dI [90,96] rSn (dI [97] bH (dI (hg:=bG g29) [2] bZ (dD (hg:=bG g29) [99] eB (dI (hg:=bG g29) [6] bH (dI (hg:=bG g29) [100,101] (xW h25 h23l) (dI (hg:=bG g29) [102] wX (dI (hg:=bG g29) [103] vE (dI (hg:=bG g29) [3] bZ (dD (hg:=bG g29) [105] eB (dI (hg:=bG g29) [6] bH (dI (hg:=bG g29) [106,107] (xW h28 z26) (dI (hg:=bG g29) [108] wX (dI (hg:=bG g29) [109] vE ?_)))))))))))))
   refine dI (hg:=bG g29) [104,110] (bI func270 (OY fu y24.aBF y27.aBF _ z30)) (dI (hg:=bG g29) [111] J6 (dI [98,112] (FG g29) (dI [113] bH (dI (hg:=bG g32) [2] bZ (dD (hg:=bG g32) [115] eB (dI (hg:=bG g32) [6] bH (dI (hg:=bG g32) [116,117] (xW h25 h23l) (dI (hg:=bG g32) [118] wX (dI (hg:=bG g32) [119] (gS (aM.cs y24.aBC)) (dI (hg:=bG g32) [3] bZ (dD (hg:=bG g32) [121] eB (dI (hg:=bG g32) [6] bH (dI (hg:=bG g32) [122,123] (xW h28 z26) ?_)))))))))))))
   refine dI (hg:=bG g32) [124] wX (dI (hg:=bG g32) [125] (gS (aM.cs y27.aBC)) (dI (hg:=bG g32) [120,126] (bI func263 (pA y24.aBC y27.aBC _ z33)) (dI (hg:=bG g32) [127] J6 (dI [114,128] (FG g32) (dN ?_)))))
   refine bF H (fun h35 H=>gE 4) fun h35 H=>?_;exact gE 6
  exact gE 0
 rintro⟨⟩ H
 exact gE 4
def kD:Nat→aM→aM→Option Bool
 |0,_,_=>none
 |fu+1,p0,p7=>FJ fu (kD fu) p0 p7
theorem V4(fu:Nat):zF (kD fu):=by
 induction fu with
 |zero=>exact(fun p0 p7 r H=>by simp only [kD] at H;cases H)
 |succ fu ih=>exact(fun p0 p7 r H=>by simp only [kD] at H;exact TF fu (kD fu) ih p0 p7 r H)
theorem YC(fu:Nat):zF (kD fu):=(V4 fu)
abbrev rJ:=aM→(LB)→(LB)→Option ((LB))
def FT(m:rJ):Prop:= ∀(p0:aM) (p7:LB) (pE:LB) (r:(LB)),m p0 p7 pE=some r→cB Tryz.prog 267 [(aM.pv p0),rS p7,aS pE 0] ⟨[],[⟨9,1,aY (pE),false⟩]⟩ (fun q t=>q=(aS r 0:PV)∧t=⟨[],[⟨9,1,aY (r),false⟩]⟩)
def afU(fu:Nat)(p3:rJ)(p0:aM)(p7 pE:LB):Option (((LB))⊕((LB))):=sw (decide (p0.aBw=3)) (bd (lC fu p7 p0.aBs) fun x5=>sw (!(x5)) (bd (lC fu pE p0.aBs) fun x8=>sw (!(x8)) (gd ((pE).length+(([p0.aBs]:LB)).length≤68719476736) (some (.inr (pE++([p0.aBs]:LB))))) (some (.inr pE))) (some (.inr pE))) (some (.inr pE))
def afV(fu:Nat)(p3:rJ)(p0:aM)(p7 pE v2:LB):Nat→((LB))→Option (LR ((LB)) ((LB))):=fun i11 v13=>sw (decide (p0.aBw=8)) (sw (decide ((i11:Int)=1)) (gd (([]:LB).length+(p7).length≤68719476736) (gd ((([])++p7).length+(([p0.aBs]:LB)).length≤68719476736) (lt (aT p0.aBt i11) fun y20=>bd (p3 y20 ((([])++p7)++([p0.aBs]:LB)) v13) fun x23=>some (.next x23)))) (lt (aT p0.aBt i11) fun y24=>bd (p3 y24 p7 v13) fun x27=>some (.next x27))) (lt (aT p0.aBt i11) fun y28=>bd (p3 y28 p7 v13) fun x31=>some (.next x31))
def afW(fu:Nat)(p3:rJ)(p0:aM)(p7 pE v2 v13:LB):Nat→((LB))→Option (LR ((LB)) ((LB))):=fun i32 v34=>lt (aT p0.aBN i32) fun y37=>gd (([]:LB).length+(p7).length≤68719476736) (gd ((([])++p7).length+(y37.aBF).length≤68719476736) (bd (p3 y37.aBC ((([])++p7)++y37.aBF) v34) fun x42=>some (.next x42)))
def MP(fu:Nat)(p3:rJ)(p0:aM)(p7 pE:LB):Option ((LB)):=so (afU fu p3 p0 p7 pE) fun v2=>so (loopN (afV fu p3 p0 p7 pE v2) (p0.aBt.length-0) 0 v2) fun v13=>so (loopN (afW fu p3 p0 p7 pE v2 v13) (p0.aBN.length-0) 0 v13) fun v34=>some v34
theorem YP(fu:Nat)(p3:rJ)(p9:FT p3):FT (MP fu p3):=by
 intro p0 p7 pE r H
 refine qJ func267 H (fun C hC H=>?_)
 refine gQ 2 ?_;refine q1 (fE (jC p0)) ?_;refine gQ 3 ?_;refine nW (σ:=(LB)) (fun v2=>⟨[(1,rS p7),(2,aS v2 0),(3,.ptr 0 0),(6,.nil)],⟨[some ⟨211,jC p0⟩],[⟨9,1,aY (v2),false⟩]⟩⟩) (eJ H) (fun H=>?_) ?_
 ·refine gQ 6 ?_;refine dL 13 H (fun g3 H=>?_) fun g3 H=>?_
  ·refine gQ 3 ?_;refine bM H fun x5 z4 H=>(qg g3 (bI func153 (mB fu p7 p0.aBs _ z4)) ?_)
   refine gQ 3 ?_;refine dL 20 H (fun g6 H=>?_) fun g6 H=>?_
   ·refine gQ 3 ?_;refine bM H fun x8 z7 H=>(qg g6 (bI func153 (mB fu pE p0.aBs _ z7)) ?_)
    refine gQ 3 ?_;refine bF H (fun h9 H=>?_) (fun h9 H=>?_)
    ·refine gQ 4 ?_;refine q1 (fY ([p0.aBs]:LB)) (cA H fun z10 H=>(q1 (jO z10) ?_))
     exact gE 2
    exact gE 1
   exact gE 9
  exact gE 16
 rintro v2 H
 refine gQ 5 ?_;refine cO.fact (cK 0 7 rfl rfl rfl (aM.trs_len _)) (fun hl14=>?_)
 refine bU (σ:=(LB)) (fun i11 v13=>⟨[(1,rS p7),(2,aS v13 0),(3,.ptr 0 0),(6,.nil),(7,pN i11)],⟨[some ⟨211,jC p0⟩],[⟨9,1,aY (v13),false⟩]⟩⟩) (fun v13=>⟨[(1,rS p7),(2,aS v13 0),(3,.ptr 0 0),(6,.nil)],⟨[some ⟨211,jC p0⟩],[⟨9,1,aY (v13),false⟩]⟩⟩) (eJ H) ?_ ?_
 ·rintro i11 v13 H
  refine gQ 9 ?_;refine cT H (fun h15 h15l H=>?_) (fun h15 H=>?_)
  ·refine gQ 15 ?_;refine dL 43 H (fun g16 H=>?_) fun g16 H=>?_
   ·refine gQ 4 ?_;refine bF H (fun h17 H=>?_) (fun h17 H=>?_)
    ·refine cA H fun z18 H=>(cA H fun z19 H=>(dW (dE [] (nU ([]:LB)) (dI [1] bH (dE [47,48] (jO z18) (dI [3] bZ (dB [50] 0 2 sM (dI [51] (fY ([p0.aBs]:LB)) (dE [49,52] (jO z19) (dI [53] bH (dN ?_)))))))))))
     refine gQ 4 ?_;refine fZ H fun y20 h21 H=>(q1 (xW h21 h15l) (q1 (gS (aM.cs y20)) ?_))
     refine gQ 2 ?_;refine bM H fun x23 z22 H=>(q1 (fD [] [0] func267 (p9 y20 ((([])++p7)++([p0.aBs]:LB)) v13 _ z22)) ?_)
     exact gE 7
    refine gQ 5 ?_;refine fZ H fun y24 h25 H=>(q1 (xW h25 h15l) (q1 (gS (aM.cs y24)) ?_))
    refine gQ 2 ?_;refine bM H fun x27 z26 H=>(q1 (fD [] [0] func267 (p9 y24 p7 v13 _ z26)) ?_)
    exact gE 7
   refine gQ 10 ?_;refine fZ H fun y28 h29 H=>(q1 (xW h29 h15l) (q1 (gS (aM.cs y28)) ?_))
   refine gQ 2 ?_;refine bM H fun x31 z30 H=>(q1 (fD [] [0] func267 (p9 y28 p7 v13 _ z30)) ?_)
   exact gE 7
  exact gE 0
 rintro v13 H
 refine gQ 5 ?_;refine cO.fact (cK 0 8 rfl rfl rfl (bV.trs_len _)) (fun hl35=>?_)
 refine bU (σ:=(LB)) (fun i32 v34=>⟨[(1,rS p7),(2,aS v34 0),(3,.ptr 0 0),(6,.nil),(9,pN i32)],⟨[some ⟨211,jC p0⟩],[⟨9,1,aY (v34),false⟩]⟩⟩) (fun v34=>⟨[(2,aS v34 0),(6,.nil)],⟨[some ⟨211,jC p0⟩],[⟨9,1,aY (v34),false⟩]⟩⟩) (eJ H) ?_ ?_
 ·rintro i32 v34 H
  refine gQ 9 ?_;refine cT H (fun h36 h36l H=>?_) (fun h36 H=>?_)
  ·refine gQ 3 ?_;refine fZ H fun y37 h38 H=>(cA H fun z39 H=>(cA H fun z40 H=>(bM H fun x42 z41 H=>(dW (dI [3] bZ (dB [69] 0 3 sM (dI [9] bH (dI [70,71] (xW h38 h36l) (dI [72] wX (dI [73] (gS (aM.cs y37.aBC)) (dE [] (nU ([]:LB)) (dI [1] bH (dE [75,76] (jO z39) ?_)))))))))))))
   refine dI [3] bZ (dB [78] 0 2 sM (dI [9] bH (dI [79,80] (xW h38 h36l) (dI [81] wX (dI [82] vE (dE [77,83] (jO z40) (dI [2] bH (dE [74,84,85] (fD [] [0] func267 (p9 y37.aBC ((([])++p7)++y37.aBF) v34 _ z41)) (dI [86] bH (dN ?_))))))))))
   exact gE 5
  exact gE 0
 rintro v34 H
 exact gE 5
def mZ:Nat→aM→(LB)→(LB)→Option ((LB))
 |0,_,_,_=>none
 |fu+1,p0,p7,pE=>MP fu (mZ fu) p0 p7 pE
theorem ab2(fu:Nat):FT (mZ fu):=by
 induction fu with
 |zero=>exact(fun p0 p7 pE r H=>by simp only [mZ] at H;cases H)
 |succ fu ih=>exact(fun p0 p7 pE r H=>by simp only [mZ] at H;exact YP fu (mZ fu) ih p0 p7 pE r H)
theorem afY(fu:Nat):FT (mZ fu):=(ab2 fu)
def wH(fu:Nat)(pe:aM):Option ((LB)):=bd (mZ fu pe ([]) ([])) fun x2=>some x2
theorem OR(fu:Nat)(pe:aM)(r:(LB))(H:wH fu pe=some r):bQ Tryz.prog 261 [(aM.pv pe)] (rS r):=by
 refine qJ func261 H (fun C hC H=>?_)
 refine gQ 2 ?_;refine q1 (fE (jC pe)) ?_;refine gQ 4 ?_;refine q1 (b6 [pI pe.aBw,pS pe.aBz,pS pe.aBs,pI pe.aCa,pI pe.aBu.aBw,pS pe.aBu.aBs,aU pe.aBu.aBt,iI pe.aBt,rV pe.aBN]) ?_
 iterate 2 refine q1 (nU ([]:LB)) ?_
 refine bM H fun x2 z1 H=>(q1 (fD [] [1] func267 (afY fu pe ([]) ([]) _ z1)) ?_)
 exact gE 2
def agF(fu:Nat)(pt:aA)(p4 x2:LB):Nat→Unit→Option (LR Unit Bool):=fun i3 _=>bd (lC fu p4 (aT x2 i3)) fun x7=>sw (!(x7)) (some (.ret false)) (some (.next ()))
def oF(fu:Nat)(pt:aA)(p4:LB):Option Bool:=bd (nN fu pt) fun x2=>so (loopN (agF fu pt p4 x2) (x2.length-0) 0 ()) fun _=>bd (kP fu pt) fun x10=>some x10
theorem rK(fu:Nat)(pt:aA)(p4:LB)(r:Bool)(H:oF fu pt p4=some r):bQ Tryz.prog 248 [(aA.pv pt),rS p4] (pB r):=by
 refine qJ func248 H (fun C hC H=>?_)
 refine gQ 2 ?_;refine q1 (fE (b9 pt)) ?_;refine gQ 4 ?_;refine q1 (b6 [pI pt.aBw,pS pt.aBs,aU pt.aBt]) (bM H fun x2 z1 H=>(q1 (bI func85 (B4 fu pt _ z1)) ?_))
 refine gQ 7 ?_;refine fS 5 (b0 _) (fun hl4=>?_)
 refine bU (σ:=Unit) (fun i3 _=>⟨[(1,rS p4),(2,.ptr 0 0),(4,pB false),(5,rS x2),(6,pN i3)],⟨[some ⟨30,b9 pt⟩],[]⟩⟩) (fun _=>⟨[(2,.ptr 0 0),(4,pB false)],⟨[some ⟨30,b9 pt⟩],[]⟩⟩) (eJ H) ?_ ?_
 ·rintro i3 ⟨⟩ H
  refine gQ 8 ?_;refine cT H (fun h5 h5l H=>?_) (fun h5 H=>?_)
  ·refine gQ 10 ?_;refine bM H fun x7 z6 H=>(q1 (bI func153 (mB fu p4 (aT x2 i3) _ z6)) ?_)
   refine gQ 2 ?_;refine bF H (fun h8 H=>gE 4) fun h8 H=>?_;exact gE 6
  exact gE 0
 rintro⟨⟩ H
 refine gQ 2 ?_;refine q1 (b6 [pI pt.aBw,pS pt.aBs,aU pt.aBt]) (bM H fun x10 z9 H=>(q1 (bI func258 (mA fu pt _ z9)) ?_))
 exact gE 2
def ai0(fu:Nat)(p2:List aA)(p4:LB):Nat→Unit→Option (LR Unit Bool):=fun i1 _=>bd (oF fu (aT p2 i1) p4) fun x5=>sw (!(x5)) (some (.ret false)) (some (.next ()))
def JG(fu:Nat)(p2:List aA)(p4:LB):Option Bool:=so (loopN (ai0 fu p2 p4) (p2.length-0) 0 ()) fun _=>some true
theorem WP(fu:Nat)(p2:List aA)(p4:LB)(r:Bool)(H:JG fu p2 p4=some r):bQ Tryz.prog 247 [aU p2,rS p4] (pB r):=by
 refine qJ func247 H (fun C hC H=>?_)
 refine gQ 9 ?_;refine fS 0 (aA.trs_len _) (fun hl2=>?_)
 refine bU (σ:=Unit) (fun i1 _=>⟨[(0,aU p2),(1,rS p4),(4,pB false),(5,pN i1)],⟨[],[]⟩⟩) (fun _=>⟨[(4,pB false)],⟨[],[]⟩⟩) (eJ H) ?_ ?_
 ·rintro i1 ⟨⟩ H
  refine gQ 8 ?_;refine cT H (fun h3 h3l H=>?_) (fun h3 H=>?_)
  ·refine gQ 8 ?_;refine q1 (gS (aA.cs (aT p2 i1))) (q1 bH (bM H fun x5 z4 H=>(q1 (bI func248 (rK fu (aT p2 i1) p4 _ z4)) ?_)))
   refine gQ 2 ?_;refine bF H (fun h6 H=>gE 4) fun h6 H=>?_;exact gE 6
  exact gE 0
 rintro⟨⟩ H
 exact gE 4
def MW(fu:Nat)(pe:aM):Option Bool:=bd (kD fu pe (aM.mk 0 s_ s_ 0 (aA.mk 0 s_ []) [] [])) fun x2=>some x2
theorem agE(fu:Nat)(pe:aM)(r:Bool)(H:MW fu pe=some r):bQ Tryz.prog 257 [(aM.pv pe)] (pB r):=by
 refine qJ func257 H (fun C hC H=>?_)
 refine gQ 2 ?_;refine q1 (fE (jC pe)) ?_;refine gQ 4 ?_;refine q1 (b6 [pI pe.aBw,pS pe.aBz,pS pe.aBs,pI pe.aCa,pI pe.aBu.aBw,pS pe.aBu.aBs,aU pe.aBu.aBt,iI pe.aBt,rV pe.aBN]) (q1 oP (bM H fun x2 z1 H=>(q1 (bI func263 (YC fu pe (aM.mk 0 s_ s_ 0 (aA.mk 0 s_ []) [] []) _ z1)) ?_)))
 exact gE 2
def gH(fu:Nat)(p2:LB)(pF:Int):Option Bool:=sw (decide ((p2.length:Int)≤pF)) (bd (F6 fu p2) fun x3=>sw x3 (bd (kO fu p2) fun x6=>some x6) (some false)) (some false)
theorem gP(fu:Nat)(p2:LB)(pF:Int)(r:Bool)(H:gH fu p2 pF=some r):bQ Tryz.prog 206 [rS p2,pI pF] (pB r):=by
 refine qJ func206 H (fun C hC H=>?_)
 refine gQ 11 ?_;refine dL 9 H (fun g1 H=>?_) fun g1 H=>?_
 ·refine qg g1 bH (bM H fun x3 z2 H=>(qg g1 (bI func228 (ST fu p2 _ z2)) ?_))
  refine gQ 2 ?_;refine dL 13 H (fun g4 H=>?_) fun g4 H=>?_
  ·refine qg g4 bH (bM H fun x6 z5 H=>(qg g4 (bI func207 (l9 fu p2 _ z5)) ?_))
   exact gE 3
  exact gE 5
 exact gE 9
def af9(fu:Nat)(pe:aM)(p4 x2:LB):Nat→Unit→Option (LR Unit Bool):=fun i3 _=>bd (lC fu p4 (aT x2 i3)) fun x7=>sw (!(x7)) (some (.ret false)) (some (.next ()))
def A6(fu:Nat)(pe:aM)(p4:LB):Option Bool:=bd (wH fu pe) fun x2=>so (loopN (af9 fu pe p4 x2) (x2.length-0) 0 ()) fun _=>bd (AZ fu pe) fun x10=>some x10
theorem IG(fu:Nat)(pe:aM)(p4:LB)(r:Bool)(H:A6 fu pe p4=some r):bQ Tryz.prog 252 [(aM.pv pe),rS p4] (pB r):=by
 refine qJ func252 H (fun C hC H=>?_)
 refine gQ 2 ?_;refine q1 (fE (jC pe)) ?_;refine gQ 4 ?_;refine q1 (b6 [pI pe.aBw,pS pe.aBz,pS pe.aBs,pI pe.aCa,pI pe.aBu.aBw,pS pe.aBu.aBs,aU pe.aBu.aBt,iI pe.aBt,rV pe.aBN]) (bM H fun x2 z1 H=>(q1 (bI func261 (OR fu pe _ z1)) ?_))
 refine gQ 7 ?_;refine fS 5 (b0 _) (fun hl4=>?_)
 refine bU (σ:=Unit) (fun i3 _=>⟨[(1,rS p4),(2,.ptr 0 0),(4,pB false),(5,rS x2),(6,pN i3)],⟨[some ⟨211,jC pe⟩],[]⟩⟩) (fun _=>⟨[(2,.ptr 0 0),(4,pB false)],⟨[some ⟨211,jC pe⟩],[]⟩⟩) (eJ H) ?_ ?_
 ·rintro i3 ⟨⟩ H
  refine gQ 8 ?_;refine cT H (fun h5 h5l H=>?_) (fun h5 H=>?_)
  ·refine gQ 10 ?_;refine bM H fun x7 z6 H=>(q1 (bI func153 (mB fu p4 (aT x2 i3) _ z6)) ?_)
   refine gQ 2 ?_;refine bF H (fun h8 H=>gE 4) fun h8 H=>?_;exact gE 6
  exact gE 0
 rintro⟨⟩ H
 refine gQ 2 ?_;refine q1 (b6 [pI pe.aBw,pS pe.aBz,pS pe.aBs,pI pe.aCa,pI pe.aBu.aBw,pS pe.aBu.aBs,aU pe.aBu.aBt,iI pe.aBt,rV pe.aBN]) (bM H fun x10 z9 H=>(q1 (bI func262 (TK fu pe _ z9)) ?_))
 exact gE 2
def RM(fu:Nat)(ps:aG):Option Bool:=bd (dT fu ps.aBs) fun x2=>sw (!(x2)) (some false) (sw (decide ((ps.aBL.length:Int)>4)) (some false) (bd (JG fu ps.aBL ([jZ]:LB)) fun x6=>sw (!(x6)) (some false) (bd (oF fu ps.aBJ ([jZ]:LB)) fun x9=>sw (!(x9)) (some false) (sw (!(ps.aB3)) (sw (decide ((ps.aBF.length:Int)=0)) (bd (MW fu ps.aBC) fun x14=>some x14) (some false)) (bd (gH fu ps.aBF 5) fun x16=>sw x16 (sw (decide ((ps.aBF.length:Int)=aZ ((ps.aBL.length:Int)+1))) (bd (A6 fu ps.aBC ps.aBF) fun x20=>some x20) (some false)) (some false))))))
theorem ai1(fu:Nat)(ps:aG)(r:Bool)(H:RM fu ps=some r):bQ Tryz.prog 246 [(aG.pv ps)] (pB r):=by
 refine qJ func246 H (fun C hC H=>?_)
 refine gQ 2 ?_;refine q1 (fE (ahU ps)) ?_;refine gQ 7 ?_;refine bM H fun x2 z1 H=>(q1 (bI func205 (eA fu ps.aBs _ z1)) ?_)
 refine gQ 2 ?_;refine dL 7 H (fun g3 H=>gE 25) fun g3 H=>?_;refine gQ 6 ?_;refine dL 13 H (fun g4 H=>gE 19) fun g4 H=>?_;refine gQ 2 ?_;refine qg g4 (fY ([jZ]:LB)) (bM H fun x6 z5 H=>(qg g4 (bI func247 (WP fu ps.aBL ([jZ]:LB) _ z5)) ?_))
 refine gQ 3 ?_;refine dL 20 H (fun g7 H=>gE 12) fun g7 H=>?_;refine qg g7 bZ (qg g7 (b6 [pI ps.aBJ.aBw,pS ps.aBJ.aBs,aU ps.aBJ.aBt]) (qg g7 (fY ([jZ]:LB)) (bM H fun x9 z8 H=>(qg g7 (bI func248 (rK fu ps.aBJ ([jZ]:LB) _ z8)) ?_))))
 refine gQ 3 ?_;refine bF H (fun h10 H=>gE 4) fun h10 H=>?_;refine gQ 8 ?_;refine bF H (fun h11 H=>?_) (fun h11 H=>?_)
 ·refine gQ 7 ?_;refine dL 34 H (fun g12 H=>?_) fun g12 H=>?_
  ·refine qg g12 bZ (qg g12 (b6 [pI ps.aBC.aBw,pS ps.aBC.aBz,pS ps.aBC.aBs,pI ps.aBC.aCa,pI ps.aBC.aBu.aBw,pS ps.aBC.aBu.aBs,aU ps.aBC.aBu.aBt,iI ps.aBC.aBt,rV ps.aBC.aBN]) (bM H fun x14 z13 H=>(qg g12 (bI func257 (agE fu ps.aBC _ z13)) ?_)))
   exact gE 3
  exact gE 6
 refine gQ 5 ?_;refine bM H fun x16 z15 H=>(q1 (bI func206 (gP fu ps.aBF 5 _ z15)) (q1 bH ?_))
 refine dL 42 H (fun g17 H=>?_) fun g17 H=>?_
 ·refine gQ 6 ?_;refine qg g17 rAw ?_;refine gQ 3 ?_;refine dL 52 H (fun g18 H=>?_) fun g18 H=>?_
  ·refine qg g18 bZ (qg g18 (b6 [pI ps.aBC.aBw,pS ps.aBC.aBz,pS ps.aBC.aBs,pI ps.aBC.aCa,pI ps.aBC.aBu.aBw,pS ps.aBC.aBu.aBs,aU ps.aBC.aBu.aBt,iI ps.aBC.aBt,rV ps.aBC.aBN]) ?_)
   refine gQ 2 ?_;refine bM H fun x20 z19 H=>(qg g18 (bI func252 (IG fu ps.aBC ps.aBF _ z19)) ?_)
   exact gE 3
  exact gE 8
 exact gE 18
def QZ(fu:Nat)(pt:aV):Nat→((LB))→Option (LR ((LB)) Bool):=fun i1 v3=>lt (aT pt.aBP i1) fun y6=>bd (RM fu y6) fun x9=>sw (!(x9)) (some (.ret false)) (gd ((v3).length+(([y6.aBs]:LB)).length≤68719476736) (some (.next (v3++([y6.aBs]:LB)))))
def tB(fu:Nat)(pt:aV):Option Bool:=so (loopN (QZ fu pt) (pt.aBP.length-0) 0 ([])) fun v3=>sw (pt.aB1) (sw (pt.aBR) (some false) (sw (decide ((pt.aBP.length:Int)>0)) (some false) (sw (decide ((pt.aBB.length:Int)>0)) (some false) (bd (dT fu pt.aBs) fun x17=>sw x17 (bd (gH fu pt.aBB 4) fun x20=>sw x20 (bd (gH fu v3 6) fun x23=>some x23) (some false)) (some false))))) (bd (dT fu pt.aBs) fun x25=>sw x25 (bd (gH fu pt.aBB 4) fun x28=>sw x28 (bd (gH fu v3 6) fun x31=>some x31) (some false)) (some false))
theorem EF(fu:Nat)(pt:aV)(r:Bool)(H:tB fu pt=some r):bQ Tryz.prog 229 [(aV.pv pt)] (pB r):=by
 refine qJ func229 H (fun C hC H=>?_)
 refine gQ 2 ?_;refine q1 (fE (sJ pt)) ?_;refine gQ 4 ?_;refine q1 (nU ([]:LB)) ?_;refine gQ 7 ?_;refine cO.fact (cK 0 4 rfl rfl rfl (aG.trs_len _)) (fun hl4=>?_)
 refine bU (σ:=(LB)) (fun i1 v3=>⟨[(1,.ptr 0 0),(2,pB false),(3,aS v3 0),(4,pN i1)],⟨[some ⟨156,sJ pt⟩],[⟨9,1,aY (v3),false⟩]⟩⟩) (fun v3=>⟨[(1,.ptr 0 0),(2,pB false),(3,aS v3 0)],⟨[some ⟨156,sJ pt⟩],[⟨9,1,aY (v3),false⟩]⟩⟩) (eJ H) ?_ ?_
 ·rintro i1 v3 H
  refine gQ 9 ?_;refine cT H (fun h5 h5l H=>?_) (fun h5 H=>?_)
  ·refine gQ 9 ?_;refine fZ H fun y6 h7 H=>(q1 (xW h7 h5l) (q1 (gS (aG.cs y6)) (bM H fun x9 z8 H=>(q1 (bI func246 (ai1 fu y6 _ z8)) ?_))))
   refine gQ 2 ?_;refine bF H (fun h10 H=>gE 4) fun h10 H=>?_;refine gQ 6 ?_;refine q1 (xW h7 h5l) ?_;refine gQ 2 ?_;refine q1 (fY ([y6.aBs]:LB)) (cA H fun z11 H=>(q1 (jO z11) ?_))
   exact gE 7
  exact gE 0
 rintro v3 H
 refine gQ 6 ?_;refine dL 31 H (fun g12 H=>?_) fun g12 H=>?_
 ·refine gQ 3 ?_;refine dL 34 H (fun g13 H=>gE 18) fun g13 H=>?_;refine gQ 6 ?_;refine dL 40 H (fun g14 H=>gE 12) fun g14 H=>?_;refine gQ 7 ?_;refine bF H (fun h15 H=>gE 4) fun h15 H=>?_;refine gQ 5 ?_;refine bM H fun x17 z16 H=>(q1 (bI func205 (eA fu pt.aBs _ z16)) (q1 bH ?_))
  refine dL 50 H (fun g18 H=>?_) fun g18 H=>?_
  ·refine gQ 2 ?_;refine bM H fun x20 z19 H=>(qg g18 (bI func206 (gP fu pt.aBB 4 _ z19)) ?_)
   refine gQ 2 ?_;refine dL 55 H (fun g21 H=>?_) fun g21 H=>?_
   ·refine qg g21 bH (bM H fun x23 z22 H=>(qg g21 (bI func206 (gP fu v3 6 _ z22)) ?_))
    exact gE 3
   exact gE 5
  exact gE 10
 refine gQ 22 ?_;refine bM H fun x25 z24 H=>(q1 (bI func205 (eA fu pt.aBs _ z24)) (q1 bH ?_))
 refine dL 50 H (fun g26 H=>?_) fun g26 H=>?_
 ·refine gQ 2 ?_;refine bM H fun x28 z27 H=>(qg g26 (bI func206 (gP fu pt.aBB 4 _ z27)) ?_)
  refine gQ 2 ?_;refine dL 55 H (fun g29 H=>?_) fun g29 H=>?_
  ·refine qg g29 bH (bM H fun x31 z30 H=>(qg g29 (bI func206 (gP fu v3 6 _ z30)) ?_))
   exact gE 3
  exact gE 5
 exact gE 10
def KH(fu:Nat)(pd:aO):Nat→((LB))→Option (LR ((LB)) Bool):=fun i1 v3=>sw (decide ((((((aT pd.aBx i1).aBM).length:Nat):Int):Int)>4)) (some (.ret false)) (bd (JG fu ((aT pd.aBx i1).aBM) pd.aBF) fun x8=>sw (!(x8)) (some (.ret false)) (gd ((v3).length+(([((aT pd.aBx i1).aBs)]:LB)).length≤68719476736) (some (.next (v3++([((aT pd.aBx i1).aBs)]:LB))))))
def n8(fu:Nat)(pd:aO):Option Bool:=so (loopN (KH fu pd) (pd.aBx.length-0) 0 ([])) fun v3=>bd (dT fu pd.aBs) fun x12=>sw x12 (bd (gH fu pd.aBF 3) fun x15=>sw x15 (sw (decide ((v3.length:Int)>0)) (bd (gH fu v3 5) fun x19=>some x19) (some false)) (some false)) (some false)
theorem yX(fu:Nat)(pd:aO)(r:Bool)(H:n8 fu pd=some r):bQ Tryz.prog 230 [(aO.pv pd)] (pB r):=by
 refine qJ func230 H (fun C hC H=>?_)
 refine gQ 2 ?_;refine q1 (fE (jJ pd)) ?_;refine gQ 4 ?_;refine q1 (nU ([]:LB)) ?_;refine gQ 7 ?_;refine cO.fact (cK 0 2 rfl rfl rfl (aE.trs_len _)) (fun hl4=>?_)
 refine bU (σ:=(LB)) (fun i1 v3=>⟨[(1,.ptr 0 0),(2,pB false),(3,aS v3 0),(4,pN i1)],⟨[some ⟨39,jJ pd⟩],[⟨9,1,aY (v3),false⟩]⟩⟩) (fun v3=>⟨[(1,.ptr 0 0),(2,pB false),(3,aS v3 0)],⟨[some ⟨39,jJ pd⟩],[⟨9,1,aY (v3),false⟩]⟩⟩) (eJ H) ?_ ?_
 ·rintro i1 v3 H
  refine gQ 9 ?_;refine cT H (fun h5 h5l H=>?_) (fun h5 H=>?_)
  ·refine gQ 5 ?_
   rcases nS (decide ((((((aT pd.aBx i1).aBM).length:Nat):Int):Int)>4)) with g6|g6
   ·have H:=sE H g6
    refine dW (dI [1] bZ (dD [13] eB (dI [4] bH (dI [14,15] m9 (dI [16] wX (dI [17] vE (dI [18] tLn (dI [19] rGt (dI [20] bH ?_)))))))))
    iterate 10 refine NB g6 ?_
    refine dI [21] (C3 g6) (dN ?_)
    exact gE 5
   have H:=sD H g6
   refine bM H fun x8 z7 H=>(dW (dI [1] bZ (dD [13] eB (dI [4] bH (dI [14,15] m9 (dI [16] wX (dI [17] vE (dI [18] tLn (dI [19] rGt (dI [20] bH (dI (hg:=bG g6) [1] bZ (dD (hg:=bG g6) [22] eB (dI (hg:=bG g6) [4] bH ?_)))))))))))))
   refine dI (hg:=bG g6) [23,24] m9 (dI (hg:=bG g6) [25] wX (dI (hg:=bG g6) [26] vE (dI (hg:=bG g6) [1] bZ (dD (hg:=bG g6) [28] eB (dI (hg:=bG g6) [27,29] (bI func247 (WP fu ((aT pd.aBx i1).aBM) pd.aBF _ z7)) (dI (hg:=bG g6) [30] J6 (dI [21,31] (FG g6) (dN ?_))))))))
   refine bF H (fun h9 H=>gE 4) fun h9 H=>?_;refine gQ 9 ?_;refine q1 (fY ([((aT pd.aBx i1).aBs)]:LB)) (cA H fun z10 H=>(q1 (jO z10) ?_))
   exact gE 7
  exact gE 0
 rintro v3 H
 refine gQ 4 ?_;refine bM H fun x12 z11 H=>(q1 (bI func205 (eA fu pd.aBs _ z11)) (q1 bH ?_))
 refine dL 45 H (fun g13 H=>?_) fun g13 H=>?_
 ·refine gQ 2 ?_;refine bM H fun x15 z14 H=>(qg g13 (bI func206 (gP fu pd.aBF 3 _ z14)) ?_)
  refine gQ 2 ?_;refine dL 50 H (fun g16 H=>?_) fun g16 H=>?_
  ·refine gQ 5 ?_;refine dL 55 H (fun g17 H=>?_) fun g17 H=>?_
   ·refine qg g17 bH (bM H fun x19 z18 H=>(qg g17 (bI func206 (gP fu v3 5 _ z18)) ?_))
    exact gE 3
   exact gE 5
  exact gE 10
 exact gE 15
def yM(fu:Nat)(pb:aD):Option Bool:=bd (dT fu pb.aBz) fun x2=>sw x2 (bd (kP fu pb.aBu) fun x5=>some x5) (some false)
theorem QY(fu:Nat)(pb:aD)(r:Bool)(H:yM fu pb=some r):bQ Tryz.prog 259 [(aD.pv pb)] (pB r):=by
 refine qJ func259 H (fun C hC H=>?_)
 refine gQ 2 ?_;refine q1 (fE (cH pb)) ?_;refine gQ 6 ?_;refine bM H fun x2 z1 H=>(q1 (bI func205 (eA fu pb.aBz _ z1)) (q1 bH ?_))
 refine dL 6 H (fun g3 H=>?_) fun g3 H=>?_
 ·refine qg g3 bZ (qg g3 (b6 [pI pb.aBu.aBw,pS pb.aBu.aBs,aU pb.aBu.aBt]) (bM H fun x5 z4 H=>(qg g3 (bI func258 (mA fu pb.aBu _ z4)) ?_)))
  exact gE 3
 exact gE 6
def acF(fu:Nat)(p2:List aD)(p4:LB):Nat→Unit→Option (LR Unit Bool):=fun i1 _=>bd (yM fu (aT p2 i1)) fun x5=>sw (!(x5)) (some (.ret false)) (bd (oF fu ((aT p2 i1).aBu) p4) fun x8=>sw (!(x8)) (some (.ret false)) (bd (dM fu ((aT p2 i1).aBu)) fun x11=>sw x11 (some (.ret false)) (some (.next ()))))
def B8(fu:Nat)(p2:List aD)(p4:LB):Option Bool:=so (loopN (acF fu p2 p4) (p2.length-0) 0 ()) fun _=>some (decide ((p2.length:Int)≤4))
theorem OZ(fu:Nat)(p2:List aD)(p4:LB)(r:Bool)(H:B8 fu p2 p4=some r):bQ Tryz.prog 249 [bW p2,rS p4] (pB r):=by
 refine qJ func249 H (fun C hC H=>?_)
 refine gQ 9 ?_;refine fS 0 (aD.trs_len _) (fun hl2=>?_)
 refine bU (σ:=Unit) (fun i1 _=>⟨[(0,bW p2),(1,rS p4),(4,pB false),(5,pN i1)],⟨[],[]⟩⟩) (fun _=>⟨[(0,bW p2),(4,pB false)],⟨[],[]⟩⟩) (eJ H) ?_ ?_
 ·rintro i1 ⟨⟩ H
  refine gQ 8 ?_;refine cT H (fun h3 h3l H=>?_) (fun h3 H=>?_)
  ·refine gQ 8 ?_;refine q1 (gS (aD.cs (aT p2 i1))) (bM H fun x5 z4 H=>(q1 (bI func259 (QY fu (aT p2 i1) _ z4)) ?_))
   refine gQ 2 ?_;refine dL 18 H (fun g6 H=>gE 23) fun g6 H=>?_;refine gQ 4 ?_;refine qg g6 (gS (aA.cs ((aT p2 i1).aBu))) (qg g6 bH (bM H fun x8 z7 H=>(qg g6 (bI func248 (rK fu ((aT p2 i1).aBu) p4 _ z7)) ?_)))
   refine gQ 3 ?_;refine dL 28 H (fun g9 H=>gE 13) fun g9 H=>?_;refine gQ 4 ?_;refine qg g9 (gS (aA.cs ((aT p2 i1).aBu))) (bM H fun x11 z10 H=>(qg g9 (bI func86 (u5 fu ((aT p2 i1).aBu) _ z10)) ?_))
   refine gQ 2 ?_;refine bF H (fun h12 H=>gE 4) fun h12 H=>?_;exact gE 6
  exact gE 0
 rintro⟨⟩ H
 exact gE 7
def KK(fu:Nat)(p0:aL)(x2 x5 x8 x11 x15:Bool):Nat→Unit→Option (LR Unit Bool):=fun i17 _=>bd (H8 fu (aT p0.aBF i17) p0.aBH) fun x21=>sw (!(x21)) (some (.ret false)) (some (.next ()))
def KJ(fu:Nat)(p0:aL)(x2 x5 x8 x11 x15:Bool):Option (Bool⊕Unit):=sw (p0.aB4) (bd (oF fu p0.aBR p0.aBF) fun x25=>sw (!(x25)) (some (.inl false)) (some (.inr ()))) (bd (tV fu p0.aBR) fun x28=>sw (!(x28)) (some (.inl false)) (some (.inr ())))
def KL(fu:Nat)(p0:aL)(x2 x5 x8 x11 x15:Bool):Nat→((LB))→Option (LR ((LB)) Bool):=fun i30 v32=>lt (aT p0.aBW i30) fun y35=>sw (decide ((y35.aBF.length:Int)=0)) (some (.ret false)) (bd (gH fu y35.aBF 5) fun x39=>sw (!(x39)) (some (.ret false)) (bd (A6 fu y35.aBC y35.aBF) fun x42=>sw (!(x42)) (some (.ret false)) (gd ((v32).length+(([y35.aBs]:LB)).length≤68719476736) (some (.next (v32++([y35.aBs]:LB)))))))
def oA(fu:Nat)(p0:aL):Option Bool:=bd (dT fu p0.aBz) fun x2=>sw (!(x2)) (some false) (bd (gH fu p0.aBF 3) fun x5=>sw (!(x5)) (some false) (bd (oF fu p0.aBH p0.aBF) fun x8=>sw (!(x8)) (some false) (bd (dM fu p0.aBH) fun x11=>sw x11 (some false) (sw (decide (p0.aBH.aBw=4)) (some false) (bd (B8 fu p0.aBK p0.aBF) fun x15=>sw (!(x15)) (some false) (so (loopN (KK fu p0 x2 x5 x8 x11 x15) (p0.aBF.length-0) 0 ()) fun _=>so (KJ fu p0 x2 x5 x8 x11 x15) fun _=>so (loopN (KL fu p0 x2 x5 x8 x11 x15) (p0.aBW.length-0) 0 ([])) fun v32=>bd (gH fu v32 6) fun x46=>some x46))))))
theorem yZ(fu:Nat)(p0:aL)(r:Bool)(H:oA fu p0=some r):bQ Tryz.prog 231 [(aL.pv p0)] (pB r):=by
 refine qJ func231 H (fun C hC H=>?_)
 refine gQ 2 ?_;refine q1 (fE (dU p0)) ?_;refine gQ 7 ?_;refine bM H fun x2 z1 H=>(q1 (bI func205 (eA fu p0.aBz _ z1)) ?_)
 refine gQ 2 ?_;refine dL 11 H (fun g3 H=>gE 38) fun g3 H=>?_;refine gQ 2 ?_;refine bM H fun x5 z4 H=>(qg g3 (bI func206 (gP fu p0.aBF 3 _ z4)) ?_)
 refine gQ 3 ?_;refine dL 17 H (fun g6 H=>gE 32) fun g6 H=>?_;refine qg g6 bZ (qg g6 (b6 [pI p0.aBH.aBw,pS p0.aBH.aBs,aU p0.aBH.aBt]) ?_)
 refine gQ 2 ?_;refine bM H fun x8 z7 H=>(qg g6 (bI func248 (rK fu p0.aBH p0.aBF _ z7)) ?_)
 refine gQ 3 ?_;refine dL 25 H (fun g9 H=>gE 24) fun g9 H=>?_;refine qg g9 bZ (qg g9 (b6 [pI p0.aBH.aBw,pS p0.aBH.aBs,aU p0.aBH.aBt]) (bM H fun x11 z10 H=>(qg g9 (bI func86 (u5 fu p0.aBH _ z10)) ?_)))
 refine gQ 2 ?_;refine dL 30 H (fun g12 H=>gE 19) fun g12 H=>?_;refine gQ 6 ?_;refine dL 36 H (fun g13 H=>gE 13) fun g13 H=>?_;refine gQ 4 ?_;refine bM H fun x15 z14 H=>(qg g13 (bI func249 (OZ fu p0.aBK p0.aBF _ z14)) ?_)
 refine gQ 3 ?_;refine bF H (fun h16 H=>gE 4) fun h16 H=>?_;refine gQ 6 ?_;refine fS 13 (b0 _) (fun hl18=>?_)
 refine bU (σ:=Unit) (fun i17 _=>⟨[(1,.ptr 0 0),(2,pB false),(3,pN i17)],⟨[some ⟨163,dU p0⟩],[]⟩⟩) (fun _=>⟨[(1,.ptr 0 0),(2,pB false)],⟨[some ⟨163,dU p0⟩],[]⟩⟩) (eJ H) ?_ ?_
 ·rintro i17 ⟨⟩ H
  refine gQ 9 ?_;refine cT H (fun h19 h19l H=>?_) (fun h19 H=>?_)
  ·refine gQ 4 ?_;refine bM H fun x21 z20 H=>(dW (dI [1] bZ (dD [51] eB (dI [3] bH (dI [52,53] m9 (dI [54] vE (dI [1] bZ (dD [56] (b6 [pI p0.aBH.aBw,pS p0.aBH.aBs,aU p0.aBH.aBt]) (dI [55,57] (bI func250 (abT fu (aT p0.aBF i17) p0.aBH _ z20)) (dI [58] J6 (dN ?_)))))))))))
   refine bF H (fun h22 H=>gE 4) fun h22 H=>?_;exact gE 6
  exact gE 0
 rintro⟨⟩ H
 refine qS ?_;refine nW (σ:=Unit) (fun _=>⟨[(1,.ptr 0 0),(2,pB false)],⟨[some ⟨163,dU p0⟩],[]⟩⟩) (eJ H) (fun H=>?_) ?_
 ·refine gQ 5 ?_;refine dL 62 H (fun g23 H=>?_) fun g23 H=>?_
  ·refine qg g23 bZ (qg g23 (b6 [pI p0.aBR.aBw,pS p0.aBR.aBs,aU p0.aBR.aBt]) ?_)
   refine gQ 2 ?_;refine bM H fun x25 z24 H=>(qg g23 (bI func248 (rK fu p0.aBR p0.aBF _ z24)) ?_)
   refine gQ 3 ?_;refine dL 70 H (fun g26 H=>gE 16) fun g26 H=>?_;refine gQ 4 ?_
   iterate 4 refine qk (congrArg (fun b=> !b) g23) ?_
   refine qg g26 (FG (congrArg (fun b=> !b) g23)) ?_;exact gE 4
  refine gQ 12 ?_;refine qg (congrArg (fun b=> !b) g23) bZ (qg (congrArg (fun b=> !b) g23) (b6 [pI p0.aBR.aBw,pS p0.aBR.aBs,aU p0.aBR.aBt]) (bM H fun x28 z27 H=>(qg (congrArg (fun b=> !b) g23) (bI func251 (xQ fu p0.aBR _ z27)) (qg (congrArg (fun b=> !b) g23) J6 (qg rfl (C3 (congrArg (fun b=> !b) g23)) ?_)))))
  refine gQ 2 ?_;refine bF H (fun h29 H=>gE 4) fun h29 H=>?_;exact gE 1
 rintro⟨⟩ H
 refine gQ 2 ?_;refine q1 (nU ([]:LB)) ?_;refine gQ 7 ?_;refine cO.fact (cK 0 11 rfl rfl rfl (aQ.trs_len _)) (fun hl33=>?_)
 refine bU (σ:=(LB)) (fun i30 v32=>⟨[(1,.ptr 0 0),(2,pB false),(4,aS v32 0),(5,pN i30)],⟨[some ⟨163,dU p0⟩],[⟨9,1,aY (v32),false⟩]⟩⟩) (fun v32=>⟨[(2,pB false),(4,aS v32 0)],⟨[some ⟨163,dU p0⟩],[⟨9,1,aY (v32),false⟩]⟩⟩) (eJ H) ?_ ?_
 ·rintro i30 v32 H
  refine gQ 9 ?_;refine cT H (fun h34 h34l H=>?_) (fun h34 H=>?_)
  ·refine gQ 8 ?_;refine fZ H fun y35 h36 H=>(q1 (xW h36 h34l) (q1 (gS (aQ.cs y35)) ?_))
   refine gQ 11 ?_;refine dL 98 H (fun g37 H=>gE 19) fun g37 H=>?_;refine gQ 2 ?_;refine bM H fun x39 z38 H=>(qg g37 (bI func206 (gP fu y35.aBF 5 _ z38)) ?_)
   refine gQ 3 ?_;refine dL 104 H (fun g40 H=>gE 13) fun g40 H=>?_;refine qg g40 bZ (qg g40 (b6 [pI y35.aBC.aBw,pS y35.aBC.aBz,pS y35.aBC.aBs,pI y35.aBC.aCa,pI y35.aBC.aBu.aBw,pS y35.aBC.aBu.aBs,aU y35.aBC.aBu.aBt,iI y35.aBC.aBt,rV y35.aBC.aBN]) ?_)
   refine gQ 2 ?_;refine bM H fun x42 z41 H=>(qg g40 (bI func252 (IG fu y35.aBC y35.aBF _ z41)) ?_)
   refine gQ 3 ?_;refine bF H (fun h43 H=>gE 4) fun h43 H=>?_;refine gQ 5 ?_;refine q1 (fY ([y35.aBs]:LB)) (cA H fun z44 H=>(q1 (jO z44) ?_))
   exact gE 7
  exact gE 0
 rintro v32 H
 refine gQ 3 ?_;refine bM H fun x46 z45 H=>(q1 (bI func206 (gP fu v32 6 _ z45)) ?_)
 exact gE 2
def KI(fu:Nat)(pf:aP):Nat→((LB))→Option (LR ((LB)) Bool):=fun i1 v3=>bd (oF fu ((aT pf.aBL i1).aBu) pf.aBF) fun x7=>sw (!(x7)) (some (.ret false)) (gd ((v3).length+(([((aT pf.aBL i1).aBs)]:LB)).length≤68719476736) (some (.next (v3++([((aT pf.aBL i1).aBs)]:LB)))))
def n9(fu:Nat)(pf:aP):Option Bool:=so (loopN (KI fu pf) (pf.aBL.length-0) 0 ([])) fun v3=>bd (dT fu pf.aBs) fun x11=>sw x11 (bd (gH fu pf.aBF 3) fun x14=>sw x14 (bd (B8 fu pf.aBK pf.aBF) fun x17=>sw x17 (bd (gH fu v3 5) fun x20=>sw x20 (bd (oF fu pf.aBJ pf.aBF) fun x23=>sw x23 (bd (A6 fu pf.aBC v3) fun x26=>some x26) (some false)) (some false)) (some false)) (some false)) (some false)
theorem yY(fu:Nat)(pf:aP)(r:Bool)(H:n9 fu pf=some r):bQ Tryz.prog 232 [(aP.pv pf)] (pB r):=by
 refine qJ func232 H (fun C hC H=>?_)
 refine gQ 2 ?_;refine q1 (fE (zP pf)) ?_;refine gQ 4 ?_;refine q1 (nU ([]:LB)) ?_;refine gQ 7 ?_;refine cO.fact (cK 0 3 rfl rfl rfl (aW.trs_len _)) (fun hl4=>?_)
 refine bU (σ:=(LB)) (fun i1 v3=>⟨[(1,.ptr 0 0),(2,pB false),(3,aS v3 0),(4,pN i1)],⟨[some ⟨213,zP pf⟩],[⟨9,1,aY (v3),false⟩]⟩⟩) (fun v3=>⟨[(1,.ptr 0 0),(2,pB false),(3,aS v3 0)],⟨[some ⟨213,zP pf⟩],[⟨9,1,aY (v3),false⟩]⟩⟩) (eJ H) ?_ ?_
 ·rintro i1 v3 H
  refine gQ 9 ?_;refine cT H (fun h5 h5l H=>?_) (fun h5 H=>?_)
  ·refine gQ 5 ?_;refine bM H fun x7 z6 H=>(dW (dI [1] bZ (dD [13] eB (dI [4] bH (dI [14,15] m9 (dI [16] wX (dI [17] (gS (aA.cs ((aT pf.aBL i1).aBu))) (dI [1] bZ (dD [19] eB (dI [18,20] (bI func248 (rK fu ((aT pf.aBL i1).aBu) pf.aBF _ z6)) (dI [21] J6 (dN ?_))))))))))))
   refine bF H (fun h8 H=>gE 4) fun h8 H=>?_;refine gQ 9 ?_;refine q1 (fY ([((aT pf.aBL i1).aBs)]:LB)) (cA H fun z9 H=>(q1 (jO z9) ?_))
   exact gE 7
  exact gE 0
 rintro v3 H
 refine gQ 4 ?_;refine bM H fun x11 z10 H=>(q1 (bI func205 (eA fu pf.aBs _ z10)) (q1 bH ?_))
 refine dL 35 H (fun g12 H=>?_) fun g12 H=>?_
 ·refine gQ 2 ?_;refine bM H fun x14 z13 H=>(qg g12 (bI func206 (gP fu pf.aBF 3 _ z13)) ?_)
  refine gQ 2 ?_;refine dL 40 H (fun g15 H=>?_) fun g15 H=>?_
  ·refine gQ 4 ?_;refine bM H fun x17 z16 H=>(qg g15 (bI func249 (OZ fu pf.aBK pf.aBF _ z16)) ?_)
   refine gQ 2 ?_;refine dL 47 H (fun g18 H=>?_) fun g18 H=>?_
   ·refine qg g18 bH (bM H fun x20 z19 H=>(qg g18 (bI func206 (gP fu v3 5 _ z19)) ?_))
    refine gQ 2 ?_;refine dL 51 H (fun g21 H=>?_) fun g21 H=>?_
    ·refine qg g21 bZ (qg g21 (b6 [pI pf.aBJ.aBw,pS pf.aBJ.aBs,aU pf.aBJ.aBt]) ?_)
     refine gQ 2 ?_;refine bM H fun x23 z22 H=>(qg g21 (bI func248 (rK fu pf.aBJ pf.aBF _ z22)) ?_)
     refine gQ 2 ?_;refine dL 58 H (fun g24 H=>?_) fun g24 H=>?_
     ·refine qg g24 bZ (qg g24 (b6 [pI pf.aBC.aBw,pS pf.aBC.aBz,pS pf.aBC.aBs,pI pf.aBC.aCa,pI pf.aBC.aBu.aBw,pS pf.aBC.aBu.aBs,aU pf.aBC.aBu.aBt,iI pf.aBC.aBt,rV pf.aBC.aBN]) (qg g24 bH (bM H fun x26 z25 H=>(qg g24 (bI func252 (IG fu pf.aBC v3 _ z25)) ?_))))
      exact gE 3
     exact gE 7
    exact gE 14
   exact gE 18
  exact gE 25
 exact gE 30
end
end Go.Proofs.YtfcoaagbccmahaaGreat.W

namespace Go.Proofs.YtfcoaagbccmahaaGreat.W
set_option maxRecDepth 20000
set_option maxHeartbeats 4000000
open Go.RowKit Go.WalkArith Go.IntWalk
attribute [local irreducible] wt wl
def ahE(fu:Nat):Prop:= ∀(pe:aM) (p7:Int),wt pe≤1073741824→Ok (m3 fu pe p7) (fun _=>True)
def LE(n:Nat)(m:tU):Prop:= ∀(pe:aM) (p7:Int),wt pe<n→wt pe≤1073741824→Ok (m pe p7) (fun _=>True)
theorem af1{n fu:Nat}(hfu:2147483648≤fu){p8:tU}(p9:LE n p8):LE (n+1) (MQ fu p8):=by
 intro pe p7 hm hpre
 refine oEN (fun i1 v2 hl2=>?_) ?_
 ·have:=aM.wt_eq pe
  have:=bB pe.aBt
  refine oD (fun g4=>?_) fun g4=>?_
  ·have:=cW pe.aBt i1 hl2
   refine Ok.lt fun y6 h5=>?_
   have:=congrArg wt h5
   exact oB (p9 y6 v2 bR bR) fun x9 _=>qD
  exact oK
 intro v2 _
 refine oEN (fun i10 v11 hl8=>?_) ?_
 ·have:=aM.wt_eq pe
  have:=bB pe.aBN
  refine oD (fun g10=>?_) fun g10=>?_
  ·have:=cW pe.aBN i10 hl8
   refine Ok.lt fun y15 h11=>?_
   have:=congrArg wt h11
   have:=bV.wt_eq y15
   exact oB (p9 y15.aBC v11 bR bR) fun x18 _=>qD
  exact oK
 intro v11 _
 exact oS
theorem aiW(n:Nat):bS fun fu=>LE n (m3 fu):=by
 induction n with
 |zero=>exact .all fun fu=>fun _ _ h=>absurd h (Nat.not_lt_zero _)
 |succ n ih=>exact bS.succ ((ih.and (bS.ge 2147483648)).imp fun fu ⟨h,hfu⟩=>fun pe p7=>by rw [m3];exact af1 hfu h pe p7)
theorem L4:bS ahE:=(aiW 8589934592).imp fun fu h pe p7 hpre=>h pe p7 bR hpre
def Y5(fu:Nat):Prop:= ∀(pk:Int),Ok (RI fu pk) (fun _=>True)
theorem D6:bS Y5:=(bS.ge 2147483648).imp fun fu hfu pk=>by
 refine GN ?_ ?_
 ·exact oD (fun _=>oI) fun g2=>oI
 intro v1 _
 refine oC (fun _=>oS) fun g3=>oD (fun _=>oS) fun g4=>?_;refine GN ?_ ?_
 ·exact oD (fun _=>oI) fun g6=>oI
 intro v5 _
 refine oC (fun _=>oS) fun g7=>oD (fun _=>oS) fun g8=>oD (fun _=>oS) fun g9=>?_;refine GN ?_ ?_
 ·exact oD (fun _=>oI) fun g11=>oI
 intro v10 _
 exact oC (fun _=>oS) fun g12=>oD (fun _=>oS) fun g13=>oD (fun _=>oS) fun g14=>oS
def UF(fu:Nat):Prop:= ∀(ps:ByteArray),Ok (MR fu ps) (fun _=>True)
theorem AR:bS UF:=((bS.ge 2147483648).and dR).imp fun fu ⟨hfu,dR⟩ ps=>by
 have:BF.size=1:=rfl
 have:GT.size=1:=rfl
 have:PD.size=1:=rfl
 have:PE.size=1:=rfl
 have:PF.size=1:=rfl
 have:=ar2 BF GT PD PE PF
 have:=bA BF
 have:=bA GT
 have:=bA PD
 have:=bA PE
 have:=bA PF
 exact oB (dR ([BF,GT,PD,PE,PF]:LB) ps) fun x2 _=>oS
def UG(fu:Nat):Prop:= ∀(pt:aA),Ok (tV fu pt) (fun _=>True)
theorem lV:bS UG:=(bS.ge 2147483648).imp fun fu hfu pt=>by
 refine oD (fun g1=>?_) fun g1=>?_
 ·exact oD (fun _=>oS) fun g2=>oS
 exact oS
def ahC(fu:Nat):Prop:= ∀(p0:aM),wt p0≤1073741824→Ok (mY fu p0) (fun _=>True)
def LC(n:Nat)(m:lY):Prop:= ∀(p0:aM),wt p0<n→wt p0≤1073741824→Ok (m p0) (fun _=>True)
theorem afS{n fu:Nat}(hfu:2147483648≤fu)(D6:Y5 fu)(rT:aj6 fu)(bN:AA fu)(AR:UF fu)(eL:GX fu)(lV:UG fu)(rE:UJ fu)(eK:GU fu){pA:lY}(pC:LC n pA):LC (n+1) (MO fu pA):=by
 intro p0 hm hpre
 have:=aM.wt_eq p0
 refine oB6 (D6 p0.aBw) fun x2 x3 x4 x5 x6 x7 _=>?_;refine GN ?_ ?_
 ·refine oB (rT p0.aBw 1 12) fun x9 _=>oW (fun _=>oL) fun g4=>oB (bN p0.aBz) fun x12 _=>oN (fun _=>oL) fun g6=>?_;refine oW (fun g7=>?_) fun g7=>?_
  ·refine oN (fun _=>oL) fun g8=>?_;refine oW (fun g9=>?_) fun g9=>?_
   ·exact oN (fun _=>oL) fun g10=>oN (fun _=>oL) fun g11=>oI
   exact oN (fun _=>oL) fun g12=>oI
  refine oW (fun g13=>?_) fun g13=>?_
  ·exact oN (fun _=>oL) fun g14=>oN (fun _=>oL) fun g15=>oI
  exact oN (fun _=>oL) fun g16=>oI
 rintro⟨⟩-
 refine GN ?_ ?_
 ·refine oD (fun g18=>?_) fun g18=>?_
  ·refine oB (AR p0.aBs) fun x26 _=>oW (fun _=>oL) fun g20=>?_;refine oN (fun g21=>?_) fun g21=>?_
   ·refine oB (bN p0.aBs) fun x30 _=>oN (fun _=>oL) fun g23=>?_;refine oW (fun g24=>?_) fun g24=>?_
    ·exact oN (fun _=>oL) fun g25=>oI
    exact oI
   exact oI
  refine oN (fun g26=>?_) fun g26=>?_
  ·refine oB (bN p0.aBs) fun x36 _=>oN (fun _=>oL) fun g28=>?_;refine oW (fun g29=>?_) fun g29=>?_
   ·exact oN (fun _=>oL) fun g30=>oI
   exact oI
  exact oI
 rintro⟨⟩-
 refine GN ?_ ?_
 ·refine oD (fun g32=>?_) fun g32=>?_
  ·have:=bB p0.aBt
   refine oN (fun _=>oL) fun g33=>?_;refine oD (fun g34=>?_) fun g34=>?_
   ·refine oD (fun _=>oL) fun g35=>?_;refine oC (fun g36=>?_) fun g36=>?_
    ·exact oB (eL p0.aBu bR) fun x46 _=>oW (fun _=>oL) fun g38=>oI
    exact oB (lV p0.aBu) fun x49 _=>oW (fun _=>oL) fun g40=>oI
   refine oC (fun g41=>?_) fun g41=>?_
   ·exact oB (eL p0.aBu bR) fun x53 _=>oW (fun _=>oL) fun g43=>oI
   exact oB (lV p0.aBu) fun x56 _=>oW (fun _=>oL) fun g45=>oI
  refine oD (fun g46=>?_) fun g46=>?_
  ·have:=bB p0.aBt
   refine oD (fun _=>oL) fun g47=>?_;refine oC (fun g48=>?_) fun g48=>?_
   ·exact oB (eL p0.aBu bR) fun x62 _=>oW (fun _=>oL) fun g50=>oI
   exact oB (lV p0.aBu) fun x65 _=>oW (fun _=>oL) fun g52=>oI
  refine oC (fun g53=>?_) fun g53=>?_
  ·exact oB (eL p0.aBu bR) fun x69 _=>oW (fun _=>oL) fun g55=>oI
  exact oB (lV p0.aBu) fun x72 _=>oW (fun _=>oL) fun g57=>oI
 rintro⟨⟩-
 refine GN ?_ ?_
 ·refine oD (fun g59=>?_) fun g59=>?_
  ·exact oB (rT p0.aCa (-999999) 999999) fun x76 _=>oW (fun _=>oL) fun g61=>oI
  refine oD (fun g62=>?_) fun g62=>?_
  ·exact oB (rT p0.aCa 0 1) fun x80 _=>oW (fun _=>oL) fun g64=>oI
  exact oI
 rintro⟨⟩-
 refine GN ?_ ?_
 ·refine Ok.loop1 ?_;rintro i82 ⟨⟩ hl66
  have:=bB p0.aBt
  have:=cW p0.aBt i82 hl66
  refine Ok.lt fun y85 h68=>?_
  have:=congrArg wt h68
  exact oB (pC y85 bR bR) fun x88 _=>oW (fun _=>oR) fun g70=>qD
 rintro⟨⟩-
 refine GN ?_ ?_
 ·refine Ok.loop1 ?_;rintro i90 ⟨⟩ hl72
  have:=bB p0.aBN
  have:=cW p0.aBN i90 hl72
  refine Ok.lt fun y93 h74=>?_
  have:=congrArg wt h74
  have:=bV.wt_eq y93
  exact oB (bN y93.aBU) fun x96 _=>oW (fun _=>oR) fun g76=>oB (rE y93.aBF) fun x99 _=>oW (fun _=>oR) fun g78=>oB (eK y93.aBF) fun x102 _=>oW (fun _=>oR) fun g80=>oB (pC y93.aBC bR bR) fun x105 _=>oW (fun _=>oR) fun g82=>qD
 rintro⟨⟩-
 exact oS
theorem aiQ(n:Nat):bS fun fu=>LC n (mY fu):=by
 induction n with
 |zero=>exact .all fun fu=>fun _ h=>absurd h (Nat.not_lt_zero _)
 |succ n ih=>exact bS.succ ((ih.and (((((((((bS.ge 2147483648).and D6).and rT).and bN).and AR).and eL).and lV).and rE).and eK)).imp fun fu ⟨h,⟨⟨⟨⟨⟨⟨⟨⟨hfu,D6⟩,rT⟩,bN⟩,AR⟩,eL⟩,lV⟩,rE⟩,eK⟩⟩=>fun p0=>by rw [mY];exact afS hfu D6 rT bN AR eL lV rE eK h p0)
theorem L2:bS ahC:=(aiQ 8589934592).imp fun fu h p0 hpre=>h p0 bR hpre
def UE(fu:Nat):Prop:= ∀(pe:aM),wt pe≤1073741824→Ok (AZ fu pe) (fun _=>True)
theorem AQ:bS UE:=(((bS.ge 2147483648).and L4).and L2).imp fun fu ⟨⟨hfu,L4⟩,L2⟩ pe hpre=>by
 refine oB (L4 pe 300 bR) fun x2 _=>?_;refine oD (fun g2=>?_) fun g2=>?_
 ·exact oB (L2 pe bR) fun x5 _=>oS
 exact oS
def R3(fu:Nat):Prop:= ∀(pa pb:LB),Ok (IB fu pa pb) (fun _=>True)
theorem xM:bS R3:=(bS.ge 2147483648).imp fun fu hfu pa pb=>by
 have:=bB pa
 have:=bB pb
 refine oN (fun _=>oS) fun g1=>?_;refine GN ?_ ?_
 ·refine Ok.loop1 ?_;rintro i2 ⟨⟩ hl3
  have:=bB (pb)
  exact oG fun z5=>oN (fun _=>oR) fun g6=>qD
 rintro⟨⟩-
 exact oS
def aaP(fu:Nat):Prop:= ∀(p0 p4:aM),wt p0≤536870912→Ok (kD fu p0 p4) (fun _=>True)
def EN(n:Nat)(m:n6):Prop:= ∀(p0 p4:aM),wt p0<n→wt p0≤536870912→Ok (m p0 p4) (fun _=>True)
theorem YB{n fu:Nat}(hfu:2147483648≤fu)(uQ:NH fu)(xM:R3 fu){p5:n6}(p6:EN n p5):EN (n+1) (FJ fu p5):=by
 intro p0 p4 hm hpre
 have:=aM.wt_eq p0
 have:=aM.wt_eq p4
 refine oN (fun _=>oS) fun g1=>oN (fun _=>oS) fun g2=>oN (fun _=>oS) fun g3=>oN (fun _=>oS) fun g4=>oB (uQ p0.aBu p4.aBu bR) fun x6 _=>oW (fun _=>oS) fun g6=>?_
 have:=bB p0.aBt
 have:=bB p4.aBt
 refine oN (fun _=>oS) fun g7=>?_
 have:=bB p0.aBN
 have:=bB p4.aBN
 refine oN (fun _=>oS) fun g8=>?_;refine GN ?_ ?_
 ·refine Ok.loop1 ?_;rintro i10 ⟨⟩ hl10
  have:=cW p0.aBt i10 hl10
  refine Ok.lt fun y13 h12=>?_
  have:=congrArg wt h12
  have:=bB (p4.aBt)
  refine oG fun z13=>?_
  have:=cW p4.aBt i10 z13
  refine Ok.lt fun y16 h14=>?_
  have:=congrArg wt h14
  exact oB (p6 y13 y16 bR bR) fun x19 _=>oW (fun _=>oR) fun g16=>qD
 rintro⟨⟩-
 refine GN ?_ ?_
 ·refine Ok.loop1 ?_;rintro i21 ⟨⟩ hl18
  have:=cW p0.aBN i21 hl18
  refine Ok.lt fun y24 h20=>?_
  have:=congrArg wt h20
  have:=bB (p4.aBN)
  refine oG fun z21=>?_
  have:=cW p4.aBN i21 z21
  refine Ok.lt fun y27 h22=>?_
  have:=congrArg wt h22
  have:=bV.wt_eq y24
  have:=bV.wt_eq y27
  exact oN (fun _=>oR) fun g23=>oB (xM y24.aBF y27.aBF) fun x31 _=>oW (fun _=>oR) fun g25=>oB (p6 y24.aBC y27.aBC bR bR) fun x34 _=>oW (fun _=>oR) fun g27=>qD
 rintro⟨⟩-
 exact oS
theorem abP(n:Nat):bS fun fu=>EN n (kD fu):=by
 induction n with
 |zero=>exact .all fun fu=>fun _ _ h=>absurd h (Nat.not_lt_zero _)
 |succ n ih=>exact bS.succ ((ih.and (((bS.ge 2147483648).and uQ).and xM)).imp fun fu ⟨h,⟨⟨hfu,uQ⟩,xM⟩⟩=>fun p0 p4=>by rw [kD];exact YB hfu uQ xM h p0 p4)
theorem E7:bS aaP:=(abP 8589934592).imp fun fu h p0 p4 hpre=>h p0 p4 bR hpre
def ahD(fu:Nat):Prop:= ∀(p0:aM) (p4 pE:LB),wl p4+wl pE+2*wt p0≤134217728→Ok (mZ fu p0 p4 pE) (fun r=>wl r≤wl pE+wt p0+1)
def LD(n:Nat)(m:rJ):Prop:= ∀(p0:aM) (p4 pE:LB),wt p0<n→wl p4+wl pE+2*wt p0≤134217728→Ok (m p0 p4 pE) (fun r=>wl r≤wl pE+wt p0+1)
theorem afX{n fu:Nat}(hfu:2147483648≤fu)(dR:UH fu){pD:rJ}(p3:LD n pD):LD (n+1) (MP fu pD):=by
 intro p0 p4 pE hm hpre
 have:=aM.wt_eq p0
 refine Ok.sok (E:=fun v2=>wl v2+wl p0.aBt+wl p0.aBN≤wl pE+wt p0+1) ?_ ?_
 ·refine oD (fun g2=>?_) fun g2=>?_
  ·refine oB (dR p4 p0.aBs) fun x5 _=>?_;refine oW (fun g4=>?_) fun g4=>?_
   ·refine oB (dR pE p0.aBs) fun x8 _=>?_;refine oW (fun g6=>?_) fun g6=>?_
    ·have:=bB (pE)
     have:=cG p0.aBs
     have:=bA p0.aBs
     refine oG fun z7=>?_
     have:=b8 pE ([p0.aBs]:LB)
     exact oI
    exact oI
   exact oI
  exact oI
 intro v2 h1
 refine QP p0.aBt 1 (fun i11 v13 hl9 hI10 _ _=>?_) ?_
 ·have:=bB p0.aBt
  refine oD (fun g11=>?_) fun g11=>?_
  ·refine oD (fun g12=>?_) fun g12=>?_
   ·have:=(aX:wl ([]:LB)=0∧_)
    have:=bB (p4)
    refine oG fun z13=>?_
    have:=b8 ([]:LB) p4
    have:=cG p0.aBs
    have:=bA p0.aBs
    refine oG fun z14=>?_
    have:=cW p0.aBt i11 hl9
    refine Ok.lt fun y20 h15=>?_
    have:=congrArg wt h15
    have:=b8 (([])++p4) ([p0.aBs]:LB)
    exact oB (p3 y20 ((([])++p4)++([p0.aBs]:LB)) v13 bR bR) fun x23 h16=>qD
   have:=cW p0.aBt i11 hl9
   refine Ok.lt fun y24 h17=>?_
   have:=congrArg wt h17
   exact oB (p3 y24 p4 v13 bR bR) fun x27 h18=>qD
  have:=cW p0.aBt i11 hl9
  refine Ok.lt fun y28 h19=>?_
  have:=congrArg wt h19
  exact oB (p3 y28 p4 v13 bR bR) fun x31 h20=>qD
 intro v13 h8
 refine QP p0.aBN 1 (fun i32 v34 hl22 hI23 _ _=>?_) ?_
 ·have:=bB p0.aBN
  have:=cW p0.aBN i32 hl22
  refine Ok.lt fun y37 h24=>?_
  have:=congrArg wt h24
  have:=(aX:wl ([]:LB)=0∧_)
  have:=bB (p4)
  refine oG fun z25=>?_
  have:=b8 ([]:LB) p4
  have:=bV.wt_eq y37
  have:=bB (y37.aBF)
  refine oG fun z26=>?_
  have:=b8 (([])++p4) y37.aBF
  exact oB (p3 y37.aBC ((([])++p4)++y37.aBF) v34 bR bR) fun x42 h27=>qD
 intro v34 h21
 exact oS
theorem aiR(n:Nat):bS fun fu=>LD n (mZ fu):=by
 induction n with
 |zero=>exact .all fun fu=>fun _ _ _ h=>absurd h (Nat.not_lt_zero _)
 |succ n ih=>exact bS.succ ((ih.and ((bS.ge 2147483648).and dR)).imp fun fu ⟨h,⟨hfu,dR⟩⟩=>fun p0 p4 pE=>by rw [mZ];exact afX hfu dR h p0 p4 pE)
theorem L3:bS ahD:=(aiR 8589934592).imp fun fu h p0 p4 pE hpre=>h p0 p4 pE bR hpre
def PO(fu:Nat):Prop:= ∀(pe:aM),wt pe≤67108864→Ok (wH fu pe) (fun r=>wl r≤wt pe+1)
theorem vX:bS PO:=((bS.ge 2147483648).and L3).imp fun fu ⟨hfu,L3⟩ pe hpre=>by
 have:=(aX:wl ([]:LB)=0∧_)
 exact oB (L3 pe ([]:LB) ([]:LB) bR) fun x2 h1=>oS
def ahK(fu:Nat):Prop:= ∀(pt:aA) (p2:LB),wt pt+wl p2≤67108864→Ok (oF fu pt p2) (fun _=>True)
theorem f9:bS ahK:=((((bS.ge 2147483648).and vY).and dR).and eL).imp fun fu ⟨⟨⟨hfu,vY⟩,dR⟩,eL⟩ pt p2 hpre=>by
 refine oB (vY pt bR) fun x2 h1=>?_;refine GN ?_ ?_
 ·refine Ok.loop1 ?_;rintro i3 ⟨⟩ hl3
  have:=bB x2
  have:=cW x2 i3 hl3
  have:=bA (aT x2 i3)
  exact oB (dR p2 (aT x2 i3)) fun x7 _=>oW (fun _=>oR) fun g6=>qD
 rintro⟨⟩-
 exact oB (eL pt bR) fun x10 _=>oS
def ak0(fu:Nat):Prop:= ∀(p1:List aA) (p2:LB),wl p1+wl p2≤67108864→Ok (JG fu p1 p2) (fun _=>True)
theorem zQ:bS ak0:=((bS.ge 2147483648).and f9).imp fun fu ⟨hfu,f9⟩ p1 p2 hpre=>by
 refine GN ?_ ?_
 ·refine Ok.loop1 ?_;rintro i1 ⟨⟩ hl2
  have:=bB p1
  have:=cW p1 i1 hl2
  exact oB (f9 (aT p1 i1) p2 bR) fun x5 _=>oW (fun _=>oR) fun g5=>qD
 rintro⟨⟩-
 exact oS
def ahJ(fu:Nat):Prop:= ∀(pe:aM),wt pe≤67108864→Ok (MW fu pe) (fun _=>True)
theorem L7:bS ahJ:=((bS.ge 2147483648).and E7).imp fun fu ⟨hfu,E7⟩ pe hpre=>by
 have:s_.size=0:=rfl
 have:=(aX:wl ([]:List aA)=0∧_)
 have:=aA.wt_mk 0 s_ []
 have:=(aX:wl ([]:List aM)=0∧_)
 have:=(aX:wl ([]:List bV)=0∧_)
 have:=aM.wt_mk 0 s_ s_ 0 (aA.mk 0 s_ []) [] []
 exact oB (E7 pe (aM.mk 0 s_ s_ 0 (aA.mk 0 s_ []) [] []) bR) fun x2 _=>oS
def adQ(fu:Nat):Prop:= ∀(p1:LB) (pF:Int),Ok (gH fu p1 pF) (fun _=>True)
theorem c8:bS adQ:=(((bS.ge 2147483648).and rE).and eK).imp fun fu ⟨⟨hfu,rE⟩,eK⟩ p1 pF=>by
 refine oD (fun g1=>?_) fun g1=>?_
 ·refine oB (rE p1) fun x3 _=>?_;refine oC (fun g3=>?_) fun g3=>?_
  ·exact oB (eK p1) fun x6 _=>oS
  exact oS
 exact oS
def ahG(fu:Nat):Prop:= ∀(pe:aM) (p2:LB),wt pe+wl p2≤67108864→Ok (A6 fu pe p2) (fun _=>True)
theorem n3:bS ahG:=((((bS.ge 2147483648).and vX).and dR).and AQ).imp fun fu ⟨⟨⟨hfu,vX⟩,dR⟩,AQ⟩ pe p2 hpre=>by
 refine oB (vX pe bR) fun x2 h1=>?_;refine GN ?_ ?_
 ·refine Ok.loop1 ?_;rintro i3 ⟨⟩ hl3
  have:=bB x2
  have:=cW x2 i3 hl3
  have:=bA (aT x2 i3)
  exact oB (dR p2 (aT x2 i3)) fun x7 _=>oW (fun _=>oR) fun g6=>qD
 rintro⟨⟩-
 exact oB (AQ pe bR) fun x10 _=>oS
def ak1(fu:Nat):Prop:= ∀(ps:aG),wt ps≤33554432→Ok (RM fu ps) (fun _=>True)
theorem QF:bS ak1:=(((((((bS.ge 2147483648).and bN).and zQ).and f9).and L7).and c8).and n3).imp fun fu ⟨⟨⟨⟨⟨⟨hfu,bN⟩,zQ⟩,f9⟩,L7⟩,c8⟩,n3⟩ ps hpre=>by
 have:=aG.wt_eq ps
 refine oB (bN ps.aBs) fun x2 _=>oW (fun _=>oS) fun g2=>?_
 have:=bB ps.aBL
 refine oD (fun _=>oS) fun g3=>?_
 have:jZ.size=4:=rfl
 have:=cG jZ
 have:=bA jZ
 refine oB (zQ ps.aBL ([jZ]:LB) bR) fun x6 _=>oW (fun _=>oS) fun g5=>oB (f9 ps.aBJ ([jZ]:LB) bR) fun x9 _=>oW (fun _=>oS) fun g7=>?_;refine oW (fun g8=>?_) fun g8=>?_
 ·have:=bB ps.aBF
  refine oD (fun g9=>?_) fun g9=>?_
  ·exact oB (L7 ps.aBC bR) fun x14 _=>oS
  exact oS
 refine oB (c8 ps.aBF 5) fun x16 _=>?_;refine oC (fun g12=>?_) fun g12=>?_
 ·have:=bB ps.aBF
  have:=eR ((ps.aBL.length:Int)+1)
  refine oD (fun g13=>?_) fun g13=>?_
  ·exact oB (n3 ps.aBC ps.aBF bR) fun x20 _=>oS
  exact oS
 exact oS
def SY(fu:Nat):Prop:= ∀(pt:aV),wt pt≤16777216→Ok (tB fu pt) (fun _=>True)
theorem l8:bS SY:=((((bS.ge 2147483648).and QF).and bN).and c8).imp fun fu ⟨⟨⟨hfu,QF⟩,bN⟩,c8⟩ pt hpre=>by
 have:=(aX:wl ([]:LB)=0∧_)
 have:=aV.wt_eq pt
 refine QP pt.aBP 1 (fun i1 v3 hl2 hI3 _ _=>?_) ?_
 ·have:=bB pt.aBP
  have:=cW pt.aBP i1 hl2
  refine Ok.lt fun y6 h4=>?_
  have:=congrArg wt h4
  refine oB (QF y6 bR) fun x9 _=>oW (fun _=>oR) fun g6=>?_
  have:=bB (v3)
  have:=aG.wt_eq y6
  have:=cG y6.aBs
  have:=bA y6.aBs
  refine oG fun z7=>?_
  have:=b8 v3 ([y6.aBs]:LB)
  exact qD
 intro v3 h1
 refine oC (fun g8=>?_) fun g8=>?_
 ·refine oC (fun _=>oS) fun g9=>oD (fun _=>oS) fun g10=>oD (fun _=>oS) fun g11=>oB (bN pt.aBs) fun x17 _=>?_;refine oC (fun g13=>?_) fun g13=>?_
  ·refine oB (c8 pt.aBB 4) fun x20 _=>?_;refine oC (fun g15=>?_) fun g15=>?_
   ·exact oB (c8 v3 6) fun x23 _=>oS
   exact oS
  exact oS
 refine oB (bN pt.aBs) fun x25 _=>?_;refine oC (fun g18=>?_) fun g18=>?_
 ·refine oB (c8 pt.aBB 4) fun x28 _=>?_;refine oC (fun g20=>?_) fun g20=>?_
  ·exact oB (c8 v3 6) fun x31 _=>oS
  exact oS
 exact oS
def LI(fu:Nat):Prop:= ∀(pd:aO),wt pd≤16777216→Ok (n8 fu pd) (fun _=>True)
theorem jV:bS LI:=((((bS.ge 2147483648).and zQ).and bN).and c8).imp fun fu ⟨⟨⟨hfu,zQ⟩,bN⟩,c8⟩ pd hpre=>by
 have:=(aX:wl ([]:LB)=0∧_)
 have:=aO.wt_eq pd
 refine QP pd.aBx 1 (fun i1 v3 hl2 hI3 _ _=>?_) ?_
 ·have:=bB pd.aBx
  have:=cW pd.aBx i1 hl2
  have:=aE.wt_eq (aT pd.aBx i1)
  have:=bB ((aT pd.aBx i1).aBM)
  refine oD (fun _=>oR) fun g4=>oB (zQ ((aT pd.aBx i1).aBM) pd.aBF bR) fun x8 _=>oW (fun _=>oR) fun g6=>?_
  have:=bB (v3)
  have:=cG ((aT pd.aBx i1).aBs)
  have:=bA ((aT pd.aBx i1).aBs)
  refine oG fun z7=>?_
  have:=b8 v3 ([((aT pd.aBx i1).aBs)]:LB)
  exact qD
 intro v3 h1
 refine oB (bN pd.aBs) fun x12 _=>?_;refine oC (fun g9=>?_) fun g9=>?_
 ·refine oB (c8 pd.aBF 3) fun x15 _=>?_;refine oC (fun g11=>?_) fun g11=>?_
  ·refine oD (fun g12=>?_) fun g12=>?_
   ·exact oB (c8 v3 5) fun x19 _=>oS
   exact oS
  exact oS
 exact oS
def SW(fu:Nat):Prop:= ∀(pb:aD),wt pb≤33554432→Ok (yM fu pb) (fun _=>True)
theorem yE:bS SW:=(((bS.ge 2147483648).and bN).and eL).imp fun fu ⟨⟨hfu,bN⟩,eL⟩ pb hpre=>by
 have:=aD.wt_eq pb
 refine oB (bN pb.aBz) fun x2 _=>?_;refine oC (fun g2=>?_) fun g2=>?_
 ·exact oB (eL pb.aBu bR) fun x5 _=>oS
 exact oS
def adP(fu:Nat):Prop:= ∀(p1:List aD) (p2:LB),wl p1+wl p2≤33554432→Ok (B8 fu p1 p2) (fun _=>True)
theorem t1:bS adP:=((((bS.ge 2147483648).and yE).and f9).and lL).imp fun fu ⟨⟨⟨hfu,yE⟩,f9⟩,lL⟩ p1 p2 hpre=>by
 refine GN ?_ ?_
 ·refine Ok.loop1 ?_;rintro i1 ⟨⟩ hl2
  have:=bB p1
  have:=cW p1 i1 hl2
  refine oB (yE (aT p1 i1) bR) fun x5 _=>oW (fun _=>oR) fun g5=>?_
  have:=aD.wt_eq (aT p1 i1)
  exact oB (f9 ((aT p1 i1).aBu) p2 bR) fun x8 _=>oW (fun _=>oR) fun g7=>oB (lL ((aT p1 i1).aBu) bR) fun x11 _=>oC (fun _=>oR) fun g9=>qD
 rintro⟨⟩-
 exact oS
def LL(fu:Nat):Prop:= ∀(p0:aL),wt p0≤16777216→Ok (oA fu p0) (fun _=>True)
theorem jX:bS LL:=(((((((((bS.ge 2147483648).and bN).and c8).and f9).and lL).and t1).and HN).and lV).and n3).imp fun fu ⟨⟨⟨⟨⟨⟨⟨⟨hfu,bN⟩,c8⟩,f9⟩,lL⟩,t1⟩,HN⟩,lV⟩,n3⟩ p0 hpre=>by
 have:=aL.wt_eq p0
 refine oB (bN p0.aBz) fun x2 _=>oW (fun _=>oS) fun g2=>oB (c8 p0.aBF 3) fun x5 _=>oW (fun _=>oS) fun g4=>oB (f9 p0.aBH p0.aBF bR) fun x8 _=>oW (fun _=>oS) fun g6=>oB (lL p0.aBH bR) fun x11 _=>oC (fun _=>oS) fun g8=>?_
 have:=aA.wt_eq p0.aBH
 refine oD (fun _=>oS) fun g9=>oB (t1 p0.aBK p0.aBF bR) fun x15 _=>oW (fun _=>oS) fun g11=>?_;refine GN ?_ ?_
 ·refine Ok.loop1 ?_;rintro i17 ⟨⟩ hl13
  have:=bB p0.aBF
  have:=cW p0.aBF i17 hl13
  have:=bA (aT p0.aBF i17)
  exact oB (HN (aT p0.aBF i17) p0.aBH bR) fun x21 _=>oW (fun _=>oR) fun g16=>qD
 rintro⟨⟩-
 refine GN ?_ ?_
 ·refine oC (fun g18=>?_) fun g18=>?_
  ·exact oB (f9 p0.aBR p0.aBF bR) fun x25 _=>oW (fun _=>oL) fun g20=>oI
  exact oB (lV p0.aBR) fun x28 _=>oW (fun _=>oL) fun g22=>oI
 rintro⟨⟩-
 have:=(aX:wl ([]:LB)=0∧_)
 refine QP p0.aBW 1 (fun i30 v32 hl24 hI25 _ _=>?_) ?_
 ·have:=bB p0.aBW
  have:=cW p0.aBW i30 hl24
  refine Ok.lt fun y35 h26=>?_
  have:=congrArg wt h26
  have:=aQ.wt_eq y35
  have:=bB y35.aBF
  refine oD (fun _=>oR) fun g27=>oB (c8 y35.aBF 5) fun x39 _=>oW (fun _=>oR) fun g29=>oB (n3 y35.aBC y35.aBF bR) fun x42 _=>oW (fun _=>oR) fun g31=>?_
  have:=bB (v32)
  have:=cG y35.aBs
  have:=bA y35.aBs
  refine oG fun z32=>?_
  have:=b8 v32 ([y35.aBs]:LB)
  exact qD
 intro v32 h23
 exact oB (c8 v32 6) fun x46 _=>oS
def LJ(fu:Nat):Prop:= ∀(pf:aP),wt pf≤16777216→Ok (n9 fu pf) (fun _=>True)
theorem jW:bS LJ:=((((((bS.ge 2147483648).and f9).and bN).and c8).and t1).and n3).imp fun fu ⟨⟨⟨⟨⟨hfu,f9⟩,bN⟩,c8⟩,t1⟩,n3⟩ pf hpre=>by
 have:=(aX:wl ([]:LB)=0∧_)
 have:=aP.wt_eq pf
 refine QP pf.aBL 1 (fun i1 v3 hl2 hI3 _ _=>?_) ?_
 ·have:=bB pf.aBL
  have:=cW pf.aBL i1 hl2
  have:=aW.wt_eq (aT pf.aBL i1)
  refine oB (f9 ((aT pf.aBL i1).aBu) pf.aBF bR) fun x7 _=>oW (fun _=>oR) fun g5=>?_
  have:=bB (v3)
  have:=cG ((aT pf.aBL i1).aBs)
  have:=bA ((aT pf.aBL i1).aBs)
  refine oG fun z6=>?_
  have:=b8 v3 ([((aT pf.aBL i1).aBs)]:LB)
  exact qD
 intro v3 h1
 refine oB (bN pf.aBs) fun x11 _=>?_;refine oC (fun g8=>?_) fun g8=>?_
 ·refine oB (c8 pf.aBF 3) fun x14 _=>?_;refine oC (fun g10=>?_) fun g10=>?_
  ·refine oB (t1 pf.aBK pf.aBF bR) fun x17 _=>?_;refine oC (fun g12=>?_) fun g12=>?_
   ·refine oB (c8 v3 5) fun x20 _=>?_;refine oC (fun g14=>?_) fun g14=>?_
    ·refine oB (f9 pf.aBJ pf.aBF bR) fun x23 _=>?_;refine oC (fun g16=>?_) fun g16=>?_
     ·exact oB (n3 pf.aBC v3 bR) fun x26 _=>oS
     exact oS
    exact oS
   exact oS
  exact oS
 exact oS
end Go.Proofs.YtfcoaagbccmahaaGreat.W

namespace Go.Proofs.YtfcoaagbccmahaaGreat.W
set_option maxRecDepth 100000
set_option maxHeartbeats 40000000
noncomputable section
open Tryz Go.RowKit Go.Proofs
attribute [local irreducible] lt
def dK(fu:Nat)(px:aB)(pi:Int):Option aB:=sw (decide (pi≥(px.aBv.length:Int))) (some (aB.mk s_ [])) (gd (0≤pi∧(pi).toNat<(px.aBv).length) (some (aT px.aBv ((pi).toNat))))
theorem c5(fu:Nat)(px:aB)(pi:Int)(r:aB)(H:dK fu px pi=some r):bQ Tryz.prog 175 [(aB.pv px),pI pi] ((aB.pv r)):=by
 refine qJ func175 H (fun C hC H=>?_)
 refine gQ 2 ?_;refine q1 (fE ([pS px.aBy,bK px.aBv])) ?_;refine gQ 11 ?_;refine bF H (fun h1 H=>gE 5) fun h1 H=>?_;refine gQ 6 ?_;refine cA H fun z2 H=>(q1 (rIy z2 BK.h) (q1 (gS (aB.cs (aT px.aBv ((pi).toNat)))) ?_))
 exact gE 2
def mR(fu:Nat)(px:aB):Option ((LB)):=bd (BB fu px.aBv) fun(x2,x3)=>some x2
theorem oH(fu:Nat)(px:aB)(r:(LB))(H:mR fu px=some r):bQ Tryz.prog 216 [(aB.pv px)] (rS r):=by
 refine qJ func216 H (fun C hC H=>?_)
 refine gQ 2 ?_;refine q1 (fE ([pS px.aBy,bK px.aBv])) ?_;refine gQ 6 ?_;refine eF H fun x2 x3 z1 H=>(q1 (bI func174 (IQ fu px.aBv _ z1)) ?_)
 exact gE 11
def wN(fu:Nat)(px:aB)(pi:Int):Option ((List aB)):=bd (rL fu pi (px.aBv.length:Int)) fun x2=>gd ((0:Int)≤x2∧(x2:Int)≤(px.aBv.length:Int)∧(px.aBv.length:Int)≤(px.aBv.length:Int)) (some (List.drop (x2:Int).toNat (List.take (px.aBv.length:Int).toNat px.aBv)))
theorem B9(fu:Nat)(px:aB)(pi:Int)(r:(List aB))(H:wN fu px pi=some r):bQ Tryz.prog 217 [(aB.pv px),pI pi] (bK r):=by
 refine qJ func217 H (fun C hC H=>?_)
 refine gQ 2 ?_;refine q1 (fE ([pS px.aBy,bK px.aBv])) ?_;refine gQ 3 ?_;refine bM H fun x2 z1 H=>(cA H fun z3 H=>(dW (dI [2] bZ (dD [5] eB (dI [1] bH (dI [2] bZ (dD [8] eB (dI [9] tLn (dI [7,10] (bI func234 (r8 fu pi (px.aBv.length:Int) _ z1)) ?_)))))))))
 refine dI [6,11] (bD.congrP (bD.sliceR (es:=aB.trs (px.aBv)) (l:=x2) (k:=(px.aBv.length:Int)) rfl rfl rfl rfl rfl (by rw [aB.trs_len];exact rfl) (by rw [aB.trs_len];exact z3) BK.h) (aB.trs_part _ _ _)) ?_;refine dI [12] bH (dN ?_)
 exact gE 0
def ai2(fu:Nat)(p1:List aB):Nat→((List aA))→Option (LR ((List aA)) ((List aA))):=fun i1 v3=>bd (mV fu (aT p1 i1)) fun x7=>gd ((v3).length+(([x7]:List aA)).length≤68719476736) (some (.next (v3++([x7]:List aA))))
def JI(fu:Nat)(p1:List aB):Option ((List aA)):=so (loopN (ai2 fu p1) (p1.length-0) 0 ([])) fun v3=>some v3
theorem WT(fu:Nat)(p1:List aB)(r:(List aA))(H:JI fu p1=some r):bQ Tryz.prog 218 [bK p1] (aU r):=by
 refine qJ func218 H (fun C hC H=>?_)
 refine gQ 6 ?_;refine q1 (nU ([]:List aA)) ?_;refine gQ 7 ?_;refine fS 0 (aB.trs_len _) (fun hl4=>?_)
 refine bU (σ:=(List aA)) (fun i1 v3=>⟨[(0,bK p1),(2,.nil),(3,iE v3 0),(4,pN i1)],⟨[],[⟨30,3,aA.trs (v3),false⟩]⟩⟩) (fun v3=>⟨[(2,.nil),(3,iE v3 0)],⟨[],[⟨30,3,aA.trs (v3),false⟩]⟩⟩) (eJ H) ?_ ?_
 ·rintro i1 v3 H
  refine gQ 8 ?_;refine cT H (fun h5 h5l H=>?_) (fun h5 H=>?_)
  ·refine gQ 8 ?_;refine q1 (gS (aB.cs (aT p1 i1))) (bM H fun x7 z6 H=>(q1 (bI func219 (xV fu (aT p1 i1) _ z6)) (q1 (fY ([x7]:List aA)) (cA H fun z8 H=>(q1 (jO z8) ?_)))))
   exact gE 7
  exact gE 0
 rintro v3 H
 exact gE 5
def lI(fu:Nat)(p1:LB):Option aB:=bd (F5 fu p1) fun x2=>some (aB.mk s_ x2)
theorem mS(fu:Nat)(p1:LB)(r:aB)(H:lI fu p1=some r):bQ Tryz.prog 240 [rS p1] ((aB.pv r)):=by
 refine qJ func240 H (fun C hC H=>?_)
 refine gQ 7 ?_;refine bM H fun x2 z1 H=>(q1 (bI func254 (SS fu p1 _ z1)) ?_)
 exact gE 3
def acG(fu:Nat)(p1:List aA):Nat→((List aB))→Option (LR ((List aB)) ((List aB))):=fun i1 v3=>bd (mU fu (aT p1 i1)) fun x7=>gd ((v3).length+(([x7]:List aB)).length≤68719476736) (some (.next (v3++([x7]:List aB))))
def CA(fu:Nat)(p1:List aA):Option ((List aB)):=so (loopN (acG fu p1) (p1.length-0) 0 ([])) fun v3=>some v3
theorem O0(fu:Nat)(p1:List aA)(r:(List aB))(H:CA fu p1=some r):bQ Tryz.prog 241 [aU p1] (bK r):=by
 refine qJ func241 H (fun C hC H=>?_)
 refine gQ 6 ?_;refine q1 (nU ([]:List aB)) ?_;refine gQ 7 ?_;refine fS 0 (aA.trs_len _) (fun hl4=>?_)
 refine bU (σ:=(List aB)) (fun i1 v3=>⟨[(0,aU p1),(2,.nil),(3,eD v3 0),(4,pN i1)],⟨[],[⟨189,2,aB.trs (v3),false⟩]⟩⟩) (fun v3=>⟨[(2,.nil),(3,eD v3 0)],⟨[],[⟨189,2,aB.trs (v3),false⟩]⟩⟩) (eJ H) ?_ ?_
 ·rintro i1 v3 H
  refine gQ 8 ?_;refine cT H (fun h5 h5l H=>?_) (fun h5 H=>?_)
  ·refine gQ 8 ?_;refine q1 (gS (aA.cs (aT p1 i1))) (bM H fun x7 z6 H=>(q1 (bI func242 (xU fu (aT p1 i1) _ z6)) (q1 (fY ([x7]:List aB)) (cA H fun z8 H=>(q1 (jO z8) ?_)))))
   exact gE 7
  exact gE 0
 rintro v3 H
 exact gE 5
def EH(fu:Nat)(p2:Bool)(px:aB):Option aB:=sw (!(p2)) (some (aB.mk s_ [])) (bd (iC fu px) fun x3=>sw (!(x3)) (some (aB.mk s_ [])) (some px))
theorem JH(fu:Nat)(p2:Bool)(px:aB)(r:aB)(H:EH fu p2 px=some r):bQ Tryz.prog 244 [pB p2,(aB.pv px)] ((aB.pv r)):=by
 refine qJ func244 H (fun C hC H=>?_)
 refine gQ 2 ?_;refine q1 (fE ([pS px.aBy,bK px.aBv])) ?_;refine gQ 8 ?_;refine dL 7 H (fun g1 H=>gE 11) fun g1 H=>?_;refine qg g1 (b6 [pS px.aBy,bK px.aBv]) (bM H fun x3 z2 H=>(qg g1 (bI func173 (c9 fu px _ z2)) ?_))
 refine gQ 3 ?_;refine bF H (fun h4 H=>gE 5) fun h4 H=>?_;refine gQ 3 ?_;refine q1 (b6 [pS px.aBy,bK px.aBv]) ?_;exact gE 2
def RB(fu:Nat)(p0:aV)(x2:Bool):Option (aB⊕((LB))):=sw (p0.aB1) (gd (([]:LB).length+(([A4]:LB)).length≤68719476736) (some (.inr (([])++([A4]:LB))))) (some (.inr ([])))
def RC(fu:Nat)(p0:aV)(x2:Bool)(v5:LB):Option (aB⊕((LB))):=sw (p0.aBR) (gd ((v5).length+(([jF]:LB)).length≤68719476736) (some (.inr (v5++([jF]:LB))))) (some (.inr v5))
def RD(fu:Nat)(p0:aV)(x2:Bool)(v5 v9:LB)(x13 x15 x17 x19 x21:aB):Nat→((List aB))→Option (LR ((List aB)) aB):=fun i22 v24=>lt (aT p0.aBP i22) fun y27=>bd (cF fu y27.aBs) fun x30=>bd (CA fu y27.aBL) fun x32=>bd (mU fu y27.aBJ) fun x34=>bd (mC fu ([x30,(aB.mk s_ x32),x34]:List aB)) fun x36=>sw (y27.aB3) (bd (lI fu y27.aBF) fun x39=>bd (mQ fu y27.aBC) fun x41=>gd ((x36.aBv).length+(([x39,x41]:List aB)).length≤68719476736) (gd ((v24).length+(([(aB.mk x36.aBy (x36.aBv++([x39,x41]:List aB)))]:List aB)).length≤68719476736) (some (.next (v24++([(aB.mk x36.aBy (x36.aBv++([x39,x41]:List aB)))]:List aB)))))) (gd ((v24).length+(([(aB.mk x36.aBy x36.aBv)]:List aB)).length≤68719476736) (some (.next (v24++([(aB.mk x36.aBy x36.aBv)]:List aB)))))
def yQ(fu:Nat)(p0:aV):Option aB:=bd (tB fu p0) fun x2=>sw (!(x2)) (some (aB.mk s_ [])) (so (RB fu p0 x2) fun v5=>so (RC fu p0 x2 v5) fun v9=>bd (cF fu JF) fun x13=>bd (cF fu p0.aBs) fun x15=>bd (lI fu p0.aBB) fun x17=>bd (lI fu v9) fun x19=>bd (mC fu ([x13,x15,x17,x19]:List aB)) fun x21=>so (loopN (RD fu p0 x2 v5 v9 x13 x15 x17 x19 x21) (p0.aBP.length-0) 0 x21.aBv) fun v24=>bd (EH fu true (aB.mk x21.aBy v24)) fun x46=>some x46)
theorem RE(fu:Nat)(p0:aV)(r:aB)(H:yQ fu p0=some r):bQ Tryz.prog 222 [(aV.pv p0)] ((aB.pv r)):=by
 refine qJ func222 H (fun C hC H=>?_)
 refine gQ 2 ?_;refine q1 (fE (sJ p0)) ?_;refine gQ 5 ?_;refine q1 (b6 [pS p0.aBs,rS p0.aBB,pB p0.aB1,pB p0.aBR,gC p0.aBP]) (bM H fun x2 z1 H=>(q1 (bI func229 (EF fu p0 _ z1)) ?_))
 refine gQ 2 ?_;refine bF H (fun h3 H=>gE 5) fun h3 H=>?_;refine gQ 3 ?_;refine q1 (nU ([]:LB)) ?_;refine gQ 3 ?_;refine nW (σ:=(LB)) (fun v5=>⟨[(1,.ptr 0 0),(2,.ptr 1 0),(3,aS v5 0)],⟨[some ⟨156,sJ p0⟩,some ⟨189,[pS s_,.nil]⟩],[⟨9,1,aY (v5),false⟩]⟩⟩) (eJ H) (fun H=>?_) ?_
 ·refine gQ 5 ?_;refine bF H (fun h6 H=>?_) (fun h6 H=>?_)
  ·refine gQ 2 ?_;refine q1 (fY ([A4]:LB)) (cA H fun z7 H=>(q1 (jO z7) ?_))
   exact gE 2
  exact gE 1
 rintro v5 H
 refine qS ?_;refine nW (σ:=(LB)) (fun v9=>⟨[(1,.ptr 0 0),(2,.ptr 1 0),(3,aS v9 0)],⟨[some ⟨156,sJ p0⟩,some ⟨189,[pS s_,.nil]⟩],[⟨9,1,aY (v9),false⟩]⟩⟩) (eJ H) (fun H=>?_) ?_
 ·refine gQ 5 ?_;refine bF H (fun h10 H=>?_) (fun h10 H=>?_)
  ·refine gQ 2 ?_;refine q1 (fY ([jF]:LB)) (cA H fun z11 H=>(q1 (jO z11) ?_))
   exact gE 2
  exact gE 1
 rintro v9 H
 refine qS (bM H fun x13 z12 H=>(bM H fun x15 z14 H=>(bM H fun x17 z16 H=>(bM H fun x19 z18 H=>(bM H fun x21 z20 H=>(dWa (dI [] (bI func239 (b7 fu JF _ z12)) (dI [1] bZ (XL [24] 0 0 sM (dI [25] (bI func239 (b7 fu p0.aBs _ z14)) (dI [1] bZ (XL [27] 0 0 sM (dI [28] (bI func240 (mS fu p0.aBB _ z16)) ?_)))))))))))))
 refine dI [3] bH (dI [30] (bI func240 (mS fu v9 _ z18)) (dI [23,26,29,31] (fY ([x13,x15,x17,x19]:List aB)) ?_))
 refine dEz [32] (fun _ z=>by cases z<;>exact bD.callOwn (pre:=⟨[],[]⟩) (B:= []) (R:=fun k=> .agg [pS x21.aBy,eD x21.aBv k]) (ps:= [_]) (qs:= [bK ([x13,x15,x17,x19]:List aB)]) [] rfl rfl func238 (by kernel_rfl) rfl rfl rfl (eH.of trivial trivial (by decide) (by decide)) rfl iX rfl rfl rfl (fun k k'=>(.agg (.cons (.free _ rfl) (.cons Mv.acc GB.nil)))) (m6 fu ([x13,x15,x17,x19]:List aB) _ z20)) ?_;refine dA (fun _ st h=>vAl h aaJ.h) (dZ 4 [4,33] hM (dN ?_))
 refine gQ 5 ?_;refine cO.fact (cK 0 4 rfl rfl rfl (aG.trs_len _)) (fun hl25=>?_)
 refine bU (σ:=(List aB)) (fun i22 v24=>⟨[(1,.ptr 0 0),(2,.ptr 1 0),(4,.ptr 2 0),(5,pN i22)],⟨[some ⟨156,sJ p0⟩,some ⟨189,[pS s_,.nil]⟩,some ⟨189,[pS x21.aBy,eD v24 1]⟩],[⟨9,1,aY (v9),false⟩,⟨189,2,aB.trs (v24),false⟩]⟩⟩) (fun v24=>⟨[(2,.ptr 1 0),(4,.ptr 2 0)],⟨[some ⟨156,sJ p0⟩,some ⟨189,[pS s_,.nil]⟩,some ⟨189,[pS x21.aBy,eD v24 1]⟩],[⟨9,1,aY (v9),false⟩,⟨189,2,aB.trs (v24),false⟩]⟩⟩) (eJ H) ?_ ?_
 ·rintro i22 v24 H
  refine gQ 9 ?_;refine cT H (fun h26 h26l H=>?_) (fun h26 H=>?_)
  ·refine gQ 8 ?_;refine fZ H fun y27 h28 H=>(q1 (xW h28 h26l) (q1 (gS (aG.cs y27)) ?_))
   refine gQ 4 ?_;refine bM H fun x30 z29 H=>(bM H fun x32 z31 H=>(bM H fun x34 z33 H=>(bM H fun x36 z35 H=>(dWa (dI [6] bZ (XL [46] 0 0 sM (dI [47] (bI func239 (b7 fu y27.aBs _ z29)) (dI [6] bZ (XL [49] 0 0 sM (dI [50] (bI func241 (O0 fu y27.aBL _ z31)) (dI [51] oP (dI [6] bZ (XL [53] 0 0 (zN [pI y27.aBJ.aBw,pS y27.aBJ.aBs,aU y27.aBJ.aBt]) ?_)))))))))))))
   refine dI [54] (bI func242 (xU fu y27.aBJ _ z33)) (dI [48,52,55] (fY ([x30,(aB.mk s_ x32),x34]:List aB)) ?_)
   refine dEz [56] (fun _ z=>by cases z<;>exact bD.callOwn (pre:=⟨[],[]⟩) (B:= []) (R:=fun k=> .agg [pS x36.aBy,eD x36.aBv k]) (ps:= [_]) (qs:= [bK ([x30,(aB.mk s_ x32),x34]:List aB)]) [] rfl rfl func238 (by kernel_rfl) rfl rfl rfl (eH.of trivial trivial (by decide) (by decide)) rfl iX rfl rfl rfl (fun k k'=>(.agg (.cons (.free _ rfl) (.cons Mv.acc GB.nil)))) (m6 fu ([x30,(aB.mk s_ x32),x34]:List aB) _ z35)) ?_;refine dA (fun _ st h=>vAl h aaJ.h) (dZ 7 [7,57] hM (dN ?_))
   refine gQ 6 ?_;refine bF H (fun h37 H=>?_) (fun h37 H=>?_)
   ·refine bM H fun x39 z38 H=>(bM H fun x41 z40 H=>(cA H fun z42 H=>(dW (dI [7] bZ (dD [60] eB (dI [6] bZ (dD [62] eB (dI [63] (bI func240 (mS fu y27.aBF _ z38)) (dI [6] bZ (dD [65] (b6 [pI y27.aBC.aBw,pS y27.aBC.aBz,pS y27.aBC.aBs,pI y27.aBC.aCa,pI y27.aBC.aBu.aBw,pS y27.aBC.aBu.aBs,aU y27.aBC.aBu.aBt,iI y27.aBC.aBt,rV y27.aBC.aBN]) (dI [66] (bI func243 (RK fu y27.aBC _ z40)) (dI [64,67] (fY ([x39,x41]:List aB)) (dE [61,68] (jO z42) ?_)))))))))))))
    refine dI [7] bZ (iY [70,69] hM (dN ?_))
    refine gQ 3 ?_;refine q1 (b6 [pS x36.aBy,eD (x36.aBv++([x39,x41]:List aB)) 2]) (q1 (fY ([(aB.mk x36.aBy (x36.aBv++([x39,x41]:List aB)))]:List aB)) (cA H fun z43 H=>(q1 (jO z43) ?_)))
    exact gE 8
   refine gQ 4 ?_;refine q1 (b6 [pS x36.aBy,eD x36.aBv 2]) (q1 (fY ([(aB.mk x36.aBy x36.aBv)]:List aB)) (cA H fun z44 H=>(q1 (jO z44) ?_)))
   exact gE 8
  exact gE 0
 rintro v24 H
 refine gQ 2 ?_;refine q1 (b6 [pS x21.aBy,eD v24 1]) (bM H fun x46 z45 H=>(q1 (bI func244 (JH fu true (aB.mk x21.aBy v24) _ z45)) ?_))
 exact gE 2
def Q8(fu:Nat)(p0 x2:aB)(x4:LB)(x6 x8:aB)(x10:LB)(x12 x14:Bool)(x16:List aB):Nat→((List aG))→Option (LR ((List aG)) (aV×Bool)):=fun i17 v19=>bd (dK fu (aT x16 i17) 0) fun x23=>bd (dK fu (aT x16 i17) 1) fun x25=>bd (JI fu x25.aBv) fun x27=>bd (dK fu (aT x16 i17) 2) fun x29=>bd (mV fu x29) fun x31=>sw (decide ((((((aT x16 i17).aBv).length:Nat):Int):Int)>3)) (bd (dK fu (aT x16 i17) 3) fun x34=>bd (mR fu x34) fun x36=>bd (dK fu (aT x16 i17) 4) fun x38=>bd (gU fu x38) fun x40=>gd ((v19).length+(([(aG.mk x23.aBy x27 x31 true x36 x40)]:List aG)).length≤68719476736) (some (.next (v19++([(aG.mk x23.aBy x27 x31 true x36 x40)]:List aG))))) (gd ((v19).length+(([(aG.mk x23.aBy x27 x31 false [] (aM.mk 0 s_ s_ 0 (aA.mk 0 s_ []) [] []))]:List aG)).length≤68719476736) (some (.next (v19++([(aG.mk x23.aBy x27 x31 false [] (aM.mk 0 s_ s_ 0 (aA.mk 0 s_ []) [] []))]:List aG)))))
def yP(fu:Nat)(p0:aB):Option (aV×Bool):=bd (dK fu p0 3) fun x2=>bd (mR fu x2) fun x4=>bd (dK fu p0 1) fun x6=>bd (dK fu p0 2) fun x8=>bd (mR fu x8) fun x10=>bd (lC fu x4 A4) fun x12=>bd (lC fu x4 jF) fun x14=>bd (wN fu p0 4) fun x16=>so (loopN (Q8 fu p0 x2 x4 x6 x8 x10 x12 x14 x16) (x16.length-0) 0 ([])) fun v19=>bd (iC fu p0) fun x44=>sw (!(x44)) (some ((aV.mk s_ [] false false []),false)) (sw (decide ((p0.aBv.length:Int)=0)) (some ((aV.mk s_ [] false false []),false)) (bd (yQ fu (aV.mk x6.aBy x10 x12 x14 v19)) fun x48=>bd (fO fu x48 p0) fun x50=>sw (!(x50)) (some ((aV.mk s_ [] false false []),false)) (some ((aV.mk x6.aBy x10 x12 x14 v19),true))))
theorem Q9(fu:Nat)(p0:aB)(r:aV×Bool)(H:yP fu p0=some r):bQ Tryz.prog 200 [(aB.pv p0)] (.tup [(aV.pv r.1),pB r.2]):=by
 refine qJ func200 H (fun C hC H=>?_)
 refine gQ 2 ?_;refine q1 (fE ([pS p0.aBy,bK p0.aBv])) ?_;refine gQ 5 ?_;refine q1 (b6 [pS p0.aBy,bK p0.aBv]) (bM H fun x2 z1 H=>(q1 (bI func175 (c5 fu p0 3 _ z1)) (bM H fun x4 z3 H=>(q1 (bI func216 (oH fu x2 _ z3)) ?_))))
 refine gQ 3 ?_;refine bM H fun x6 z5 H=>(bM H fun x8 z7 H=>(bM H fun x10 z9 H=>(bM H fun x12 z11 H=>(bM H fun x14 z13 H=>(dW (dB [1] 0 1 (zN [pS p0.aBy,bK p0.aBv]) (dI [12] (bI func175 (c5 fu p0 1 _ z5)) (dI [13] tF1 (dB [1] 0 1 (zN [pS p0.aBy,bK p0.aBv]) (dI [15] (bI func175 (c5 fu p0 2 _ z7)) (dI [16] (bI func216 (oH fu x8 _ z9)) (dI [4] bH (dI [18] (bI func153 (mB fu x4 A4 _ z11)) ?_)))))))))))))
 refine dI [4] bH (dI [20] (bI func153 (mB fu x4 jF _ z13)) (dI [14,17,19,21] oP (dE [] tAl (iY [5,22] hM (dN ?_)))))
 refine gQ 2 ?_;refine q1 (b6 [pS p0.aBy,bK p0.aBv]) (bM H fun x16 z15 H=>(q1 (bI func217 (B9 fu p0 4 _ z15)) ?_))
 refine gQ 7 ?_;refine cO.wk (Wk.regBox (k:=2) (j:=4) 237 16 (by decide) rfl rfl) ?_;refine fS 6 (aB.trs_len _) (fun hl20=>?_)
 refine bU (σ:=(List aG)) (fun i17 v19=>⟨[(1,.ptr 0 0),(2,.ptr 1 0),(3,pB false),(5,.ptr 2 0),(6,bK x16),(7,pN i17)],⟨[some ⟨189,[pS p0.aBy,bK p0.aBv]⟩,some ⟨156,[pS s_,.nil,pB false,pB false,.nil]⟩,some ⟨156,[pS x6.aBy,rS x10,pB x12,pB x14,lS v19 0]⟩],[⟨237,16,aG.trs (v19),false⟩]⟩⟩) (fun v19=>⟨[(1,.ptr 0 0),(2,.ptr 1 0),(3,pB false),(5,.ptr 2 0)],⟨[some ⟨189,[pS p0.aBy,bK p0.aBv]⟩,some ⟨156,[pS s_,.nil,pB false,pB false,.nil]⟩,some ⟨156,[pS x6.aBy,rS x10,pB x12,pB x14,lS v19 0]⟩],[⟨237,16,aG.trs (v19),false⟩]⟩⟩) (eJ H) ?_ ?_
 ·rintro i17 v19 H
  refine gQ 8 ?_;refine cT H (fun h21 h21l H=>?_) (fun h21 H=>?_)
  ·refine gQ 4 ?_;refine bM H fun x23 z22 H=>(bM H fun x25 z24 H=>(bM H fun x27 z26 H=>(bM H fun x29 z28 H=>(bM H fun x31 z30 H=>(dW (dI [6] bH (dI [7] bH (dI [31,32] m9 (dI [33] (gS (aB.cs (aT x16 i17))) (dI [34] (bI func175 (c5 fu (aT x16 i17) 0 _ z22)) (dI [35] tF1 (dI [6] bH (dI [7] bH ?_)))))))))))))
   refine dI [37,38] m9 (dI [39] (gS (aB.cs (aT x16 i17))) (dI [40] (bI func175 (c5 fu (aT x16 i17) 1 _ z24)) (dI [41] tF1 (dI [42] (bI func218 (WT fu x25.aBv _ z26)) (dI [6] bH (dI [7] bH (dI [44,45] m9 (dI [46] (gS (aB.cs (aT x16 i17))) (dI [47] (bI func175 (c5 fu (aT x16 i17) 2 _ z28)) (dI [48] (bI func219 (xV fu x29 _ z30)) (dI [36,43,49] oP (dE [] tAl (iY [8,50] hM ?_)))))))))))))
   refine dN ?_;refine gQ 11 ?_;refine bF H (fun h32 H=>?_) (fun h32 H=>?_)
   ·refine gQ 10 ?_;refine q1 (gS (aB.cs (aT x16 i17))) (bM H fun x34 z33 H=>(q1 (bI func175 (c5 fu (aT x16 i17) 3 _ z33)) (bM H fun x36 z35 H=>(q1 (bI func216 (oH fu x34 _ z35)) ?_))))
    refine gQ 7 ?_;refine q1 (gS (aB.cs (aT x16 i17))) (bM H fun x38 z37 H=>(q1 (bI func175 (c5 fu (aT x16 i17) 4 _ z37)) (bM H fun x40 z39 H=>(q1 (bI func220 (IC fu x38 _ z39)) ?_))))
    refine gQ 6 ?_;refine q1 (b6 [pS x23.aBy,aU x27,pI x31.aBw,pS x31.aBs,aU x31.aBt,pB true,rS x36,pI x40.aBw,pS x40.aBz,pS x40.aBs,pI x40.aCa,pI x40.aBu.aBw,pS x40.aBu.aBs,aU x40.aBu.aBt,iI x40.aBt,rV x40.aBN]) (q1 (fY ([(aG.mk x23.aBy x27 x31 true x36 x40)]:List aG)) (cA H fun z41 H=>(q1 (jO z41) ?_)))
    exact gE 8
   refine gQ 4 ?_;refine q1 (b6 [pS x23.aBy,aU x27,pI x31.aBw,pS x31.aBs,aU x31.aBt,pB false,.nil,pI 0,pS s_,pS s_,pI 0,pI 0,pS s_,.nil,.nil,.nil]) (q1 (fY ([(aG.mk x23.aBy x27 x31 false [] (aM.mk 0 s_ s_ 0 (aA.mk 0 s_ []) [] []))]:List aG)) (cA H fun z42 H=>(q1 (jO z42) ?_)))
   exact gE 8
  exact gE 0
 rintro v19 H
 refine gQ 2 ?_;refine bM H fun x44 z43 H=>?_
 rcases nS (!(x44)) with g45|g45
 ·have H:=sE H g45
  refine dW (dD [1] (b6 [pS p0.aBy,bK p0.aBv]) (dI [79] (bI func173 (c9 fu p0 _ z43)) (dI [80] J6 (dI [81] bH ?_))))
  iterate 4 refine NB g45 ?_
  refine dI [82] (C3 g45) (dI [87] bH ?_)
  iterate 5 refine NB rfl ?_
  refine dI [88] (C3 rfl) (dN ?_)
  exact gE 7
 have H:=sD H g45
 rcases nS (decide ((p0.aBv.length:Int)=0)) with g46|g46
 ·have H:=sE H g46
  refine dW (dD [1] (b6 [pS p0.aBy,bK p0.aBv]) (dI [79] (bI func173 (c9 fu p0 _ z43)) (dI [80] J6 (dI [81] bH (dI (hg:=bG g45) [1] bZ (dD (hg:=bG g45) [83] eB (dI (hg:=bG g45) [84] tLn (dI (hg:=bG g45) [85] rEq (dI [82,86] (FG g45) (dI [87] bH ?_))))))))))
  iterate 5 refine NB g46 ?_
  refine dI [88] (C3 g46) (dN ?_)
  exact gE 7
 have H:=sD H g46
 refine bM H fun x48 z47 H=>(bM H fun x50 z49 H=>(dW (dD [1] (b6 [pS p0.aBy,bK p0.aBv]) (dI [79] (bI func173 (c9 fu p0 _ z43)) (dI [80] J6 (dI [81] bH (dI (hg:=bG g45) [1] bZ (dD (hg:=bG g45) [83] eB (dI (hg:=bG g45) [84] tLn (dI (hg:=bG g45) [85] rEq (dI [82,86] (FG g45) (dI [87] bH (dD (hg:=bG g46) [5] (b6 [pS x6.aBy,rS x10,pB x12,pB x14,lS v19 0]) ?_)))))))))))))
 refine dI (hg:=bG g46) [89] (bI func222 (RE fu (aV.mk x6.aBy x10 x12 x14 v19) _ z47)) (dD (hg:=bG g46) [1] (b6 [pS p0.aBy,bK p0.aBv]) (dI (hg:=bG g46) [90,91] (bI func221 (uZ fu x48 p0 _ z49)) (dI (hg:=bG g46) [92] J6 (dI [88,93] (FG g46) (dN ?_)))))
 refine bF H (fun h51 H=>gE 6) fun h51 H=>?_;refine gQ 3 ?_;refine q1 (b6 [pS x6.aBy,rS x10,pB x12,pB x14,lS v19 0]) ?_;exact gE 3
def J7(fu:Nat)(pd:aO)(x2 x4 x6 x8:aB):Nat→((List aB))→Option (LR ((List aB)) aB):=fun i9 v11=>bd (cF fu ((aT pd.aBx i9).aBs)) fun x15=>bd (CA fu ((aT pd.aBx i9).aBM)) fun x17=>gd ((([x15]:List aB)).length+x17.length≤68719476736) (gd ((v11).length+(([(aB.mk s_ (([x15]:List aB)++x17))]:List aB)).length≤68719476736) (some (.next (v11++([(aB.mk s_ (([x15]:List aB)++x17))]:List aB)))))
def tK(fu:Nat)(pd:aO):Option aB:=bd (cF fu RG) fun x2=>bd (cF fu pd.aBs) fun x4=>bd (lI fu pd.aBF) fun x6=>bd (mC fu ([x2,x4,x6]:List aB)) fun x8=>so (loopN (J7 fu pd x2 x4 x6 x8) (pd.aBx.length-0) 0 x8.aBv) fun v11=>bd (n8 fu pd) fun x21=>bd (EH fu x21 (aB.mk x8.aBy v11)) fun x23=>some x23
theorem J8(fu:Nat)(pd:aO)(r:aB)(H:tK fu pd=some r):bQ Tryz.prog 223 [(aO.pv pd)] ((aB.pv r)):=by
 refine qJ func223 H (fun C hC H=>?_)
 refine gQ 2 ?_;refine q1 (fE (jJ pd)) ?_;refine gQ 3 ?_;refine bM H fun x2 z1 H=>(bM H fun x4 z3 H=>(bM H fun x6 z5 H=>(bM H fun x8 z7 H=>(dWa (dI [] (bI func239 (b7 fu RG _ z1)) (dI [1] bZ (XL [6] 0 0 sM (dI [7] (bI func239 (b7 fu pd.aBs _ z3)) (dI [1] bZ (XL [9] 0 0 sM (dI [10] (bI func240 (mS fu pd.aBF _ z5)) (dI [5,8,11] (fY ([x2,x4,x6]:List aB)) ?_))))))))))))
 refine dEz [12] (fun _ z=>by cases z<;>exact bD.callOwn (pre:=⟨[],[]⟩) (B:= []) (R:=fun k=> .agg [pS x8.aBy,eD x8.aBv k]) (ps:= [_]) (qs:= [bK ([x2,x4,x6]:List aB)]) [] rfl rfl func238 (by kernel_rfl) rfl rfl rfl (eH.of trivial trivial (by decide) (by decide)) rfl iX rfl rfl rfl (fun k k'=>(.agg (.cons (.free _ rfl) (.cons Mv.acc GB.nil)))) (m6 fu ([x2,x4,x6]:List aB) _ z7)) ?_;refine dA (fun _ st h=>vAl h aaJ.h) (dZ 3 [3,13] hM (dN ?_))
 refine gQ 5 ?_;refine cO.fact (cK 0 2 rfl rfl rfl (aE.trs_len _)) (fun hl12=>?_)
 refine bU (σ:=(List aB)) (fun i9 v11=>⟨[(1,.ptr 0 0),(2,.ptr 1 0),(3,.ptr 2 0),(4,pN i9)],⟨[some ⟨39,jJ pd⟩,some ⟨189,[pS s_,.nil]⟩,some ⟨189,[pS x8.aBy,eD v11 0]⟩],[⟨189,2,aB.trs (v11),false⟩]⟩⟩) (fun v11=>⟨[(1,.ptr 0 0),(2,.ptr 1 0),(3,.ptr 2 0)],⟨[some ⟨39,jJ pd⟩,some ⟨189,[pS s_,.nil]⟩,some ⟨189,[pS x8.aBy,eD v11 0]⟩],[⟨189,2,aB.trs (v11),false⟩]⟩⟩) (eJ H) ?_ ?_
 ·rintro i9 v11 H
  refine gQ 9 ?_;refine cT H (fun h13 h13l H=>?_) (fun h13 H=>?_)
  ·refine gQ 3 ?_;refine bM H fun x15 z14 H=>(bM H fun x17 z16 H=>(cA H fun z18 H=>(cA H fun z19 H=>(dW (dI [3] bZ (dB [21] 0 2 sM (dI [1] bZ (dD [23] eB (dI [4] bH (dI [24,25] m9 (dI [26] wX (dI [27] vE (dI [28] (bI func239 (b7 fu ((aT pd.aBx i9).aBs) _ z14)) ?_)))))))))))))
   refine dE [29] (nU ([x15]:List aB)) (dI [1] bZ (dB [31] 0 1 sM (dI [4] bH (dI [32,33] m9 (dI [34] wX (dI [35] vE (dI [36] (bI func241 (O0 fu ((aT pd.aBx i9).aBM) _ z16)) (dE [30,37] (jO z18) (dI [38] oP (dI [39] (fY ([(aB.mk s_ (([x15]:List aB)++x17))]:List aB)) (dE [22,40] (jO z19) (dI [3] bZ (iY [42,41] hM ?_)))))))))))))
   refine dN ?_;exact gE 5
  exact gE 0
 rintro v11 H
 refine qS (bM H fun x21 z20 H=>(bM H fun x23 z22 H=>(dW (dD [1] (b6 [pS pd.aBs,rS pd.aBF,dF pd.aBx]) (dI [43] (bI func230 (yX fu pd _ z20)) (dD [3] (b6 [pS x8.aBy,eD v11 0]) (dI [44,45] (bI func244 (JH fu x21 (aB.mk x8.aBy v11) _ z22)) (iY [2,46] hM (dN ?_)))))))))
 exact gE 0
def KM(fu:Nat)(px x2 x4:aB)(x6:LB)(x8:List aB):Nat→((List aE))→Option (LR ((List aE)) (aO×Bool)):=fun i9 v11=>bd (dK fu (aT x8 i9) 0) fun x15=>bd (wN fu (aT x8 i9) 1) fun x17=>bd (JI fu x17) fun x19=>gd ((v11).length+(([(aE.mk x15.aBy x19)]:List aE)).length≤68719476736) (some (.next (v11++([(aE.mk x15.aBy x19)]:List aE))))
def tO(fu:Nat)(px:aB):Option (aO×Bool):=bd (dK fu px 1) fun x2=>bd (dK fu px 2) fun x4=>bd (mR fu x4) fun x6=>bd (wN fu px 3) fun x8=>so (loopN (KM fu px x2 x4 x6 x8) (x8.length-0) 0 ([])) fun v11=>bd (iC fu px) fun x22=>sw (!(x22)) (some ((aO.mk s_ [] []),false)) (sw (decide ((px.aBv.length:Int)=0)) (some ((aO.mk s_ [] []),false)) (bd (tK fu (aO.mk x2.aBy x6 v11)) fun x26=>bd (fO fu x26 px) fun x28=>sw (!(x28)) (some ((aO.mk s_ [] []),false)) (some ((aO.mk x2.aBy x6 v11),true))))
theorem KN(fu:Nat)(px:aB)(r:aO×Bool)(H:tO fu px=some r):bQ Tryz.prog 201 [(aB.pv px)] (.tup [(aO.pv r.1),pB r.2]):=by
 refine qJ func201 H (fun C hC H=>?_)
 refine gQ 2 ?_;refine q1 (fE ([pS px.aBy,bK px.aBv])) ?_;refine gQ 4 ?_;refine bM H fun x2 z1 H=>(bM H fun x4 z3 H=>(bM H fun x6 z5 H=>(dW (dB [1] 0 1 (zN [pS px.aBy,bK px.aBv]) (dI [7] (bI func175 (c5 fu px 1 _ z1)) (dI [8] tF1 (dB [1] 0 1 (zN [pS px.aBy,bK px.aBv]) (dI [10] (bI func175 (c5 fu px 2 _ z3)) (dI [11] (bI func216 (oH fu x4 _ z5)) (dI [9,12] oP (dE [] tAl (iY [4,13] hM (dN ?_)))))))))))))
 refine gQ 2 ?_;refine q1 (b6 [pS px.aBy,bK px.aBv]) (bM H fun x8 z7 H=>(q1 (bI func217 (B9 fu px 3 _ z7)) ?_))
 refine gQ 7 ?_;refine cO.wk (Wk.regBox (k:=2) (j:=2) 46 2 (by decide) rfl rfl) ?_;refine fS 5 (aB.trs_len _) (fun hl12=>?_)
 refine bU (σ:=(List aE)) (fun i9 v11=>⟨[(1,.ptr 0 0),(2,.ptr 1 0),(3,pB false),(4,.ptr 2 0),(5,bK x8),(6,pN i9)],⟨[some ⟨189,[pS px.aBy,bK px.aBv]⟩,some ⟨39,[pS s_,.nil,.nil]⟩,some ⟨39,[pS x2.aBy,rS x6,zA v11 0]⟩],[⟨46,2,aE.trs (v11),false⟩]⟩⟩) (fun v11=>⟨[(1,.ptr 0 0),(2,.ptr 1 0),(3,pB false),(4,.ptr 2 0)],⟨[some ⟨189,[pS px.aBy,bK px.aBv]⟩,some ⟨39,[pS s_,.nil,.nil]⟩,some ⟨39,[pS x2.aBy,rS x6,zA v11 0]⟩],[⟨46,2,aE.trs (v11),false⟩]⟩⟩) (eJ H) ?_ ?_
 ·rintro i9 v11 H
  refine gQ 8 ?_;refine cT H (fun h13 h13l H=>?_) (fun h13 H=>?_)
  ·refine gQ 3 ?_;refine bM H fun x15 z14 H=>(bM H fun x17 z16 H=>(bM H fun x19 z18 H=>(cA H fun z20 H=>(dW (dI [4] bZ (dD [22] eB (dI [5] bH (dI [6] bH (dI [24,25] m9 (dI [26] (gS (aB.cs (aT x8 i9))) (dI [27] (bI func175 (c5 fu (aT x8 i9) 0 _ z14)) (dI [28] tF1 (dI [5] bH ?_)))))))))))))
   refine dI [6] bH (dI [30,31] m9 (dI [32] (gS (aB.cs (aT x8 i9))) (dI [33] (bI func217 (B9 fu (aT x8 i9) 1 _ z16)) (dI [34] (bI func218 (WT fu x17 _ z18)) (dI [29,35] oP (dI [36] (fY ([(aE.mk x15.aBy x19)]:List aE)) (dE [23,37] (jO z20) (dI [4] bZ (iY [39,38] hM (dN ?_))))))))))
   exact gE 5
  exact gE 0
 rintro v11 H
 refine gQ 2 ?_;refine bM H fun x22 z21 H=>?_
 rcases nS (!(x22)) with g23|g23
 ·have H:=sE H g23
  refine dW (dD [1] (b6 [pS px.aBy,bK px.aBv]) (dI [40] (bI func173 (c9 fu px _ z21)) (dI [41] J6 (dI [42] bH ?_))))
  iterate 4 refine NB g23 ?_
  refine dI [43] (C3 g23) (dI [48] bH ?_)
  iterate 5 refine NB rfl ?_
  refine dI [49] (C3 rfl) (dN ?_)
  exact gE 7
 have H:=sD H g23
 rcases nS (decide ((px.aBv.length:Int)=0)) with g24|g24
 ·have H:=sE H g24
  refine dW (dD [1] (b6 [pS px.aBy,bK px.aBv]) (dI [40] (bI func173 (c9 fu px _ z21)) (dI [41] J6 (dI [42] bH (dI (hg:=bG g23) [1] bZ (dD (hg:=bG g23) [44] eB (dI (hg:=bG g23) [45] tLn (dI (hg:=bG g23) [46] rEq (dI [43,47] (FG g23) (dI [48] bH ?_))))))))))
  iterate 5 refine NB g24 ?_
  refine dI [49] (C3 g24) (dN ?_)
  exact gE 7
 have H:=sD H g24
 refine bM H fun x26 z25 H=>(bM H fun x28 z27 H=>(dW (dD [1] (b6 [pS px.aBy,bK px.aBv]) (dI [40] (bI func173 (c9 fu px _ z21)) (dI [41] J6 (dI [42] bH (dI (hg:=bG g23) [1] bZ (dD (hg:=bG g23) [44] eB (dI (hg:=bG g23) [45] tLn (dI (hg:=bG g23) [46] rEq (dI [43,47] (FG g23) (dI [48] bH (dD (hg:=bG g24) [4] (b6 [pS x2.aBy,rS x6,zA v11 0]) ?_)))))))))))))
 refine dI (hg:=bG g24) [50] (bI func223 (J8 fu (aO.mk x2.aBy x6 v11) _ z25)) (dD (hg:=bG g24) [1] (b6 [pS px.aBy,bK px.aBv]) (dI (hg:=bG g24) [51,52] (bI func221 (uZ fu x26 px _ z27)) (dI (hg:=bG g24) [53] J6 (dI [49,54] (FG g24) (dN ?_)))))
 refine bF H (fun h29 H=>gE 6) fun h29 H=>?_;refine gQ 3 ?_;refine q1 (b6 [pS x2.aBy,rS x6,zA v11 0]) ?_;exact gE 3
def YT(fu:Nat)(px:aB):Nat→((List aD))→Option (LR ((List aD)) ((List aD))):=fun i1 v3=>bd (dK fu (aT px.aBv i1) 0) fun x7=>bd (dK fu (aT px.aBv i1) 1) fun x9=>bd (mV fu x9) fun x11=>gd ((v3).length+(([(aD.mk x7.aBy x11)]:List aD)).length≤68719476736) (some (.next (v3++([(aD.mk x7.aBy x11)]:List aD))))
def zI(fu:Nat)(px:aB):Option ((List aD)):=so (loopN (YT fu px) (px.aBv.length-0) 0 ([])) fun v3=>some v3
theorem K5(fu:Nat)(px:aB)(r:(List aD))(H:zI fu px=some r):bQ Tryz.prog 224 [(aB.pv px)] (bW r):=by
 refine qJ func224 H (fun C hC H=>?_)
 refine gQ 2 ?_;refine q1 (fE ([pS px.aBy,bK px.aBv])) ?_;refine gQ 4 ?_;refine q1 (nU ([]:List aD)) ?_;refine gQ 7 ?_;refine cO.fact (cK 0 1 rfl rfl rfl (aB.trs_len _)) (fun hl4=>?_)
 refine bU (σ:=(List aD)) (fun i1 v3=>⟨[(1,.ptr 0 0),(2,.nil),(3,nV v3 0),(4,pN i1)],⟨[some ⟨189,[pS px.aBy,bK px.aBv]⟩],[⟨32,4,aD.trs (v3),false⟩]⟩⟩) (fun v3=>⟨[(2,.nil),(3,nV v3 0)],⟨[some ⟨189,[pS px.aBy,bK px.aBv]⟩],[⟨32,4,aD.trs (v3),false⟩]⟩⟩) (eJ H) ?_ ?_
 ·rintro i1 v3 H
  refine gQ 9 ?_;refine cT H (fun h5 h5l H=>?_) (fun h5 H=>?_)
  ·refine gQ 3 ?_;refine bM H fun x7 z6 H=>(bM H fun x9 z8 H=>(bM H fun x11 z10 H=>(cA H fun z12 H=>(dW (dI [3] bH (dI [1] bZ (dD [14] eB (dI [4] bH (dI [15,16] m9 (dI [17] (gS (aB.cs (aT px.aBv i1))) (dI [18] (bI func175 (c5 fu (aT px.aBv i1) 0 _ z6)) (dI [19] tF1 (dI [1] bZ ?_)))))))))))))
   refine dD [21] eB (dI [4] bH (dI [22,23] m9 (dI [24] (gS (aB.cs (aT px.aBv i1))) (dI [25] (bI func175 (c5 fu (aT px.aBv i1) 1 _ z8)) (dI [26] (bI func219 (xV fu x9 _ z10)) (dI [20,27] oP (dI [28] (fY ([(aD.mk x7.aBy x11)]:List aD)) (dE [13,29] (jO z12) (dI [30] bH (dN ?_))))))))))
   exact gE 5
  exact gE 0
 rintro v3 H
 exact gE 5
def acH(fu:Nat)(p1:List aD):Nat→((List aB))→Option (LR ((List aB)) aB):=fun i1 v3=>bd (cF fu ((aT p1 i1).aBz)) fun x7=>bd (mU fu ((aT p1 i1).aBu)) fun x9=>bd (mC fu ([x7,x9]:List aB)) fun x11=>gd ((v3).length+(([x11]:List aB)).length≤68719476736) (some (.next (v3++([x11]:List aB))))
def CB(fu:Nat)(p1:List aD):Option aB:=so (loopN (acH fu p1) (p1.length-0) 0 ([])) fun v3=>some (aB.mk s_ v3)
theorem O1(fu:Nat)(p1:List aD)(r:aB)(H:CB fu p1=some r):bQ Tryz.prog 245 [bW p1] ((aB.pv r)):=by
 refine qJ func245 H (fun C hC H=>?_)
 refine gQ 15 ?_;refine cO.wk (Wk.regBox (k:=1) (j:=1) 189 2 (by decide) rfl rfl) ?_;refine fS 0 (aD.trs_len _) (fun hl4=>?_)
 refine bU (σ:=(List aB)) (fun i1 v3=>⟨[(0,bW p1),(2,.ptr 0 0),(3,.ptr 1 0),(4,pN i1)],⟨[some ⟨189,[pS s_,.nil]⟩,some ⟨189,[pS s_,eD v3 0]⟩],[⟨189,2,aB.trs (v3),false⟩]⟩⟩) (fun v3=>⟨[(2,.ptr 0 0),(3,.ptr 1 0)],⟨[some ⟨189,[pS s_,.nil]⟩,some ⟨189,[pS s_,eD v3 0]⟩],[⟨189,2,aB.trs (v3),false⟩]⟩⟩) (eJ H) ?_ ?_
 ·rintro i1 v3 H
  refine gQ 8 ?_;refine cT H (fun h5 h5l H=>?_) (fun h5 H=>?_)
  ·refine gQ 3 ?_;refine bM H fun x7 z6 H=>(bM H fun x9 z8 H=>(bM H fun x11 z10 H=>(cA H fun z12 H=>(dW (dI [3] bZ (dD [12] eB (dI [0] bH (dI [4] bH (dI [14,15] m9 (dI [16] wX (dI [17] vE (dI [18] (bI func239 (b7 fu ((aT p1 i1).aBz) _ z6)) (dI [0] bH ?_)))))))))))))
   refine dI [4] bH (dI [20,21] m9 (dI [22] wX (dI [23] (gS (aA.cs ((aT p1 i1).aBu))) (dI [24] (bI func242 (xU fu ((aT p1 i1).aBu) _ z8)) (dI [19,25] (fY ([x7,x9]:List aB)) (dI [26] (bI func238 (F4 (m6 fu) ([x7,x9]:List aB) _ z10)) (dI [27] (fY ([x11]:List aB)) (dE [13,28] (jO z12) (dI [3] bZ (iY [30,29] hM (dN ?_)))))))))))
   exact gE 5
  exact gE 0
 rintro v3 H
 refine gQ 2 ?_;refine q1 (b6 [pS s_,eD v3 0]) ?_;exact gE 2
def KD(fu:Nat)(p0:aL)(x2:Bool):Option (aB⊕((LB))):=sw (p0.aBX) (gd (([]:LB).length+(([wI]:LB)).length≤68719476736) (some (.inr (([])++([wI]:LB))))) (some (.inr ([])))
def KE(fu:Nat)(p0:aL)(x2:Bool)(v5:LB):Option (aB⊕(ByteArray×(List aB))):=sw (p0.aB4) (bd (mU fu p0.aBR) fun x12=>bd (mC fu ([x12]:List aB)) fun x14=>some (.inr (x14.aBy,x14.aBv))) (some (.inr (s_,([]))))
def KF(fu:Nat)(p0:aL)(x2:Bool)(v5:LB)(v8:ByteArray)(v9:List aB)(x16 x18 x20 x22 x24 x26 x28:aB):Nat→((List aB))→Option (LR ((List aB)) aB):=fun i29 v31=>lt (aT p0.aBW i29) fun y34=>bd (cF fu y34.aBs) fun x37=>bd (lI fu y34.aBF) fun x39=>bd (mQ fu y34.aBC) fun x41=>bd (mC fu ([x37,x39,x41]:List aB)) fun x43=>gd ((v31).length+(([(aB.mk x43.aBy x43.aBv)]:List aB)).length≤68719476736) (some (.next (v31++([(aB.mk x43.aBy x43.aBv)]:List aB))))
def tN(fu:Nat)(p0:aL):Option aB:=bd (oA fu p0) fun x2=>sw (!(x2)) (some (aB.mk s_ [])) (so (KD fu p0 x2) fun v5=>so (KE fu p0 x2 v5) fun(v8,v9)=>bd (cF fu RH) fun x16=>bd (cF fu p0.aBz) fun x18=>bd (lI fu p0.aBF) fun x20=>bd (mU fu p0.aBH) fun x22=>bd (CB fu p0.aBK) fun x24=>bd (lI fu v5) fun x26=>bd (mC fu ([x16,x18,x20,x22,x24,x26,(aB.mk v8 v9)]:List aB)) fun x28=>so (loopN (KF fu p0 x2 v5 v8 v9 x16 x18 x20 x22 x24 x26 x28) (p0.aBW.length-0) 0 x28.aBv) fun v31=>bd (EH fu true (aB.mk x28.aBy v31)) fun x46=>some x46)
theorem KG(fu:Nat)(p0:aL)(r:aB)(H:tN fu p0=some r):bQ Tryz.prog 225 [(aL.pv p0)] ((aB.pv r)):=by
 refine qJ func225 H (fun C hC H=>?_)
 refine gQ 2 ?_;refine q1 (fE (dU p0)) ?_;refine gQ 5 ?_;refine q1 (b6 [pS p0.aBz,rS p0.aBF,pI p0.aBH.aBw,pS p0.aBH.aBs,aU p0.aBH.aBt,bW p0.aBK,pB p0.aBX,pB p0.aB4,pI p0.aBR.aBw,pS p0.aBR.aBs,aU p0.aBR.aBt,mK p0.aBW]) (bM H fun x2 z1 H=>(q1 (bI func231 (yZ fu p0 _ z1)) ?_))
 refine gQ 2 ?_;refine bF H (fun h3 H=>gE 5) fun h3 H=>?_;refine gQ 3 ?_;refine q1 (nU ([]:LB)) ?_;refine gQ 3 ?_;refine nW (σ:=(LB)) (fun v5=>⟨[(1,.ptr 0 0),(2,.ptr 1 0),(3,aS v5 0)],⟨[some ⟨163,dU p0⟩,some ⟨189,[pS s_,.nil]⟩],[⟨9,1,aY (v5),false⟩]⟩⟩) (eJ H) (fun H=>?_) ?_
 ·refine gQ 5 ?_;refine bF H (fun h6 H=>?_) (fun h6 H=>?_)
  ·refine gQ 2 ?_;refine q1 (fY ([wI]:LB)) (cA H fun z7 H=>(q1 (jO z7) ?_))
   exact gE 2
  exact gE 1
 rintro v5 H
 refine gQ 7 ?_;refine cO.wk (Wk.regBox (k:=2) (j:=1) 189 2 (by decide) rfl rfl) ?_;refine nW (σ:=ByteArray×(List aB)) (fun(v8,v9)=>⟨[(1,.ptr 0 0),(2,.ptr 1 0),(3,aS v5 0),(4,.ptr 2 0)],⟨[some ⟨163,dU p0⟩,some ⟨189,[pS s_,.nil]⟩,some ⟨189,[pS v8,bK v9]⟩],[⟨9,1,aY (v5),false⟩,⟨189,2,aB.trs ([]),false⟩]⟩⟩) (eJ H) (fun H=>?_) ?_
 ·refine gQ 5 ?_;refine bF H (fun h10 H=>?_) (fun h10 H=>?_)
  ·refine gQ 2 ?_;refine q1 (b6 [pI p0.aBR.aBw,pS p0.aBR.aBs,aU p0.aBR.aBt]) (bM H fun x12 z11 H=>(q1 (bI func242 (xU fu p0.aBR _ z11)) (q1 (fY ([x12]:List aB)) (bM H fun x14 z13 H=>(q1 (bD.callOwn (pre:=⟨[],[]⟩) (B:= []) (R:=fun k=> .agg [pS x14.aBy,eD x14.aBv k]) (ps:= [_]) (qs:= [bK ([x12]:List aB)]) [] rfl rfl func238 (by kernel_rfl) rfl rfl rfl (eH.of trivial trivial (by decide) (by decide)) rfl iX rfl rfl rfl (fun k k'=>(.agg (.cons (.free _ rfl) (.cons Mv.acc GB.nil)))) (m6 fu ([x12]:List aB) _ z13)) ?_)))))
   exact gE 2
  exact gE 1
 rintro⟨v8,v9⟩ H
 refine qS (bM H fun x16 z15 H=>(bM H fun x18 z17 H=>(bM H fun x20 z19 H=>(bM H fun x22 z21 H=>(bM H fun x24 z23 H=>(bM H fun x26 z25 H=>(bM H fun x28 z27 H=>(dWa (dI [] (bI func239 (b7 fu RH _ z15)) (dI [1] bZ (XL [27] 0 0 sM (dI [28] (bI func239 (b7 fu p0.aBz _ z17)) (dI [1] bZ ?_)))))))))))))
 refine XL [30] 0 0 sM (dI [31] (bI func240 (mS fu p0.aBF _ z19)) (dI [1] bZ (XL [33] 0 0 (zN [pI p0.aBH.aBw,pS p0.aBH.aBs,aU p0.aBH.aBt]) (dI [34] (bI func242 (xU fu p0.aBH _ z21)) (dI [1] bZ (XL [36] 0 0 sM (dI [37] (bI func245 (O1 fu p0.aBK _ z23)) (dI [3] bH (dI [39] (bI func240 (mS fu v5 _ z25)) (XL [4] 0 0 (zN [pS v8,bK v9]) (dI [26,29,32,35,38,40,41] (fY ([x16,x18,x20,x22,x24,x26,(aB.mk v8 v9)]:List aB)) ?_)))))))))))
 refine dEz [42] (fun _ z=>by cases z<;>exact bD.callOwn (pre:=⟨[],[]⟩) (B:= []) (R:=fun k=> .agg [pS x28.aBy,eD x28.aBv k]) (ps:= [_]) (qs:= [bK ([x16,x18,x20,x22,x24,x26,(aB.mk v8 v9)]:List aB)]) [] rfl rfl func238 (by kernel_rfl) rfl rfl rfl (eH.of trivial trivial (by decide) (by decide)) rfl iX rfl rfl rfl (fun k k'=>(.agg (.cons (.free _ rfl) (.cons Mv.acc GB.nil)))) (m6 fu ([x16,x18,x20,x22,x24,x26,(aB.mk v8 v9)]:List aB) _ z27)) ?_;refine dA (fun _ st h=>vAl h aaJ.h) (dZ 5 [5,43] hM (dN ?_))
 refine gQ 5 ?_;refine cO.fact (cK 0 11 rfl rfl rfl (aQ.trs_len _)) (fun hl32=>?_)
 refine bU (σ:=(List aB)) (fun i29 v31=>⟨[(1,.ptr 0 0),(2,.ptr 1 0),(5,.ptr 3 0),(6,pN i29)],⟨[some ⟨163,dU p0⟩,some ⟨189,[pS s_,.nil]⟩,some ⟨189,[pS v8,bK v9]⟩,some ⟨189,[pS x28.aBy,eD v31 2]⟩],[⟨9,1,aY (v5),false⟩,⟨189,2,aB.trs ([]),false⟩,⟨189,2,aB.trs (v31),false⟩]⟩⟩) (fun v31=>⟨[(2,.ptr 1 0),(5,.ptr 3 0)],⟨[some ⟨163,dU p0⟩,some ⟨189,[pS s_,.nil]⟩,some ⟨189,[pS v8,bK v9]⟩,some ⟨189,[pS x28.aBy,eD v31 2]⟩],[⟨9,1,aY (v5),false⟩,⟨189,2,aB.trs ([]),false⟩,⟨189,2,aB.trs (v31),false⟩]⟩⟩) (eJ H) ?_ ?_
 ·rintro i29 v31 H
  refine gQ 9 ?_;refine cT H (fun h33 h33l H=>?_) (fun h33 H=>?_)
  ·refine gQ 8 ?_;refine fZ H fun y34 h35 H=>(q1 (xW h35 h33l) (q1 (gS (aQ.cs y34)) ?_))
   refine gQ 3 ?_;refine bM H fun x37 z36 H=>(bM H fun x39 z38 H=>(bM H fun x41 z40 H=>(bM H fun x43 z42 H=>(cA H fun z44 H=>(dW (dI [5] bZ (dB [56] 0 1 sM (dI [7] bZ (dD [58] eB (dI [59] (bI func239 (b7 fu y34.aBs _ z36)) (dI [7] bZ (dD [61] eB (dI [62] (bI func240 (mS fu y34.aBF _ z38)) ?_)))))))))))))
   refine dI [7] bZ (dD [64] (b6 [pI y34.aBC.aBw,pS y34.aBC.aBz,pS y34.aBC.aBs,pI y34.aBC.aCa,pI y34.aBC.aBu.aBw,pS y34.aBC.aBu.aBs,aU y34.aBC.aBu.aBt,iI y34.aBC.aBt,rV y34.aBC.aBN]) (dI [65] (bI func243 (RK fu y34.aBC _ z40)) (dI [60,63,66] (fY ([x37,x39,x41]:List aB)) (dE [67] (bD.callOwn (pre:=⟨[],[]⟩) (B:= []) (R:=fun k=> .agg [pS x43.aBy,eD x43.aBv k]) (ps:= [_]) (qs:= [bK ([x37,x39,x41]:List aB)]) [] rfl rfl func238 (by kernel_rfl) rfl rfl rfl (eH.of trivial trivial (by decide) (by decide)) rfl iX rfl rfl rfl (fun k k'=>(.agg (.cons (.free _ rfl) (.cons Mv.acc GB.nil)))) (m6 fu ([x37,x39,x41]:List aB) _ z42)) (dI [68] (fY ([(aB.mk x43.aBy x43.aBv)]:List aB)) (dE [57,69] (jO z44) (dI [5] bZ (iY [71,70] hM (dN ?_)))))))))
   exact gE 5
  exact gE 0
 rintro v31 H
 refine gQ 2 ?_;refine q1 (b6 [pS x28.aBy,eD v31 2]) (bM H fun x46 z45 H=>(q1 (bI func244 (JH fu true (aB.mk x28.aBy v31) _ z45)) ?_))
 exact gE 2
def KQ(fu:Nat)(p0 x2 x4:aB)(x6:LB)(x8:aB)(x10:aA)(x12:aB)(x14:List aD)(x16 x18:aB):Option ((aL×Bool)⊕((List aA)×Bool×Int×ByteArray)):=sw (decide ((x18.aBv.length:Int)>0)) (gd (0<(x18.aBv).length) (bd (mV fu (aT x18.aBv 0)) fun x26=>some (.inr (x26.aBt,true,x26.aBw,x26.aBs)))) (some (.inr ([],false,0,s_)))
def KR(fu:Nat)(p0 x2 x4:aB)(x6:LB)(x8:aB)(x10:aA)(x12:aB)(x14:List aD)(x16 x18:aB)(v22:List aA)(v19:Bool)(v20:Int)(v21:ByteArray)(x28:List aB):Nat→((List aQ))→Option (LR ((List aQ)) (aL×Bool)):=fun i29 v31=>bd (dK fu (aT x28 i29) 0) fun x35=>bd (dK fu (aT x28 i29) 1) fun x37=>bd (mR fu x37) fun x39=>bd (dK fu (aT x28 i29) 2) fun x41=>bd (gU fu x41) fun x43=>gd ((v31).length+(([(aQ.mk x35.aBy x39 x43)]:List aQ)).length≤68719476736) (some (.next (v31++([(aQ.mk x35.aBy x39 x43)]:List aQ))))
def tR(fu:Nat)(p0:aB):Option (aL×Bool):=bd (dK fu p0 1) fun x2=>bd (dK fu p0 2) fun x4=>bd (mR fu x4) fun x6=>bd (dK fu p0 3) fun x8=>bd (mV fu x8) fun x10=>bd (dK fu p0 4) fun x12=>bd (zI fu x12) fun x14=>bd (dK fu p0 5) fun x16=>bd (dK fu p0 6) fun x18=>so (KQ fu p0 x2 x4 x6 x8 x10 x12 x14 x16 x18) fun(v22,v19,v20,v21)=>bd (wN fu p0 7) fun x28=>so (loopN (KR fu p0 x2 x4 x6 x8 x10 x12 x14 x16 x18 v22 v19 v20 v21 x28) (x28.length-0) 0 ([])) fun v31=>bd (iC fu p0) fun x46=>sw (!(x46)) (some ((aL.mk s_ [] (aA.mk 0 s_ []) [] false false (aA.mk 0 s_ []) []),false)) (sw (decide ((p0.aBv.length:Int)=0)) (some ((aL.mk s_ [] (aA.mk 0 s_ []) [] false false (aA.mk 0 s_ []) []),false)) (bd (tN fu (aL.mk x2.aBy x6 x10 x14 (decide ((x16.aBv.length:Int)>0)) v19 (aA.mk v20 v21 v22) v31)) fun x50=>bd (fO fu x50 p0) fun x52=>sw (!(x52)) (some ((aL.mk s_ [] (aA.mk 0 s_ []) [] false false (aA.mk 0 s_ []) []),false)) (some ((aL.mk x2.aBy x6 x10 x14 (decide ((x16.aBv.length:Int)>0)) v19 (aA.mk v20 v21 v22) v31),true))))
theorem KS(fu:Nat)(p0:aB)(r:aL×Bool)(H:tR fu p0=some r):bQ Tryz.prog 202 [(aB.pv p0)] (.tup [(aL.pv r.1),pB r.2]):=by
 refine qJ func202 H (fun C hC H=>?_)
 refine gQ 2 ?_;refine q1 (fE ([pS p0.aBy,bK p0.aBv])) ?_;refine gQ 4 ?_;refine bM H fun x2 z1 H=>(bM H fun x4 z3 H=>(bM H fun x6 z5 H=>(bM H fun x8 z7 H=>(bM H fun x10 z9 H=>(bM H fun x12 z11 H=>(bM H fun x14 z13 H=>(bM H fun x16 z15 H=>(dW (dB [1] 0 1 (zN [pS p0.aBy,bK p0.aBv]) (dI [8] (bI func175 (c5 fu p0 1 _ z1)) (dI [9] tF1 (dB [1] 0 1 (zN [pS p0.aBy,bK p0.aBv]) (dI [11] (bI func175 (c5 fu p0 2 _ z3)) ?_)))))))))))))
 refine dI [12] (bI func216 (oH fu x4 _ z5)) (dB [1] 0 1 (zN [pS p0.aBy,bK p0.aBv]) (dI [14] (bI func175 (c5 fu p0 3 _ z7)) (dI [15] (bI func219 (xV fu x8 _ z9)) (dB [1] 0 1 (zN [pS p0.aBy,bK p0.aBv]) (dI [17] (bI func175 (c5 fu p0 4 _ z11)) (dI [18] (bI func224 (K5 fu x12 _ z13)) (dB [1] 0 1 (zN [pS p0.aBy,bK p0.aBv]) (dI [20] (bI func175 (c5 fu p0 5 _ z15)) (dI [21] tF1 (dI [22] tLn (dI [23] rGt (dI [10,13,16,19,24] oP (dE [] tAl ?_)))))))))))))
 refine iY [4,25] hM (dN ?_)
 refine gQ 2 ?_;refine q1 (b6 [pS p0.aBy,bK p0.aBv]) (bM H fun x18 z17 H=>(q1 (bI func175 (c5 fu p0 6 _ z17)) ?_))
 refine gQ 4 ?_;refine nW (σ:=(List aA)×Bool×Int×ByteArray) (fun(v22,v19,v20,v21)=>⟨[(1,.ptr 0 0),(2,.ptr 1 0),(3,pB false),(4,.ptr 2 0)],⟨[some ⟨189,[pS p0.aBy,bK p0.aBv]⟩,some ⟨163,[pS s_,.nil,pI 0,pS s_,.nil,.nil,pB false,pB false,pI 0,pS s_,.nil,.nil]⟩,some ⟨163,[pS x2.aBy,rS x6,pI x10.aBw,pS x10.aBs,aU x10.aBt,bW x14,pB (decide ((x16.aBv.length:Int)>0)),pB v19,pI v20,pS v21,aU v22,.nil]⟩,some ⟨189,[pS x18.aBy,bK x18.aBv]⟩],[]⟩⟩) (eJ H) (fun H=>?_) ?_
 ·refine gQ 7 ?_;refine bF H (fun h23 H=>?_) (fun h23 H=>?_)
  ·refine gQ 8 ?_;refine cA H fun z24 H=>(q1 m9 (q1 (gS (aB.cs (aT x18.aBv 0))) (bM H fun x26 z25 H=>(q1 (bI func219 (xV fu (aT x18.aBv 0) _ z25)) ?_))))
   exact gE 3
  exact gE 1
 rintro⟨v22,v19,v20,v21⟩ H
 refine gQ 2 ?_;refine q1 (b6 [pS p0.aBy,bK p0.aBv]) (bM H fun x28 z27 H=>(q1 (bI func217 (B9 fu p0 7 _ z27)) ?_))
 refine gQ 7 ?_;refine cO.wk (Wk.regBox (k:=2) (j:=11) 242 11 (by decide) rfl rfl) ?_;refine fS 6 (aB.trs_len _) (fun hl32=>?_)
 refine bU (σ:=(List aQ)) (fun i29 v31=>⟨[(1,.ptr 0 0),(2,.ptr 1 0),(3,pB false),(4,.ptr 2 0),(6,bK x28),(7,pN i29)],⟨[some ⟨189,[pS p0.aBy,bK p0.aBv]⟩,some ⟨163,[pS s_,.nil,pI 0,pS s_,.nil,.nil,pB false,pB false,pI 0,pS s_,.nil,.nil]⟩,some ⟨163,[pS x2.aBy,rS x6,pI x10.aBw,pS x10.aBs,aU x10.aBt,bW x14,pB (decide ((x16.aBv.length:Int)>0)),pB v19,pI v20,pS v21,aU v22,TV v31 0]⟩,some ⟨189,[pS x18.aBy,bK x18.aBv]⟩],[⟨242,11,aQ.trs (v31),false⟩]⟩⟩) (fun v31=>⟨[(1,.ptr 0 0),(2,.ptr 1 0),(3,pB false),(4,.ptr 2 0)],⟨[some ⟨189,[pS p0.aBy,bK p0.aBv]⟩,some ⟨163,[pS s_,.nil,pI 0,pS s_,.nil,.nil,pB false,pB false,pI 0,pS s_,.nil,.nil]⟩,some ⟨163,[pS x2.aBy,rS x6,pI x10.aBw,pS x10.aBs,aU x10.aBt,bW x14,pB (decide ((x16.aBv.length:Int)>0)),pB v19,pI v20,pS v21,aU v22,TV v31 0]⟩,some ⟨189,[pS x18.aBy,bK x18.aBv]⟩],[⟨242,11,aQ.trs (v31),false⟩]⟩⟩) (eJ H) ?_ ?_
 ·rintro i29 v31 H
  refine gQ 8 ?_;refine cT H (fun h33 h33l H=>?_) (fun h33 H=>?_)
  ·refine gQ 3 ?_;refine bM H fun x35 z34 H=>(bM H fun x37 z36 H=>(bM H fun x39 z38 H=>(bM H fun x41 z40 H=>(bM H fun x43 z42 H=>(cA H fun z44 H=>(dW (dI [4] bZ (dD [47] eB (dI [6] bH (dI [7] bH (dI [49,50] m9 (dI [51] (gS (aB.cs (aT x28 i29))) (dI [52] (bI func175 (c5 fu (aT x28 i29) 0 _ z34)) ?_)))))))))))))
   refine dI [53] tF1 (dI [6] bH (dI [7] bH (dI [55,56] m9 (dI [57] (gS (aB.cs (aT x28 i29))) (dI [58] (bI func175 (c5 fu (aT x28 i29) 1 _ z36)) (dI [59] (bI func216 (oH fu x37 _ z38)) (dI [6] bH (dI [7] bH (dI [61,62] m9 (dI [63] (gS (aB.cs (aT x28 i29))) (dI [64] (bI func175 (c5 fu (aT x28 i29) 2 _ z40)) (dI [65] (bI func220 (IC fu x41 _ z42)) (dI [54,60,66] oP ?_)))))))))))))
   refine dI [67] (fY ([(aQ.mk x35.aBy x39 x43)]:List aQ)) (dE [48,68] (jO z44) (dI [4] bZ (iY [70,69] hM (dN ?_))))
   exact gE 5
  exact gE 0
 rintro v31 H
 refine gQ 2 ?_;refine bM H fun x46 z45 H=>?_
 rcases nS (!(x46)) with g47|g47
 ·have H:=sE H g47
  refine dW (dD [1] (b6 [pS p0.aBy,bK p0.aBv]) (dI [71] (bI func173 (c9 fu p0 _ z45)) (dI [72] J6 (dI [73] bH ?_))))
  iterate 4 refine NB g47 ?_
  refine dI [74] (C3 g47) (dI [79] bH ?_)
  iterate 5 refine NB rfl ?_
  refine dI [80] (C3 rfl) (dN ?_)
  exact gE 7
 have H:=sD H g47
 rcases nS (decide ((p0.aBv.length:Int)=0)) with g48|g48
 ·have H:=sE H g48
  refine dW (dD [1] (b6 [pS p0.aBy,bK p0.aBv]) (dI [71] (bI func173 (c9 fu p0 _ z45)) (dI [72] J6 (dI [73] bH (dI (hg:=bG g47) [1] bZ (dD (hg:=bG g47) [75] eB (dI (hg:=bG g47) [76] tLn (dI (hg:=bG g47) [77] rEq (dI [74,78] (FG g47) (dI [79] bH ?_))))))))))
  iterate 5 refine NB g48 ?_
  refine dI [80] (C3 g48) (dN ?_)
  exact gE 7
 have H:=sD H g48
 refine bM H fun x50 z49 H=>(bM H fun x52 z51 H=>(dW (dD [1] (b6 [pS p0.aBy,bK p0.aBv]) (dI [71] (bI func173 (c9 fu p0 _ z45)) (dI [72] J6 (dI [73] bH (dI (hg:=bG g47) [1] bZ (dD (hg:=bG g47) [75] eB (dI (hg:=bG g47) [76] tLn (dI (hg:=bG g47) [77] rEq (dI [74,78] (FG g47) (dI [79] bH (dD (hg:=bG g48) [4] (b6 [pS x2.aBy,rS x6,pI x10.aBw,pS x10.aBs,aU x10.aBt,bW x14,pB (decide ((x16.aBv.length:Int)>0)),pB v19,pI v20,pS v21,aU v22,TV v31 0]) ?_)))))))))))))
 refine dI (hg:=bG g48) [81] (bI func225 (KG fu (aL.mk x2.aBy x6 x10 x14 (decide ((x16.aBv.length:Int)>0)) v19 (aA.mk v20 v21 v22) v31) _ z49)) (dD (hg:=bG g48) [1] (b6 [pS p0.aBy,bK p0.aBv]) (dI (hg:=bG g48) [82,83] (bI func221 (uZ fu x50 p0 _ z51)) (dI (hg:=bG g48) [84] J6 (dI [80,85] (FG g48) (dN ?_)))))
 refine bF H (fun h53 H=>gE 6) fun h53 H=>?_;refine gQ 3 ?_;refine q1 (b6 [pS x2.aBy,rS x6,pI x10.aBw,pS x10.aBs,aU x10.aBt,bW x14,pB (decide ((x16.aBv.length:Int)>0)),pB v19,pI v20,pS v21,aU v22,TV v31 0]) ?_;exact gE 3
def KA(fu:Nat)(pf:aP)(x2:Bool):Nat→((List aB))→Option (LR ((List aB)) aB):=fun i4 v6=>bd (cF fu ((aT pf.aBL i4).aBs)) fun x10=>bd (mU fu ((aT pf.aBL i4).aBu)) fun x12=>bd (mC fu ([x10,x12]:List aB)) fun x14=>gd ((v6).length+(([x14]:List aB)).length≤68719476736) (some (.next (v6++([x14]:List aB))))
def tM(fu:Nat)(pf:aP):Option aB:=bd (n9 fu pf) fun x2=>sw (!(x2)) (some (aB.mk s_ [])) (so (loopN (KA fu pf x2) (pf.aBL.length-0) 0 ([])) fun v6=>bd (cF fu amI) fun x17=>bd (cF fu pf.aBs) fun x19=>bd (lI fu pf.aBF) fun x21=>bd (CB fu pf.aBK) fun x23=>bd (mU fu pf.aBJ) fun x25=>bd (mQ fu pf.aBC) fun x27=>bd (mC fu ([x17,x19,x21,x23,(aB.mk s_ v6),x25,x27]:List aB)) fun x29=>bd (EH fu true x29) fun x31=>some x31)
theorem KB(fu:Nat)(pf:aP)(r:aB)(H:tM fu pf=some r):bQ Tryz.prog 226 [(aP.pv pf)] ((aB.pv r)):=by
 refine qJ func226 H (fun C hC H=>?_)
 refine gQ 2 ?_;refine q1 (fE (zP pf)) ?_;refine gQ 5 ?_;refine q1 (b6 [pS pf.aBs,rS pf.aBF,bW pf.aBK,VT pf.aBL,pI pf.aBJ.aBw,pS pf.aBJ.aBs,aU pf.aBJ.aBt,pI pf.aBC.aBw,pS pf.aBC.aBz,pS pf.aBC.aBs,pI pf.aBC.aCa,pI pf.aBC.aBu.aBw,pS pf.aBC.aBu.aBs,aU pf.aBC.aBu.aBt,iI pf.aBC.aBt,rV pf.aBC.aBN]) (bM H fun x2 z1 H=>(q1 (bI func232 (yY fu pf _ z1)) ?_))
 refine gQ 2 ?_;refine bF H (fun h3 H=>gE 5) fun h3 H=>?_;refine gQ 12 ?_;refine cO.wk (Wk.regBox (k:=2) (j:=1) 189 2 (by decide) rfl rfl) ?_;refine cO.fact (cK 0 3 rfl rfl rfl (aW.trs_len _)) (fun hl7=>?_)
 refine bU (σ:=(List aB)) (fun i4 v6=>⟨[(1,.ptr 0 0),(2,.ptr 1 0),(3,.ptr 2 0),(4,pN i4)],⟨[some ⟨213,zP pf⟩,some ⟨189,[pS s_,.nil]⟩,some ⟨189,[pS s_,eD v6 0]⟩],[⟨189,2,aB.trs (v6),false⟩]⟩⟩) (fun v6=>⟨[(1,.ptr 0 0),(2,.ptr 1 0),(3,.ptr 2 0)],⟨[some ⟨213,zP pf⟩,some ⟨189,[pS s_,.nil]⟩,some ⟨189,[pS s_,eD v6 0]⟩],[⟨189,2,aB.trs (v6),false⟩]⟩⟩) (eJ H) ?_ ?_
 ·rintro i4 v6 H
  refine gQ 9 ?_;refine cT H (fun h8 h8l H=>?_) (fun h8 H=>?_)
  ·refine gQ 3 ?_;refine bM H fun x10 z9 H=>(bM H fun x12 z11 H=>(bM H fun x14 z13 H=>(cA H fun z15 H=>(dW (dI [3] bZ (dD [17] eB (dI [1] bZ (dD [19] eB (dI [4] bH (dI [20,21] m9 (dI [22] wX (dI [23] vE (dI [24] (bI func239 (b7 fu ((aT pf.aBL i4).aBs) _ z9)) ?_)))))))))))))
   refine dI [1] bZ (dD [26] eB (dI [4] bH (dI [27,28] m9 (dI [29] wX (dI [30] (gS (aA.cs ((aT pf.aBL i4).aBu))) (dI [31] (bI func242 (xU fu ((aT pf.aBL i4).aBu) _ z11)) (dI [25,32] (fY ([x10,x12]:List aB)) (dI [33] (bI func238 (F4 (m6 fu) ([x10,x12]:List aB) _ z13)) (dI [34] (fY ([x14]:List aB)) (dE [18,35] (jO z15) (dI [3] bZ (iY [37,36] hM (dN ?_)))))))))))))
   exact gE 5
  exact gE 0
 rintro v6 H
 refine qS (bM H fun x17 z16 H=>(bM H fun x19 z18 H=>(bM H fun x21 z20 H=>(bM H fun x23 z22 H=>(bM H fun x25 z24 H=>(bM H fun x27 z26 H=>(bM H fun x29 z28 H=>(bM H fun x31 z30 H=>(dW (dI [] (bI func239 (b7 fu amI _ z16)) (dI [1] bZ (dD [39] eB (dI [40] (bI func239 (b7 fu pf.aBs _ z18)) ?_)))))))))))))
 refine dI [1] bZ (dD [42] eB (dI [43] (bI func240 (mS fu pf.aBF _ z20)) (dI [1] bZ (dD [45] eB (dI [46] (bI func245 (O1 fu pf.aBK _ z22)) (dD [3] (b6 [pS s_,eD v6 0]) (dI [1] bZ (dD [49] (b6 [pI pf.aBJ.aBw,pS pf.aBJ.aBs,aU pf.aBJ.aBt]) (dI [50] (bI func242 (xU fu pf.aBJ _ z24)) (dI [1] bZ (dD [52] (b6 [pI pf.aBC.aBw,pS pf.aBC.aBz,pS pf.aBC.aBs,pI pf.aBC.aCa,pI pf.aBC.aBu.aBw,pS pf.aBC.aBu.aBs,aU pf.aBC.aBu.aBt,iI pf.aBC.aBt,rV pf.aBC.aBN]) (dI [53] (bI func243 (RK fu pf.aBC _ z26)) (dI [38,41,44,47,48,51,54] (fY ([x17,x19,x21,x23,(aB.mk s_ v6),x25,x27]:List aB)) ?_)))))))))))))
 refine dI [55] (bI func238 (F4 (m6 fu) ([x17,x19,x21,x23,(aB.mk s_ v6),x25,x27]:List aB) _ z28)) (dI [56] (bI func244 (JH fu true x29 _ z30)) (iY [2,57] hM (dN ?_)))
 exact gE 0
def KO(fu:Nat)(p0 x2 x4:aB)(x6:LB)(x8:aB)(x10:List aD)(x12:aB)(x14:aA)(x16:aB)(x18:aM)(x20:aB):Nat→((List aW))→Option (LR ((List aW)) (aP×Bool)):=fun i21 v23=>bd (dK fu (aT x20.aBv i21) 0) fun x27=>bd (dK fu (aT x20.aBv i21) 1) fun x29=>bd (mV fu x29) fun x31=>gd ((v23).length+(([(aW.mk x27.aBy x31)]:List aW)).length≤68719476736) (some (.next (v23++([(aW.mk x27.aBy x31)]:List aW))))
def tP(fu:Nat)(p0:aB):Option (aP×Bool):=bd (dK fu p0 1) fun x2=>bd (dK fu p0 2) fun x4=>bd (mR fu x4) fun x6=>bd (dK fu p0 3) fun x8=>bd (zI fu x8) fun x10=>bd (dK fu p0 5) fun x12=>bd (mV fu x12) fun x14=>bd (dK fu p0 6) fun x16=>bd (gU fu x16) fun x18=>bd (dK fu p0 4) fun x20=>so (loopN (KO fu p0 x2 x4 x6 x8 x10 x12 x14 x16 x18 x20) (x20.aBv.length-0) 0 ([])) fun v23=>bd (iC fu p0) fun x34=>sw (!(x34)) (some ((aP.mk s_ [] [] [] (aA.mk 0 s_ []) (aM.mk 0 s_ s_ 0 (aA.mk 0 s_ []) [] [])),false)) (sw (decide ((p0.aBv.length:Int)=0)) (some ((aP.mk s_ [] [] [] (aA.mk 0 s_ []) (aM.mk 0 s_ s_ 0 (aA.mk 0 s_ []) [] [])),false)) (bd (tM fu (aP.mk x2.aBy x6 x10 v23 x14 x18)) fun x38=>bd (fO fu x38 p0) fun x40=>sw (!(x40)) (some ((aP.mk s_ [] [] [] (aA.mk 0 s_ []) (aM.mk 0 s_ s_ 0 (aA.mk 0 s_ []) [] [])),false)) (some ((aP.mk x2.aBy x6 x10 v23 x14 x18),true))))
theorem KP(fu:Nat)(p0:aB)(r:aP×Bool)(H:tP fu p0=some r):bQ Tryz.prog 203 [(aB.pv p0)] (.tup [(aP.pv r.1),pB r.2]):=by
 refine qJ func203 H (fun C hC H=>?_)
 refine gQ 2 ?_;refine q1 (fE ([pS p0.aBy,bK p0.aBv])) ?_;refine gQ 4 ?_;refine bM H fun x2 z1 H=>(bM H fun x4 z3 H=>(bM H fun x6 z5 H=>(bM H fun x8 z7 H=>(bM H fun x10 z9 H=>(bM H fun x12 z11 H=>(bM H fun x14 z13 H=>(bM H fun x16 z15 H=>(bM H fun x18 z17 H=>(dW (dB [1] 0 1 (zN [pS p0.aBy,bK p0.aBv]) (dI [7] (bI func175 (c5 fu p0 1 _ z1)) (dI [8] tF1 (dB [1] 0 1 (zN [pS p0.aBy,bK p0.aBv]) ?_)))))))))))))
 refine dI [10] (bI func175 (c5 fu p0 2 _ z3)) (dI [11] (bI func216 (oH fu x4 _ z5)) (dB [1] 0 1 (zN [pS p0.aBy,bK p0.aBv]) (dI [13] (bI func175 (c5 fu p0 3 _ z7)) (dI [14] (bI func224 (K5 fu x8 _ z9)) (dB [1] 0 1 (zN [pS p0.aBy,bK p0.aBv]) (dI [16] (bI func175 (c5 fu p0 5 _ z11)) (dI [17] (bI func219 (xV fu x12 _ z13)) (dB [1] 0 1 (zN [pS p0.aBy,bK p0.aBv]) (dI [19] (bI func175 (c5 fu p0 6 _ z15)) (dI [20] (bI func220 (IC fu x16 _ z17)) (dI [9,12,15,18,21] oP (dE [] tAl (iY [4,22] hM ?_)))))))))))))
 refine dN ?_;refine gQ 2 ?_;refine q1 (b6 [pS p0.aBy,bK p0.aBv]) (bM H fun x20 z19 H=>(q1 (bI func175 (c5 fu p0 4 _ z19)) ?_))
 refine gQ 8 ?_;refine cO.wk (Wk.regBox (k:=2) (j:=3) 245 4 (by decide) rfl rfl) ?_;refine cO.fact (cK 3 1 rfl rfl rfl (aB.trs_len _)) (fun hl24=>?_)
 refine bU (σ:=(List aW)) (fun i21 v23=>⟨[(1,.ptr 0 0),(2,.ptr 1 0),(3,pB false),(4,.ptr 2 0),(5,.ptr 3 0),(6,pN i21)],⟨[some ⟨189,[pS p0.aBy,bK p0.aBv]⟩,some ⟨213,[pS s_,.nil,.nil,.nil,pI 0,pS s_,.nil,pI 0,pS s_,pS s_,pI 0,pI 0,pS s_,.nil,.nil,.nil]⟩,some ⟨213,[pS x2.aBy,rS x6,bW x10,aaU v23 0,pI x14.aBw,pS x14.aBs,aU x14.aBt,pI x18.aBw,pS x18.aBz,pS x18.aBs,pI x18.aCa,pI x18.aBu.aBw,pS x18.aBu.aBs,aU x18.aBu.aBt,iI x18.aBt,rV x18.aBN]⟩,some ⟨189,[pS x20.aBy,bK x20.aBv]⟩],[⟨245,4,aW.trs (v23),false⟩]⟩⟩) (fun v23=>⟨[(1,.ptr 0 0),(2,.ptr 1 0),(3,pB false),(4,.ptr 2 0)],⟨[some ⟨189,[pS p0.aBy,bK p0.aBv]⟩,some ⟨213,[pS s_,.nil,.nil,.nil,pI 0,pS s_,.nil,pI 0,pS s_,pS s_,pI 0,pI 0,pS s_,.nil,.nil,.nil]⟩,some ⟨213,[pS x2.aBy,rS x6,bW x10,aaU v23 0,pI x14.aBw,pS x14.aBs,aU x14.aBt,pI x18.aBw,pS x18.aBz,pS x18.aBs,pI x18.aCa,pI x18.aBu.aBw,pS x18.aBu.aBs,aU x18.aBu.aBt,iI x18.aBt,rV x18.aBN]⟩,some ⟨189,[pS x20.aBy,bK x20.aBv]⟩],[⟨245,4,aW.trs (v23),false⟩]⟩⟩) (eJ H) ?_ ?_
 ·rintro i21 v23 H
  refine gQ 9 ?_;refine cT H (fun h25 h25l H=>?_) (fun h25 H=>?_)
  ·refine gQ 3 ?_;refine bM H fun x27 z26 H=>(bM H fun x29 z28 H=>(bM H fun x31 z30 H=>(cA H fun z32 H=>(dW (dI [4] bZ (dD [32] eB (dI [5] bZ (dD [34] eB (dI [6] bH (dI [35,36] m9 (dI [37] (gS (aB.cs (aT x20.aBv i21))) (dI [38] (bI func175 (c5 fu (aT x20.aBv i21) 0 _ z26)) (dI [39] tF1 ?_)))))))))))))
   refine dI [5] bZ (dD [41] eB (dI [6] bH (dI [42,43] m9 (dI [44] (gS (aB.cs (aT x20.aBv i21))) (dI [45] (bI func175 (c5 fu (aT x20.aBv i21) 1 _ z28)) (dI [46] (bI func219 (xV fu x29 _ z30)) (dI [40,47] oP (dI [48] (fY ([(aW.mk x27.aBy x31)]:List aW)) (dE [33,49] (jO z32) (dI [4] bZ (iY [51,50] hM (dN ?_))))))))))))
   exact gE 5
  exact gE 0
 rintro v23 H
 refine gQ 2 ?_;refine bM H fun x34 z33 H=>?_
 rcases nS (!(x34)) with g35|g35
 ·have H:=sE H g35
  refine dW (dD [1] (b6 [pS p0.aBy,bK p0.aBv]) (dI [52] (bI func173 (c9 fu p0 _ z33)) (dI [53] J6 (dI [54] bH ?_))))
  iterate 4 refine NB g35 ?_
  refine dI [55] (C3 g35) (dI [60] bH ?_)
  iterate 5 refine NB rfl ?_
  refine dI [61] (C3 rfl) (dN ?_)
  exact gE 7
 have H:=sD H g35
 rcases nS (decide ((p0.aBv.length:Int)=0)) with g36|g36
 ·have H:=sE H g36
  refine dW (dD [1] (b6 [pS p0.aBy,bK p0.aBv]) (dI [52] (bI func173 (c9 fu p0 _ z33)) (dI [53] J6 (dI [54] bH (dI (hg:=bG g35) [1] bZ (dD (hg:=bG g35) [56] eB (dI (hg:=bG g35) [57] tLn (dI (hg:=bG g35) [58] rEq (dI [55,59] (FG g35) (dI [60] bH ?_))))))))))
  iterate 5 refine NB g36 ?_
  refine dI [61] (C3 g36) (dN ?_)
  exact gE 7
 have H:=sD H g36
 refine bM H fun x38 z37 H=>(bM H fun x40 z39 H=>(dW (dD [1] (b6 [pS p0.aBy,bK p0.aBv]) (dI [52] (bI func173 (c9 fu p0 _ z33)) (dI [53] J6 (dI [54] bH (dI (hg:=bG g35) [1] bZ (dD (hg:=bG g35) [56] eB (dI (hg:=bG g35) [57] tLn (dI (hg:=bG g35) [58] rEq (dI [55,59] (FG g35) (dI [60] bH (dD (hg:=bG g36) [4] (b6 [pS x2.aBy,rS x6,bW x10,aaU v23 0,pI x14.aBw,pS x14.aBs,aU x14.aBt,pI x18.aBw,pS x18.aBz,pS x18.aBs,pI x18.aCa,pI x18.aBu.aBw,pS x18.aBu.aBs,aU x18.aBu.aBt,iI x18.aBt,rV x18.aBN]) ?_)))))))))))))
 refine dI (hg:=bG g36) [62] (bI func226 (KB fu (aP.mk x2.aBy x6 x10 v23 x14 x18) _ z37)) (dD (hg:=bG g36) [1] (b6 [pS p0.aBy,bK p0.aBv]) (dI (hg:=bG g36) [63,64] (bI func221 (uZ fu x38 p0 _ z39)) (dI (hg:=bG g36) [65] J6 (dI [61,66] (FG g36) (dN ?_)))))
 refine bF H (fun h41 H=>gE 6) fun h41 H=>?_;refine gQ 3 ?_;refine q1 (b6 [pS x2.aBy,rS x6,bW x10,aaU v23 0,pI x14.aBw,pS x14.aBs,aU x14.aBt,pI x18.aBw,pS x18.aBz,pS x18.aBs,pI x18.aCa,pI x18.aBu.aBw,pS x18.aBu.aBs,aU x18.aBu.aBt,iI x18.aBt,rV x18.aBN]) ?_;exact gE 3
end
end Go.Proofs.YtfcoaagbccmahaaGreat.W

namespace Go.Proofs.YtfcoaagbccmahaaGreat.W
set_option maxRecDepth 20000
set_option maxHeartbeats 4000000
open Go.RowKit Go.WalkArith Go.IntWalk
attribute [local irreducible] wt wl
def am8(fu:Nat):Prop:= ∀(px:aB) (pi:Int),0≤pi∧wt px≤1073741824→Ok (dK fu px pi) (fun r=>wt r≤wt px)
theorem cI:bS am8:=(bS.ge 2147483648).imp fun fu hfu px pi hpre=>by
 have:=aB.wt_eq px
 have:=bB px.aBv
 refine oD (fun g1=>?_) fun g1=>?_
 ·have:s_.size=0:=rfl
  have:=(aX:wl ([]:List aB)=0∧_)
  have:=aB.wt_mk s_ []
  exact oS
 have:=bB (px.aBv)
 refine oG fun z2=>?_
 have:=cW px.aBv ((pi).toNat) z2.2
 exact oS
def adR(fu:Nat):Prop:= ∀(px:aB),wt px≤1073741824→Ok (mR fu px) (fun r=>wl r≤wt px)
theorem gA:bS adR:=((bS.ge 2147483648).and iF).imp fun fu ⟨hfu,iF⟩ px hpre=>by
 have:=aB.wt_eq px
 refine vH (iF px.aBv bR) fun x2 x3 h1=>?_
 dsimp only at h1
 exact oS
def ahL(fu:Nat):Prop:= ∀(px:aB) (pi:Int),0≤pi→Ok (wN fu px pi) (fun r=>wl r≤wl px.aBv)
theorem mW:bS ahL:=((bS.ge 2147483648).and jD).imp fun fu ⟨hfu,jD⟩ px pi hpre=>by
 have:=aB.wt_eq px
 have:=bB px.aBv
 refine oB (jD pi (px.aBv.length:Int)) fun x2 h1=>oG fun z2=>?_
 have:=UB (x2:Int).toNat (px.aBv.length:Int).toNat px.aBv
 exact oS
def ak2(fu:Nat):Prop:= ∀(p0:List aB),wl p0≤67108864→Ok (JI fu p0) (fun r=>wl r≤2*wl p0)
theorem zR:bS ak2:=((bS.ge 2147483648).and g0).imp fun fu ⟨hfu,g0⟩ p0 hpre=>by
 have:=(aX:wl ([]:List aA)=0∧_)
 refine QP p0 2 (fun i1 v3 hl2 hI3 _ _=>?_) ?_
 ·have:=bB p0
  have:=cW p0 i1 hl2
  refine oB (g0 (aT p0 i1) bR) fun x7 h4=>?_
  have:=bB (v3)
  have:=cG x7
  refine oG fun z5=>?_
  have:=b8 v3 ([x7]:List aA)
  exact qD
 intro v3 h1
 exact oS
def adU(fu:Nat):Prop:= ∀(p0:LB),wl p0≤1073741824→Ok (lI fu p0) (fun r=>wt r≤wl p0)
theorem fR:bS adU:=((bS.ge 2147483648).and mX).imp fun fu ⟨hfu,mX⟩ p0 hpre=>by
 refine oB (mX p0 bR) fun x2 h1=>?_
 have:s_.size=0:=rfl
 have:=aB.wt_mk s_ x2
 exact oS
def adS(fu:Nat):Prop:= ∀(p0:List aA),wl p0≤33554432→Ok (CA fu p0) (fun r=>wl r≤8*wl p0)
theorem t2:bS adS:=((bS.ge 2147483648).and iT).imp fun fu ⟨hfu,iT⟩ p0 hpre=>by
 have:=(aX:wl ([]:List aB)=0∧_)
 refine QP p0 8 (fun i1 v3 hl2 hI3 _ _=>?_) ?_
 ·have:=bB p0
  have:=cW p0 i1 hl2
  refine oB (iT (aT p0 i1) bR) fun x7 h4=>?_
  have:=bB (v3)
  have:=cG x7
  refine oG fun z5=>?_
  have:=b8 v3 ([x7]:List aB)
  exact qD
 intro v3 h1
 exact oS
def am9(fu:Nat):Prop:= ∀(p3:Bool) (px:aB),wt px≤1073741824→Ok (EH fu p3 px) (fun r=>wt r≤wt px)
theorem o4:bS am9:=((bS.ge 2147483648).and cP).imp fun fu ⟨hfu,cP⟩ p3 px hpre=>by
 refine oW (fun g1=>?_) fun g1=>?_
 ·have:s_.size=0:=rfl
  have:=(aX:wl ([]:List aB)=0∧_)
  have:=aB.wt_mk s_ []
  exact oS
 refine oB (cP px bR) fun x3 _=>?_;refine oW (fun g3=>?_) fun g3=>?_
 ·have:s_.size=0:=rfl
  have:=(aX:wl ([]:List aB)=0∧_)
  have:=aB.wt_mk s_ []
  exact oS
 exact oS
def S3(fu:Nat):Prop:= ∀(p1:aV),wt p1≤1048576→(∀a∈p1.aBP,K9 a.aBC)→Ok (yQ fu p1) (fun r=>wt r≤64*wt p1+64)
theorem yI:bS S3:=(((((((((bS.ge 2147483648).and l8).and bO).and fR).and eO).and t2).and iT).and uT).and o4).imp fun fu ⟨⟨⟨⟨⟨⟨⟨⟨hfu,l8⟩,bO⟩,fR⟩,eO⟩,t2⟩,iT⟩,uT⟩,o4⟩ p1 hpre hB=>by
 refine oB (l8 p1 bR) fun x2 _=>?_;refine oW (fun g2=>?_) fun g2=>?_
 ·have:s_.size=0:=rfl
  have:=(aX:wl ([]:List aB)=0∧_)
  have:=aB.wt_mk s_ []
  exact oS
 refine Ok.sok (E:=fun v5=>wl v5≤5) ?_ ?_
 ·have:=aV.wt_eq p1
  refine oC (fun g4=>?_) fun g4=>?_
  ·have:=(aX:wl ([]:LB)=0∧_)
   have:A4.size=4:=rfl
   have:=cG A4
   have:=bA A4
   refine oG fun z5=>?_
   have:=b8 ([]:LB) ([A4]:LB)
   exact oI
  have:=(aX:wl ([]:LB)=0∧_)
  exact oI
 intro v5 h3
 refine Ok.sok (E:=fun v9=>wl v9≤11) ?_ ?_
 ·have:=aV.wt_eq p1
  refine oC (fun g7=>?_) fun g7=>?_
  ·have:=bB (v5)
   have:jF.size=5:=rfl
   have:=cG jF
   have:=bA jF
   refine oG fun z8=>?_
   have:=b8 v5 ([jF]:LB)
   exact oI
  exact oI
 intro v9 h6
 have:JF.size=5:=rfl
 refine oB (bO JF) fun x13 h9=>?_
 have:=aV.wt_eq p1
 refine oB (bO p1.aBs) fun x15 h10=>oB (fR p1.aBB bR) fun x17 h11=>oB (fR v9 bR) fun x19 h12=>?_
 have:=avD x13 x15 x17 x19
 refine oB (eO ([x13,x15,x17,x19]:List aB) bR) fun x21 h13=>?_
 have:=aB.wt_eq x21
 refine QP p1.aBP 64 (fun i22 v24 hl15 hI16 _ _=>?_) ?_
 ·have:=bB p1.aBP
  have:=cW p1.aBP i22 hl15
  refine Ok.lt fun y27 h17=>?_
  have:=congrArg wt h17
  have:=aG.wt_eq y27
  refine oB (bO y27.aBs) fun x30 h18=>oB (t2 y27.aBL bR) fun x32 h19=>oB (iT y27.aBJ bR) fun x34 h20=>?_
  have:s_.size=0:=rfl
  have:=aB.wt_mk s_ x32
  have:=GM x30 (aB.mk s_ x32) x34
  refine oB (eO ([x30,(aB.mk s_ x32),x34]:List aB) bR) fun x36 h21=>?_;refine oC (fun g22=>?_) fun g22=>?_
  ·refine oB (fR y27.aBF bR) fun x39 h23=>oB (uT y27.aBC bR (by rw [show y27=aT p1.aBP i22 by assumption];exact aaV hB (by assumption))) fun x41 h24=>?_
   have:=aB.wt_eq x36
   have:=bB (x36.aBv)
   have:=k7 x39 x41
   refine oG fun z25=>?_
   have:=bB (v24)
   have:=b8 x36.aBv ([x39,x41]:List aB)
   have:=aB.wt_mk x36.aBy (x36.aBv++([x39,x41]:List aB))
   have:=cG (aB.mk x36.aBy (x36.aBv++([x39,x41]:List aB)))
   refine oG fun z26=>?_
   have:=b8 v24 ([(aB.mk x36.aBy (x36.aBv++([x39,x41]:List aB)))]:List aB)
   exact qD
  have:=bB (v24)
  have:=aB.wt_eq x36
  have:=aB.wt_mk x36.aBy x36.aBv
  have:=cG (aB.mk x36.aBy x36.aBv)
  refine oG fun z27=>?_
  have:=b8 v24 ([(aB.mk x36.aBy x36.aBv)]:List aB)
  exact qD
 intro v24 h14
 have:=aB.wt_mk x21.aBy v24
 exact oB (o4 true (aB.mk x21.aBy v24) bR) fun x46 h28=>oS
def S2(fu:Nat):Prop:= ∀(p1:aB),wt p1≤65536→Ok (yP fu p1) (fun r=>wt r.1≤16*wt p1)
theorem yH:bS S2:=(((((((((((bS.ge 2147483648).and cI).and gA).and dR).and mW).and zR).and g0).and n0).and cP).and yI).and gI).imp fun fu ⟨⟨⟨⟨⟨⟨⟨⟨⟨⟨hfu,cI⟩,gA⟩,dR⟩,mW⟩,zR⟩,g0⟩,n0⟩,cP⟩,yI⟩,gI⟩ p1 hpre=>by
 refine oB (cI p1 3 bR) fun x2 h1=>oB (gA x2 bR) fun x4 h2=>oB (cI p1 1 bR) fun x6 h3=>oB (cI p1 2 bR) fun x8 h4=>oB (gA x8 bR) fun x10 h5=>?_
 have:A4.size=4:=rfl
 refine oB (dR x4 A4) fun x12 _=>?_
 have:jF.size=5:=rfl
 refine oB (dR x4 jF) fun x14 _=>?_
 have:=aB.wt_eq p1
 refine oB (mW p1 4 bR) fun x16 h8=>?_
 have:=(aX:wl ([]:List aG)=0∧_)
 refine apC (PA:=fun a=>K9 a.aBC) x16 8 (fun i17 v19 hl10 hI11 hI11B _ _=>?_) ?_
 ·have:=bB x16
  have:=cW x16 i17 hl10
  refine oB (cI (aT x16 i17) 0 bR) fun x23 h12=>oB (cI (aT x16 i17) 1 bR) fun x25 h13=>?_
  have:=aB.wt_eq x25
  refine oB (zR x25.aBv bR) fun x27 h14=>oB (cI (aT x16 i17) 2 bR) fun x29 h15=>oB (g0 x29 bR) fun x31 h16=>?_
  have:=aB.wt_eq (aT x16 i17)
  have:=bB ((aT x16 i17).aBv)
  refine oD (fun g17=>?_) fun g17=>?_
  ·refine oB (cI (aT x16 i17) 3 bR) fun x34 h18=>oB (gA x34 bR) fun x36 h19=>oB (cI (aT x16 i17) 4 bR) fun x38 h20=>SF (n0 x38 bR) fun x40 h21 h21B=>?_
   have:=bB (v19)
   have:=aB.wt_eq x23
   have:=aG.wt_mk x23.aBy x27 x31 true x36 x40
   have:=cG (aG.mk x23.aBy x27 x31 true x36 x40)
   refine oG fun z22=>?_
   have:=b8 v19 ([(aG.mk x23.aBy x27 x31 true x36 x40)]:List aG)
   exact oX hI11B
  have:=bB (v19)
  have:=aB.wt_eq x23
  have:s_.size=0:=rfl
  have:=(aX:wl ([]:List aA)=0∧_)
  have:=aA.wt_mk 0 s_ []
  have:=(aX:wl ([]:List aM)=0∧_)
  have:=(aX:wl ([]:List bV)=0∧_)
  have:=aM.wt_mk 0 s_ s_ 0 (aA.mk 0 s_ []) [] []
  have:=(aX:wl ([]:LB)=0∧_)
  have:=aG.wt_mk x23.aBy x27 x31 false [] (aM.mk 0 s_ s_ 0 (aA.mk 0 s_ []) [] [])
  have:=cG (aG.mk x23.aBy x27 x31 false [] (aM.mk 0 s_ s_ 0 (aA.mk 0 s_ []) [] []))
  refine oG fun z23=>?_
  have:=b8 v19 ([(aG.mk x23.aBy x27 x31 false [] (aM.mk 0 s_ s_ 0 (aA.mk 0 s_ []) [] []))]:List aG)
  exact oX hI11B
 rintro v19 ⟨h9,h9B⟩
 refine oB (cP p1 bR) fun x44 _=>?_;refine oW (fun g25=>?_) fun g25=>?_
 ·have:s_.size=0:=rfl
  have:=(aX:wl ([]:LB)=0∧_)
  have:=aV.wt_mk s_ [] false false []
  exact oS
 have:=bB p1.aBv
 refine oD (fun g26=>?_) fun g26=>?_
 ·have:s_.size=0:=rfl
  have:=(aX:wl ([]:LB)=0∧_)
  have:=aV.wt_mk s_ [] false false []
  exact oS
 have:=aB.wt_eq x6
 have:=aV.wt_mk x6.aBy x10 x12 x14 v19
 refine oB (yI (aV.mk x6.aBy x10 x12 x14 v19) bR (by first|assumption|trivial)) fun x48 h27=>oB (gI x48 p1 bR) fun x50 _=>?_;refine oW (fun g29=>?_) fun g29=>?_
 ·have:s_.size=0:=rfl
  have:=(aX:wl ([]:LB)=0∧_)
  have:=aV.wt_mk s_ [] false false []
  exact oS
 exact oS
def LF(fu:Nat):Prop:= ∀(pd:aO),wt pd≤1048576→Ok (tK fu pd) (fun r=>wt r≤64*wt pd+64)
theorem tE:bS LF:=(((((((bS.ge 2147483648).and bO).and fR).and eO).and t2).and jV).and o4).imp fun fu ⟨⟨⟨⟨⟨⟨hfu,bO⟩,fR⟩,eO⟩,t2⟩,jV⟩,o4⟩ pd hpre=>by
 have:RG.size=4:=rfl
 refine oB (bO RG) fun x2 h1=>?_
 have:=aO.wt_eq pd
 refine oB (bO pd.aBs) fun x4 h2=>oB (fR pd.aBF bR) fun x6 h3=>?_
 have:=GM x2 x4 x6
 refine oB (eO ([x2,x4,x6]:List aB) bR) fun x8 h4=>?_
 have:=aB.wt_eq x8
 refine QP pd.aBx 64 (fun i9 v11 hl6 hI7 _ _=>?_) ?_
 ·have:=bB pd.aBx
  have:=cW pd.aBx i9 hl6
  have:=aE.wt_eq (aT pd.aBx i9)
  refine oB (bO ((aT pd.aBx i9).aBs)) fun x15 h8=>oB (t2 ((aT pd.aBx i9).aBM) bR) fun x17 h9=>?_
  have:=cG x15
  have:=bB (x17)
  refine oG fun z10=>?_
  have:=bB (v11)
  have:s_.size=0:=rfl
  have:=b8 ([x15]:List aB) x17
  have:=aB.wt_mk s_ (([x15]:List aB)++x17)
  have:=cG (aB.mk s_ (([x15]:List aB)++x17))
  refine oG fun z11=>?_
  have:=b8 v11 ([(aB.mk s_ (([x15]:List aB)++x17))]:List aB)
  exact qD
 intro v11 h5
 refine oB (jV pd bR) fun x21 _=>?_
 have:=aB.wt_mk x8.aBy v11
 exact oB (o4 x21 (aB.mk x8.aBy v11) bR) fun x23 h13=>oS
def LM(fu:Nat):Prop:= ∀(px:aB),wt px≤65536→Ok (tO fu px) (fun r=>wt r.1≤16*wt px)
theorem tH:bS LM:=((((((((bS.ge 2147483648).and cI).and gA).and mW).and zR).and cP).and tE).and gI).imp fun fu ⟨⟨⟨⟨⟨⟨⟨hfu,cI⟩,gA⟩,mW⟩,zR⟩,cP⟩,tE⟩,gI⟩ px hpre=>by
 refine oB (cI px 1 bR) fun x2 h1=>oB (cI px 2 bR) fun x4 h2=>oB (gA x4 bR) fun x6 h3=>?_
 have:=aB.wt_eq px
 refine oB (mW px 3 bR) fun x8 h4=>?_
 have:=(aX:wl ([]:List aE)=0∧_)
 refine QP x8 4 (fun i9 v11 hl6 hI7 _ _=>?_) ?_
 ·have:=bB x8
  have:=cW x8 i9 hl6
  refine oB (cI (aT x8 i9) 0 bR) fun x15 h8=>?_
  have:=aB.wt_eq (aT x8 i9)
  refine oB (mW (aT x8 i9) 1 bR) fun x17 h9=>oB (zR x17 bR) fun x19 h10=>?_
  have:=bB (v11)
  have:=aB.wt_eq x15
  have:=aE.wt_mk x15.aBy x19
  have:=cG (aE.mk x15.aBy x19)
  refine oG fun z11=>?_
  have:=b8 v11 ([(aE.mk x15.aBy x19)]:List aE)
  exact qD
 intro v11 h5
 refine oB (cP px bR) fun x22 _=>?_;refine oW (fun g13=>?_) fun g13=>?_
 ·have:s_.size=0:=rfl
  have:=(aX:wl ([]:LB)=0∧_)
  have:=aO.wt_mk s_ [] []
  exact oS
 have:=bB px.aBv
 refine oD (fun g14=>?_) fun g14=>?_
 ·have:s_.size=0:=rfl
  have:=(aX:wl ([]:LB)=0∧_)
  have:=aO.wt_mk s_ [] []
  exact oS
 have:=aB.wt_eq x2
 have:=aO.wt_mk x2.aBy x6 v11
 refine oB (tE (aO.mk x2.aBy x6 v11) bR) fun x26 h15=>oB (gI x26 px bR) fun x28 _=>?_;refine oW (fun g17=>?_) fun g17=>?_
 ·have:s_.size=0:=rfl
  have:=(aX:wl ([]:LB)=0∧_)
  have:=aO.wt_mk s_ [] []
  exact oS
 exact oS
def aaS(fu:Nat):Prop:= ∀(px:aB),wt px≤33554432→Ok (zI fu px) (fun r=>wl r≤4*wt px)
theorem rR:bS aaS:=(((bS.ge 2147483648).and cI).and g0).imp fun fu ⟨⟨hfu,cI⟩,g0⟩ px hpre=>by
 have:=(aX:wl ([]:List aD)=0∧_)
 have:=aB.wt_eq px
 refine QP px.aBv 4 (fun i1 v3 hl2 hI3 _ _=>?_) ?_
 ·have:=bB px.aBv
  have:=cW px.aBv i1 hl2
  refine oB (cI (aT px.aBv i1) 0 bR) fun x7 h4=>oB (cI (aT px.aBv i1) 1 bR) fun x9 h5=>oB (g0 x9 bR) fun x11 h6=>?_
  have:=bB (v3)
  have:=aB.wt_eq x7
  have:=aD.wt_mk x7.aBy x11
  have:=cG (aD.mk x7.aBy x11)
  refine oG fun z7=>?_
  have:=b8 v3 ([(aD.mk x7.aBy x11)]:List aD)
  exact qD
 intro v3 h1
 exact oS
def adT(fu:Nat):Prop:= ∀(p0:List aD),wl p0≤16777216→Ok (CB fu p0) (fun r=>wt r≤16*wl p0)
theorem t3:bS adT:=((((bS.ge 2147483648).and bO).and iT).and eO).imp fun fu ⟨⟨⟨hfu,bO⟩,iT⟩,eO⟩ p0 hpre=>by
 have:=(aX:wl ([]:List aB)=0∧_)
 refine QP p0 16 (fun i1 v3 hl2 hI3 _ _=>?_) ?_
 ·have:=bB p0
  have:=cW p0 i1 hl2
  have:=aD.wt_eq (aT p0 i1)
  refine oB (bO ((aT p0 i1).aBz)) fun x7 h4=>oB (iT ((aT p0 i1).aBu) bR) fun x9 h5=>?_
  have:=k7 x7 x9
  refine oB (eO ([x7,x9]:List aB) bR) fun x11 h6=>?_
  have:=bB (v3)
  have:=cG x11
  refine oG fun z7=>?_
  have:=b8 v3 ([x11]:List aB)
  exact qD
 intro v3 h1
 have:s_.size=0:=rfl
 have:=aB.wt_mk s_ v3
 exact oS
def LH(fu:Nat):Prop:= ∀(p1:aL),wt p1≤1048576→(∀a∈p1.aBW,K9 a.aBC)→Ok (tN fu p1) (fun r=>wt r≤64*wt p1+128)
theorem tG:bS LH:=(((((((((bS.ge 2147483648).and jX).and iT).and eO).and bO).and fR).and t3).and uT).and o4).imp fun fu ⟨⟨⟨⟨⟨⟨⟨⟨hfu,jX⟩,iT⟩,eO⟩,bO⟩,fR⟩,t3⟩,uT⟩,o4⟩ p1 hpre hB=>by
 refine oB (jX p1 bR) fun x2 _=>?_;refine oW (fun g2=>?_) fun g2=>?_
 ·have:s_.size=0:=rfl
  have:=(aX:wl ([]:List aB)=0∧_)
  have:=aB.wt_mk s_ []
  exact oS
 refine Ok.sok (E:=fun v5=>wl v5≤8) ?_ ?_
 ·have:=aL.wt_eq p1
  refine oC (fun g4=>?_) fun g4=>?_
  ·have:=(aX:wl ([]:LB)=0∧_)
   have:wI.size=7:=rfl
   have:=cG wI
   have:=bA wI
   refine oG fun z5=>?_
   have:=b8 ([]:LB) ([wI]:LB)
   exact oI
  have:=(aX:wl ([]:LB)=0∧_)
  exact oI
 intro v5 h3
 have:=aL.wt_eq p1
 refine Ok.sok (E:=fun(v8,v9)=>v8.size+wl v9≤8*wt p1.aBR+16) ?_ ?_
 ·refine oC (fun g7=>?_) fun g7=>?_
  ·refine oB (iT p1.aBR bR) fun x12 h8=>?_
   have:=cG x12
   refine oB (eO ([x12]:List aB) bR) fun x14 h9=>?_
   have:=aB.wt_eq x14
   exact oI
  have:s_.size=0:=rfl
  have:=(aX:wl ([]:List aB)=0∧_)
  exact oI
 rintro⟨v8,v9⟩ h6
 dsimp only at h6
 have:RH.size=4:=rfl
 refine oB (bO RH) fun x16 h10=>oB (bO p1.aBz) fun x18 h11=>oB (fR p1.aBF bR) fun x20 h12=>oB (iT p1.aBH bR) fun x22 h13=>oB (t3 p1.aBK bR) fun x24 h14=>oB (fR v5 bR) fun x26 h15=>?_
 have:=aB.wt_mk v8 v9
 have:=al2 x16 x18 x20 x22 x24 x26 (aB.mk v8 v9)
 refine oB (eO ([x16,x18,x20,x22,x24,x26,(aB.mk v8 v9)]:List aB) bR) fun x28 h16=>?_
 have:=aB.wt_eq x28
 refine QP p1.aBW 64 (fun i29 v31 hl18 hI19 _ _=>?_) ?_
 ·have:=bB p1.aBW
  have:=cW p1.aBW i29 hl18
  refine Ok.lt fun y34 h20=>?_
  have:=congrArg wt h20
  have:=aQ.wt_eq y34
  refine oB (bO y34.aBs) fun x37 h21=>oB (fR y34.aBF bR) fun x39 h22=>oB (uT y34.aBC bR (by rw [show y34=aT p1.aBW i29 by assumption];exact aaV hB (by assumption))) fun x41 h23=>?_
  have:=GM x37 x39 x41
  refine oB (eO ([x37,x39,x41]:List aB) bR) fun x43 h24=>?_
  have:=bB (v31)
  have:=aB.wt_eq x43
  have:=aB.wt_mk x43.aBy x43.aBv
  have:=cG (aB.mk x43.aBy x43.aBv)
  refine oG fun z25=>?_
  have:=b8 v31 ([(aB.mk x43.aBy x43.aBv)]:List aB)
  exact qD
 intro v31 h17
 have:=aB.wt_mk x28.aBy v31
 exact oB (o4 true (aB.mk x28.aBy v31) bR) fun x46 h26=>oS
def LO(fu:Nat):Prop:= ∀(p1:aB),wt p1≤65536→Ok (tR fu p1) (fun r=>wt r.1≤16*wt p1)
theorem tJ:bS LO:=((((((((((bS.ge 2147483648).and cI).and gA).and g0).and rR).and mW).and n0).and cP).and tG).and gI).imp fun fu ⟨⟨⟨⟨⟨⟨⟨⟨⟨hfu,cI⟩,gA⟩,g0⟩,rR⟩,mW⟩,n0⟩,cP⟩,tG⟩,gI⟩ p1 hpre=>by
 refine oB (cI p1 1 bR) fun x2 h1=>oB (cI p1 2 bR) fun x4 h2=>oB (gA x4 bR) fun x6 h3=>oB (cI p1 3 bR) fun x8 h4=>oB (g0 x8 bR) fun x10 h5=>oB (cI p1 4 bR) fun x12 h6=>oB (rR x12 bR) fun x14 h7=>oB (cI p1 5 bR) fun x16 h8=>oB (cI p1 6 bR) fun x18 h9=>?_;refine Ok.sok (E:=fun(v22,v19,v20,v21)=>wl v22+v21.size≤2*wt x18) ?_ ?_
 ·have:=aB.wt_eq x18
  have:=bB x18.aBv
  refine oD (fun g11=>?_) fun g11=>?_
  ·have:=bB (x18.aBv)
   refine oG fun z12=>?_
   have:=cW x18.aBv 0 z12
   have:wl (List.take 1 x18.aBv)=wl (List.take 0 x18.aBv)+wt (aT x18.aBv 0)+1:=K8 x18.aBv 0 z12
   refine oB (g0 (aT x18.aBv 0) bR) fun x26 h13=>?_
   have:=aA.wt_eq x26
   exact oI
  have:s_.size=0:=rfl
  have:=(aX:wl ([]:List aA)=0∧_)
  exact oI
 rintro⟨v22,v19,v20,v21⟩ h10
 dsimp only at h10
 have:=aB.wt_eq p1
 refine oB (mW p1 7 bR) fun x28 h14=>?_
 have:=(aX:wl ([]:List aQ)=0∧_)
 refine apC (PA:=fun a=>K9 a.aBC) x28 4 (fun i29 v31 hl16 hI17 hI17B _ _=>?_) ?_
 ·have:=bB x28
  have:=cW x28 i29 hl16
  refine oB (cI (aT x28 i29) 0 bR) fun x35 h18=>oB (cI (aT x28 i29) 1 bR) fun x37 h19=>oB (gA x37 bR) fun x39 h20=>oB (cI (aT x28 i29) 2 bR) fun x41 h21=>SF (n0 x41 bR) fun x43 h22 h22B=>?_
  have:=bB (v31)
  have:=aB.wt_eq x35
  have:=aQ.wt_mk x35.aBy x39 x43
  have:=cG (aQ.mk x35.aBy x39 x43)
  refine oG fun z23=>?_
  have:=b8 v31 ([(aQ.mk x35.aBy x39 x43)]:List aQ)
  exact oX hI17B
 rintro v31 ⟨h15,h15B⟩
 refine oB (cP p1 bR) fun x46 _=>?_;refine oW (fun g25=>?_) fun g25=>?_
 ·have:s_.size=0:=rfl
  have:=(aX:wl ([]:List aA)=0∧_)
  have:=aA.wt_mk 0 s_ []
  have:=(aX:wl ([]:LB)=0∧_)
  have:=(aX:wl ([]:List aD)=0∧_)
  have:=aL.wt_mk s_ [] (aA.mk 0 s_ []) [] false false (aA.mk 0 s_ []) []
  exact oS
 have:=bB p1.aBv
 refine oD (fun g26=>?_) fun g26=>?_
 ·have:s_.size=0:=rfl
  have:=(aX:wl ([]:List aA)=0∧_)
  have:=aA.wt_mk 0 s_ []
  have:=(aX:wl ([]:LB)=0∧_)
  have:=(aX:wl ([]:List aD)=0∧_)
  have:=aL.wt_mk s_ [] (aA.mk 0 s_ []) [] false false (aA.mk 0 s_ []) []
  exact oS
 have:=aB.wt_eq x2
 have:=aB.wt_eq x16
 have:=bB x16.aBv
 have:=aA.wt_mk v20 v21 v22
 have:=aL.wt_mk x2.aBy x6 x10 x14 (decide ((x16.aBv.length:Int)>0)) v19 (aA.mk v20 v21 v22) v31
 refine oB (tG (aL.mk x2.aBy x6 x10 x14 (decide ((x16.aBv.length:Int)>0)) v19 (aA.mk v20 v21 v22) v31) bR (by first|assumption|trivial)) fun x50 h27=>oB (gI x50 p1 bR) fun x52 _=>?_;refine oW (fun g29=>?_) fun g29=>?_
 ·have:s_.size=0:=rfl
  have:=(aX:wl ([]:List aA)=0∧_)
  have:=aA.wt_mk 0 s_ []
  have:=(aX:wl ([]:LB)=0∧_)
  have:=(aX:wl ([]:List aD)=0∧_)
  have:=aL.wt_mk s_ [] (aA.mk 0 s_ []) [] false false (aA.mk 0 s_ []) []
  exact oS
 exact oS
def LG(fu:Nat):Prop:= ∀(pf:aP),wt pf≤1048576→(K9 pf.aBC)→Ok (tM fu pf) (fun r=>wt r≤64*wt pf+128)
theorem tF:bS LG:=(((((((((bS.ge 2147483648).and jW).and bO).and iT).and eO).and fR).and t3).and uT).and o4).imp fun fu ⟨⟨⟨⟨⟨⟨⟨⟨hfu,jW⟩,bO⟩,iT⟩,eO⟩,fR⟩,t3⟩,uT⟩,o4⟩ pf hpre hB=>by
 refine oB (jW pf bR) fun x2 _=>?_;refine oW (fun g2=>?_) fun g2=>?_
 ·have:s_.size=0:=rfl
  have:=(aX:wl ([]:List aB)=0∧_)
  have:=aB.wt_mk s_ []
  exact oS
 have:=(aX:wl ([]:List aB)=0∧_)
 have:=aP.wt_eq pf
 refine QP pf.aBL 16 (fun i4 v6 hl4 hI5 _ _=>?_) ?_
 ·have:=bB pf.aBL
  have:=cW pf.aBL i4 hl4
  have:=aW.wt_eq (aT pf.aBL i4)
  refine oB (bO ((aT pf.aBL i4).aBs)) fun x10 h6=>oB (iT ((aT pf.aBL i4).aBu) bR) fun x12 h7=>?_
  have:=k7 x10 x12
  refine oB (eO ([x10,x12]:List aB) bR) fun x14 h8=>?_
  have:=bB (v6)
  have:=cG x14
  refine oG fun z9=>?_
  have:=b8 v6 ([x14]:List aB)
  exact qD
 intro v6 h3
 have:amI.size=2:=rfl
 refine oB (bO amI) fun x17 h10=>oB (bO pf.aBs) fun x19 h11=>oB (fR pf.aBF bR) fun x21 h12=>oB (t3 pf.aBK bR) fun x23 h13=>oB (iT pf.aBJ bR) fun x25 h14=>oB (uT pf.aBC bR (by first|assumption|trivial)) fun x27 h15=>?_
 have:s_.size=0:=rfl
 have:=aB.wt_mk s_ v6
 have:=al2 x17 x19 x21 x23 (aB.mk s_ v6) x25 x27
 exact oB (eO ([x17,x19,x21,x23,(aB.mk s_ v6),x25,x27]:List aB) bR) fun x29 h16=>oB (o4 true x29 bR) fun x31 h17=>oS
def LN(fu:Nat):Prop:= ∀(p1:aB),wt p1≤65536→Ok (tP fu p1) (fun r=>wt r.1≤16*wt p1)
theorem tI:bS LN:=(((((((((bS.ge 2147483648).and cI).and gA).and rR).and g0).and n0).and cP).and tF).and gI).imp fun fu ⟨⟨⟨⟨⟨⟨⟨⟨hfu,cI⟩,gA⟩,rR⟩,g0⟩,n0⟩,cP⟩,tF⟩,gI⟩ p1 hpre=>by
 refine oB (cI p1 1 bR) fun x2 h1=>oB (cI p1 2 bR) fun x4 h2=>oB (gA x4 bR) fun x6 h3=>oB (cI p1 3 bR) fun x8 h4=>oB (rR x8 bR) fun x10 h5=>oB (cI p1 5 bR) fun x12 h6=>oB (g0 x12 bR) fun x14 h7=>oB (cI p1 6 bR) fun x16 h8=>SF (n0 x16 bR) fun x18 h9 h9B=>oB (cI p1 4 bR) fun x20 h10=>?_
 have:=(aX:wl ([]:List aW)=0∧_)
 have:=aB.wt_eq x20
 refine QP x20.aBv 4 (fun i21 v23 hl12 hI13 _ _=>?_) ?_
 ·have:=bB x20.aBv
  have:=cW x20.aBv i21 hl12
  refine oB (cI (aT x20.aBv i21) 0 bR) fun x27 h14=>oB (cI (aT x20.aBv i21) 1 bR) fun x29 h15=>oB (g0 x29 bR) fun x31 h16=>?_
  have:=bB (v23)
  have:=aB.wt_eq x27
  have:=aW.wt_mk x27.aBy x31
  have:=cG (aW.mk x27.aBy x31)
  refine oG fun z17=>?_
  have:=b8 v23 ([(aW.mk x27.aBy x31)]:List aW)
  exact qD
 intro v23 h11
 refine oB (cP p1 bR) fun x34 _=>?_;refine oW (fun g19=>?_) fun g19=>?_
 ·have:s_.size=0:=rfl
  have:=(aX:wl ([]:List aA)=0∧_)
  have:=aA.wt_mk 0 s_ []
  have:=(aX:wl ([]:List aM)=0∧_)
  have:=(aX:wl ([]:List bV)=0∧_)
  have:=aM.wt_mk 0 s_ s_ 0 (aA.mk 0 s_ []) [] []
  have:=(aX:wl ([]:LB)=0∧_)
  have:=(aX:wl ([]:List aD)=0∧_)
  have:=aP.wt_mk s_ [] [] [] (aA.mk 0 s_ []) (aM.mk 0 s_ s_ 0 (aA.mk 0 s_ []) [] [])
  exact oS
 have:=aB.wt_eq p1
 have:=bB p1.aBv
 refine oD (fun g20=>?_) fun g20=>?_
 ·have:s_.size=0:=rfl
  have:=(aX:wl ([]:List aA)=0∧_)
  have:=aA.wt_mk 0 s_ []
  have:=(aX:wl ([]:List aM)=0∧_)
  have:=(aX:wl ([]:List bV)=0∧_)
  have:=aM.wt_mk 0 s_ s_ 0 (aA.mk 0 s_ []) [] []
  have:=(aX:wl ([]:LB)=0∧_)
  have:=(aX:wl ([]:List aD)=0∧_)
  have:=aP.wt_mk s_ [] [] [] (aA.mk 0 s_ []) (aM.mk 0 s_ s_ 0 (aA.mk 0 s_ []) [] [])
  exact oS
 have:=aB.wt_eq x2
 have:=aP.wt_mk x2.aBy x6 x10 v23 x14 x18
 refine oB (tF (aP.mk x2.aBy x6 x10 v23 x14 x18) bR (by first|assumption|trivial)) fun x38 h21=>oB (gI x38 p1 bR) fun x40 _=>?_;refine oW (fun g23=>?_) fun g23=>?_
 ·have:s_.size=0:=rfl
  have:=(aX:wl ([]:List aA)=0∧_)
  have:=aA.wt_mk 0 s_ []
  have:=(aX:wl ([]:List aM)=0∧_)
  have:=(aX:wl ([]:List bV)=0∧_)
  have:=aM.wt_mk 0 s_ s_ 0 (aA.mk 0 s_ []) [] []
  have:=(aX:wl ([]:LB)=0∧_)
  have:=(aX:wl ([]:List aD)=0∧_)
  have:=aP.wt_mk s_ [] [] [] (aA.mk 0 s_ []) (aM.mk 0 s_ s_ 0 (aA.mk 0 s_ []) [] [])
  exact oS
 exact oS
end Go.Proofs.YtfcoaagbccmahaaGreat.W

namespace Go.Proofs.YtfcoaagbccmahaaGreat.W
set_option maxRecDepth 100000
set_option maxHeartbeats 40000000
noncomputable section
open Tryz Go.RowKit Go.Proofs
attribute [local irreducible] lt
def acI(fu:Nat)(ps:ByteArray):Nat→Unit→Option (LR Unit Bool):=fun i1 _=>gd (i1<(ps).size) (sw (!decide ((((ET ps i1).toNat:Int):Int)=32)) (some (.ret false)) (some (.next ())))
def II(fu:Nat)(ps:ByteArray):Option Bool:=so (loopN (acI fu ps) (ps.size-0) 0 ()) fun _=>some true
theorem acJ(fu:Nat)(ps:ByteArray)(r:Bool)(H:II fu ps=some r):bQ Tryz.prog 97 [pS ps] (pB r):=by
 refine qJ func97 H (fun C hC H=>?_)
 refine gQ 9 ?_;refine szF 0 (fun hl2=>?_)
 refine bU (σ:=Unit) (fun i1 _=>⟨[(0,pS ps),(2,pB false),(3,pN i1)],⟨[],[]⟩⟩) (fun _=>⟨[(2,pB false)],⟨[],[]⟩⟩) (eJ H) ?_ ?_
 ·rintro i1 ⟨⟩ H
  refine gQ 5 ?_;refine q1 (bD.lenS rfl rfl rfl Tryz.underlying9) ?_;refine gQ 2 ?_;refine cT H (fun h3 h3l H=>?_) (fun h3 H=>?_)
  ·have h3n:i1<ps.size:=by have:=of_decide_eq_true h3;omega
   refine gQ 7 ?_;refine cA H fun z4 H=>(q1 (bD.indexS (k:=i1) rfl rfl rfl rfl z4 Tryz.underlying9) ?_)
   refine gQ 2 ?_;refine bF H (fun h5 H=>gE 4) fun h5 H=>?_;exact gE 6
  exact gE 0
 rintro⟨⟩ H
 exact gE 4
def MY(fu:Nat)(p1:ByteArray×(LB)×(List aV)×(List aO)×(List aL)×(List aP))(p2:aB):Option (Bool×(ByteArray×(LB)×(List aV)×(List aO)×(List aL)×(List aP))):=bd (dK fu p2 0) fun x2=>sw (decide (x2.aBy=JF)) (bd (yP fu p2) fun(x5,x6)=>gd ((p1.2.2.1).length+(([x5]:List aV)).length≤68719476736) (some (x6,(p1.1,p1.2.1,p1.2.2.1++([x5]:List aV),p1.2.2.2.1,p1.2.2.2.2.1,p1.2.2.2.2.2)))) (sw (decide (x2.aBy=RG)) (bd (tO fu p2) fun(x10,x11)=>gd ((p1.2.2.2.1).length+(([x10]:List aO)).length≤68719476736) (some (x11,(p1.1,p1.2.1,p1.2.2.1,p1.2.2.2.1++([x10]:List aO),p1.2.2.2.2.1,p1.2.2.2.2.2)))) (sw (decide (x2.aBy=RH)) (bd (tR fu p2) fun(x15,x16)=>gd ((p1.2.2.2.2.1).length+(([x15]:List aL)).length≤68719476736) (some (x16,(p1.1,p1.2.1,p1.2.2.1,p1.2.2.2.1,p1.2.2.2.2.1++([x15]:List aL),p1.2.2.2.2.2)))) (sw (decide (x2.aBy=amI)) (bd (tP fu p2) fun(x20,x21)=>gd ((p1.2.2.2.2.2).length+(([x20]:List aP)).length≤68719476736) (some (x21,(p1.1,p1.2.1,p1.2.2.1,p1.2.2.2.1,p1.2.2.2.2.1,p1.2.2.2.2.2++([x20]:List aP))))) (some (false,p1)))))
theorem agH(fu:Nat)(p1:ByteArray×(LB)×(List aV)×(List aO)×(List aL)×(List aP))(p2:aB)(r:Bool×(ByteArray×(LB)×(List aV)×(List aO)×(List aL)×(List aP)))(H:MY fu p1 p2=some r):cB Tryz.prog 176 [.ptr 0 0,(aB.pv p2)] ⟨[some ⟨141,[pS p1.1,rS p1.2.1,AC p1.2.2.1 0,nA p1.2.2.2.1 1,nC p1.2.2.2.2.1 2,nB p1.2.2.2.2.2 3]⟩],[⟨156,5,aV.trs (p1.2.2.1),false⟩,⟨39,3,aO.trs (p1.2.2.2.1),false⟩,⟨163,12,aL.trs (p1.2.2.2.2.1),false⟩,⟨213,16,aP.trs (p1.2.2.2.2.2),false⟩]⟩ (fun q t=>q=(pB r.1)∧t=⟨[some ⟨141,[pS r.2.1,rS r.2.2.1,AC r.2.2.2.1 0,nA r.2.2.2.2.1 1,nC r.2.2.2.2.2.1 2,nB r.2.2.2.2.2.2 3]⟩],[⟨156,5,aV.trs (r.2.2.2.1),false⟩,⟨39,3,aO.trs (r.2.2.2.2.1),false⟩,⟨163,12,aL.trs (r.2.2.2.2.2.1),false⟩,⟨213,16,aP.trs (r.2.2.2.2.2.2),false⟩]⟩):=by
 refine qJ func176 H (fun C hC H=>?_)
 refine gQ 2 ?_;refine q1 (fE ([pS p2.aBy,bK p2.aBv])) ?_;refine gQ 5 ?_;refine q1 (b6 [pS p2.aBy,bK p2.aBv]) (bM H fun x2 z1 H=>(q1 (bI func175 (c5 fu p2 0 _ z1)) ?_))
 refine gQ 8 ?_;refine bF H (fun h3 H=>?_) (fun h3 H=>?_)
 ·refine gQ 2 ?_;refine q1 (b6 [pS p2.aBy,bK p2.aBv]) (eF H fun x5 x6 z4 H=>(q1 (bI func200 (Q9 fu p2 _ z4)) ?_))
  refine gQ 8 ?_;refine cA H fun z7 H=>(dW ?_)
  iterate 2 refine dI [0] bH ?_
  refine dI [24] uV (dI [25] bZ (dD [26] eB (dD [5] (b6 [pS x5.aBs,rS x5.aBB,pB x5.aB1,pB x5.aBR,gC x5.aBP]) (dI [28] (fY ([x5]:List aV)) (dE [27,29] (jO z7) (dI [23] uV (dI [31] bZ (iY [32,30] hM (dN ?_)))))))))
  exact gE 5
 refine gQ 5 ?_;refine bF H (fun h8 H=>?_) (fun h8 H=>?_)
 ·refine gQ 2 ?_;refine q1 (b6 [pS p2.aBy,bK p2.aBv]) (eF H fun x10 x11 z9 H=>(q1 (bI func201 (KN fu p2 _ z9)) ?_))
  refine gQ 8 ?_;refine cA H fun z12 H=>(dW ?_)
  iterate 2 refine dI [0] bH ?_
  refine dI [42] uV (dI [43] bZ (dD [44] eB (dD [7] (b6 [pS x10.aBs,rS x10.aBF,dF x10.aBx]) (dI [46] (fY ([x10]:List aO)) (dE [45,47] (jO z12) (dI [41] uV (dI [49] bZ (iY [50,48] hM (dN ?_)))))))))
  exact gE 5
 refine gQ 5 ?_;refine bF H (fun h13 H=>?_) (fun h13 H=>?_)
 ·refine gQ 2 ?_;refine q1 (b6 [pS p2.aBy,bK p2.aBv]) (eF H fun x15 x16 z14 H=>(q1 (bI func202 (KS fu p2 _ z14)) ?_))
  refine gQ 8 ?_;refine cA H fun z17 H=>(dW ?_)
  iterate 2 refine dI [0] bH ?_
  refine dI [60] uV (dI [61] bZ (dD [62] eB (dD [9] (b6 [pS x15.aBz,rS x15.aBF,pI x15.aBH.aBw,pS x15.aBH.aBs,aU x15.aBH.aBt,bW x15.aBK,pB x15.aBX,pB x15.aB4,pI x15.aBR.aBw,pS x15.aBR.aBs,aU x15.aBR.aBt,mK x15.aBW]) (dI [64] (fY ([x15]:List aL)) (dE [63,65] (jO z17) (dI [59] uV (dI [67] bZ (iY [68,66] hM (dN ?_)))))))))
  exact gE 5
 refine gQ 5 ?_;refine bF H (fun h18 H=>?_) (fun h18 H=>?_)
 ·refine gQ 2 ?_;refine q1 (b6 [pS p2.aBy,bK p2.aBv]) (eF H fun x20 x21 z19 H=>(q1 (bI func203 (KP fu p2 _ z19)) ?_))
  refine gQ 8 ?_;refine cA H fun z22 H=>(dW ?_)
  iterate 2 refine dI [0] bH ?_
  refine dI [78] uV (dI [79] bZ (dD [80] eB (dD [11] (b6 [pS x20.aBs,rS x20.aBF,bW x20.aBK,VT x20.aBL,pI x20.aBJ.aBw,pS x20.aBJ.aBs,aU x20.aBJ.aBt,pI x20.aBC.aBw,pS x20.aBC.aBz,pS x20.aBC.aBs,pI x20.aBC.aCa,pI x20.aBC.aBu.aBw,pS x20.aBC.aBu.aBs,aU x20.aBC.aBu.aBt,iI x20.aBC.aBt,rV x20.aBC.aBN]) (dI [82] (fY ([x20]:List aP)) (dE [81,83] (jO z22) (dI [77] uV (dI [85] bZ (iY [86,84] hM (dN ?_)))))))))
  exact gE 5
 exact gE 5
def acK(fu:Nat)(p0:aN):Nat→((LB))→Option (LR ((LB)) ((LB)×(LB)×(LB)×(LB))):=fun i1 v3=>gd ((v3).length+(([((aT p0.aBI i1).aBs)]:LB)).length≤68719476736) (some (.next (v3++([((aT p0.aBI i1).aBs)]:LB))))
def acM(fu:Nat)(p0:aN)(v3:LB)(i7:Nat)(v10 v11:LB):Nat→((LB))→Option (LR ((LB)) (LR ((LB)×(LB)) ((LB)×(LB)×(LB)×(LB)))):=fun i15 v17=>gd ((v17).length+(([((aT ((aT p0.aBA i7).aBx) i15).aBs)]:LB)).length≤68719476736) (some (.next (v17++([((aT ((aT p0.aBA i7).aBx) i15).aBs)]:LB))))
def acL(fu:Nat)(p0:aN)(v3:LB):Nat→((LB)×(LB))→Option (LR ((LB)×(LB)) ((LB)×(LB)×(LB)×(LB))):=fun i7 (v10,v11)=>gd ((v10).length+(([((aT p0.aBA i7).aBs)]:LB)).length≤68719476736) (so (loopN (acM fu p0 v3 i7 v10 v11) (((aT p0.aBA i7).aBx).length-0) 0 v11) fun v17=>some (.next ((v10++([((aT p0.aBA i7).aBs)]:LB)),v17)))
def acN(fu:Nat)(p0:aN)(v3 v10 v11:LB):Nat→((LB))→Option (LR ((LB)) ((LB)×(LB)×(LB)×(LB))):=fun i21 v23=>lt (aT p0.aBT i21) fun y26=>gd ((v23).length+(([y26.aBs]:LB)).length≤68719476736) (some (.next (v23++([y26.aBs]:LB))))
def IJ(fu:Nat)(p0:aN):Option ((LB)×(LB)×(LB)×(LB)):=so (loopN (acK fu p0) (p0.aBI.length-0) 0 ([])) fun v3=>so (loopN (acL fu p0 v3) (p0.aBA.length-0) 0 (([]),([]))) fun(v10,v11)=>so (loopN (acN fu p0 v3 v10 v11) (p0.aBT.length-0) 0 ([])) fun v23=>some (v3,v10,v11,v23)
theorem acO(fu:Nat)(p0:aN)(r:(LB)×(LB)×(LB)×(LB))(H:IJ fu p0=some r):bQ Tryz.prog 204 [(aN.pv p0)] (.tup [rS r.1,rS r.2.1,rS r.2.2.1,rS r.2.2.2]):=by
 refine qJ func204 H (fun C hC H=>?_)
 refine gQ 2 ?_;refine q1 (fE (eZ p0)) ?_;refine gQ 7 ?_;refine q1 (nU ([]:LB)) ?_;refine gQ 4 ?_;refine q1 (nU ([]:LB)) ?_;refine gQ 4 ?_;refine q1 (nU ([]:LB)) ?_;refine gQ 4 ?_;refine q1 (nU ([]:LB)) ?_;refine gQ 7 ?_;refine cO.fact (cK 0 2 rfl rfl rfl (aV.trs_len _)) (fun hl4=>?_)
 refine bU (σ:=(LB)) (fun i1 v3=>⟨[(1,.ptr 0 0),(2,.nil),(3,.nil),(4,.nil),(5,.nil),(6,aS v3 0),(7,aS [] 1),(8,aS [] 2),(9,aS [] 3),(10,pN i1)],⟨[some ⟨141,eZ p0⟩],[⟨9,1,aY (v3),false⟩,⟨9,1,aY ([]),false⟩,⟨9,1,aY ([]),false⟩,⟨9,1,aY ([]),false⟩]⟩⟩) (fun v3=>⟨[(1,.ptr 0 0),(2,.nil),(3,.nil),(4,.nil),(5,.nil),(6,aS v3 0),(7,aS [] 1),(8,aS [] 2),(9,aS [] 3)],⟨[some ⟨141,eZ p0⟩],[⟨9,1,aY (v3),false⟩,⟨9,1,aY ([]),false⟩,⟨9,1,aY ([]),false⟩,⟨9,1,aY ([]),false⟩]⟩⟩) (eJ H) ?_ ?_
 ·rintro i1 v3 H
  refine gQ 9 ?_;refine cT H (fun h5 h5l H=>?_) (fun h5 H=>?_)
  ·refine gQ 11 ?_;refine q1 (fY ([((aT p0.aBI i1).aBs)]:LB)) (cA H fun z6 H=>(q1 (jO z6) ?_))
   exact gE 7
  exact gE 0
 rintro v3 H
 refine gQ 5 ?_;refine cO.fact (cK 0 3 rfl rfl rfl (aO.trs_len _)) (fun hl12=>?_)
 refine bU (σ:=(LB)×(LB)) (fun i7 (v10,v11)=>⟨[(1,.ptr 0 0),(2,.nil),(3,.nil),(4,.nil),(5,.nil),(6,aS v3 0),(7,aS v10 1),(8,aS v11 2),(9,aS [] 3),(11,pN i7)],⟨[some ⟨141,eZ p0⟩],[⟨9,1,aY (v3),false⟩,⟨9,1,aY (v10),false⟩,⟨9,1,aY (v11),false⟩,⟨9,1,aY ([]),false⟩]⟩⟩) (fun(v10,v11)=>⟨[(1,.ptr 0 0),(2,.nil),(3,.nil),(4,.nil),(5,.nil),(6,aS v3 0),(7,aS v10 1),(8,aS v11 2),(9,aS [] 3)],⟨[some ⟨141,eZ p0⟩],[⟨9,1,aY (v3),false⟩,⟨9,1,aY (v10),false⟩,⟨9,1,aY (v11),false⟩,⟨9,1,aY ([]),false⟩]⟩⟩) (eJ H) ?_ ?_
 ·rintro i7 ⟨v10,v11⟩ H
  refine gQ 9 ?_;refine cT H (fun h13 h13l H=>?_) (fun h13 H=>?_)
  ·refine gQ 12 ?_;refine q1 (fY ([((aT p0.aBA i7).aBs)]:LB)) (cA H fun z14 H=>(q1 (jO z14) ?_))
   refine gQ 6 ?_;refine bU (σ:=(LB)) (fun i15 v17=>⟨[(1,.ptr 0 0),(2,.nil),(3,.nil),(4,.nil),(5,.nil),(6,aS v3 0),(7,aS (v10++([((aT p0.aBA i7).aBs)]:LB)) 1),(8,aS v17 2),(9,aS [] 3),(11,pN i7),(12,pN i15),(34,pN i7),(35,.ptr 0 3),(36,o9 p0.aBA),(37,pN p0.aBA.length),(38,pB (decide ((i7:Int)<(p0.aBA.length:Int)))),(41,aS v10 1),(42,.ptr 0 3),(43,o9 p0.aBA),(44,pN i7),(45,.eptr (aO.cs (aT p0.aBA i7))),(46,.eptr (aO.cs (aT p0.aBA i7))),(47,pS ((aT p0.aBA i7).aBs)),(48,rS ([((aT p0.aBA i7).aBs)]:LB)),(49,aS (v10++([((aT p0.aBA i7).aBs)]:LB)) 1)],⟨[some ⟨141,eZ p0⟩],[⟨9,1,aY (v3),false⟩,⟨9,1,aY (v10++([((aT p0.aBA i7).aBs)]:LB)),false⟩,⟨9,1,aY (v17),false⟩,⟨9,1,aY ([]),false⟩]⟩⟩) (fun v17=>⟨[(1,.ptr 0 0),(2,.nil),(3,.nil),(4,.nil),(5,.nil),(6,aS v3 0),(7,aS (v10++([((aT p0.aBA i7).aBs)]:LB)) 1),(8,aS v17 2),(9,aS [] 3),(11,pN i7),(34,pN i7),(35,.ptr 0 3),(36,o9 p0.aBA),(37,pN p0.aBA.length),(38,pB (decide ((i7:Int)<(p0.aBA.length:Int)))),(41,aS v10 1),(42,.ptr 0 3),(43,o9 p0.aBA),(44,pN i7),(45,.eptr (aO.cs (aT p0.aBA i7))),(46,.eptr (aO.cs (aT p0.aBA i7))),(47,pS ((aT p0.aBA i7).aBs)),(48,rS ([((aT p0.aBA i7).aBs)]:LB)),(49,aS (v10++([((aT p0.aBA i7).aBs)]:LB)) 1)],⟨[some ⟨141,eZ p0⟩],[⟨9,1,aY (v3),false⟩,⟨9,1,aY (v10++([((aT p0.aBA i7).aBs)]:LB)),false⟩,⟨9,1,aY (v17),false⟩,⟨9,1,aY ([]),false⟩]⟩⟩) (eJ H) ?_ ?_
   ·rintro i15 v17 H
    refine gQ 10 ?_;refine X7 56 (aE.trs_len _) (fun hl18=>?_)
    refine gQ 3 ?_;refine cT H (fun h19 h19l H=>?_) (fun h19 H=>?_)
    ·refine gQ 15 ?_;refine q1 (fY ([((aT ((aT p0.aBA i7).aBx) i15).aBs)]:LB)) (cA H fun z20 H=>(q1 (jO z20) ?_))
     exact gE 7
    exact gE 0
   rintro v17 H
   exact gE 5
  exact gE 0
 rintro⟨v10,v11⟩ H
 refine gQ 5 ?_;refine cO.fact (cK 0 5 rfl rfl rfl (aP.trs_len _)) (fun hl24=>?_)
 refine bU (σ:=(LB)) (fun i21 v23=>⟨[(1,.ptr 0 0),(2,.nil),(3,.nil),(4,.nil),(5,.nil),(6,aS v3 0),(7,aS v10 1),(8,aS v11 2),(9,aS v23 3),(13,pN i21)],⟨[some ⟨141,eZ p0⟩],[⟨9,1,aY (v3),false⟩,⟨9,1,aY (v10),false⟩,⟨9,1,aY (v11),false⟩,⟨9,1,aY (v23),false⟩]⟩⟩) (fun v23=>⟨[(2,.nil),(3,.nil),(4,.nil),(5,.nil),(6,aS v3 0),(7,aS v10 1),(8,aS v11 2),(9,aS v23 3)],⟨[some ⟨141,eZ p0⟩],[⟨9,1,aY (v3),false⟩,⟨9,1,aY (v10),false⟩,⟨9,1,aY (v11),false⟩,⟨9,1,aY (v23),false⟩]⟩⟩) (eJ H) ?_ ?_
 ·rintro i21 v23 H
  refine gQ 9 ?_;refine cT H (fun h25 h25l H=>?_) (fun h25 H=>?_)
  ·refine gQ 8 ?_;refine fZ H fun y26 h27 H=>(q1 (xW h27 h25l) ?_)
   refine gQ 2 ?_;refine q1 (fY ([y26.aBs]:LB)) (cA H fun z28 H=>(q1 (jO z28) ?_))
   exact gE 7
  exact gE 0
 rintro v23 H
 exact gE 11
def acP(fu:Nat)(pp:aN):Nat→Unit→Option (LR Unit Bool):=fun i1 _=>bd (tB fu (aT pp.aBI i1)) fun x5=>sw (!(x5)) (some (.ret false)) (some (.next ()))
def acQ(fu:Nat)(pp:aN):Nat→Unit→Option (LR Unit Bool):=fun i7 _=>bd (n8 fu (aT pp.aBA i7)) fun x11=>sw (!(x11)) (some (.ret false)) (some (.next ()))
def acR(fu:Nat)(pp:aN):Nat→Unit→Option (LR Unit Bool):=fun i13 _=>lt (aT pp.aBE i13) fun y16=>bd (oA fu y16) fun x19=>sw (!(x19)) (some (.ret false)) (some (.next ()))
def acS(fu:Nat)(pp:aN):Nat→Unit→Option (LR Unit Bool):=fun i21 _=>lt (aT pp.aBT i21) fun y24=>bd (n9 fu y24) fun x27=>sw (!(x27)) (some (.ret false)) (some (.next ()))
def IK(fu:Nat)(pp:aN):Option Bool:=so (loopN (acP fu pp) (pp.aBI.length-0) 0 ()) fun _=>so (loopN (acQ fu pp) (pp.aBA.length-0) 0 ()) fun _=>so (loopN (acR fu pp) (pp.aBE.length-0) 0 ()) fun _=>so (loopN (acS fu pp) (pp.aBT.length-0) 0 ()) fun _=>some true
theorem acT(fu:Nat)(pp:aN)(r:Bool)(H:IK fu pp=some r):bQ Tryz.prog 208 [(aN.pv pp)] (pB r):=by
 refine qJ func208 H (fun C hC H=>?_)
 refine gQ 2 ?_;refine q1 (fE (eZ pp)) ?_;refine gQ 7 ?_;refine cO.fact (cK 0 2 rfl rfl rfl (aV.trs_len _)) (fun hl2=>?_)
 refine bU (σ:=Unit) (fun i1 _=>⟨[(1,.ptr 0 0),(2,pB false),(3,pN i1)],⟨[some ⟨141,eZ pp⟩],[]⟩⟩) (fun _=>⟨[(1,.ptr 0 0),(2,pB false)],⟨[some ⟨141,eZ pp⟩],[]⟩⟩) (eJ H) ?_ ?_
 ·rintro i1 ⟨⟩ H
  refine gQ 9 ?_;refine cT H (fun h3 h3l H=>?_) (fun h3 H=>?_)
  ·refine gQ 9 ?_;refine q1 (gS (aV.cs (aT pp.aBI i1))) (bM H fun x5 z4 H=>(q1 (bI func229 (EF fu (aT pp.aBI i1) _ z4)) ?_))
   refine gQ 2 ?_;refine bF H (fun h6 H=>gE 4) fun h6 H=>?_;exact gE 6
  exact gE 0
 rintro⟨⟩ H
 refine gQ 5 ?_;refine cO.fact (cK 0 3 rfl rfl rfl (aO.trs_len _)) (fun hl8=>?_)
 refine bU (σ:=Unit) (fun i7 _=>⟨[(1,.ptr 0 0),(2,pB false),(4,pN i7)],⟨[some ⟨141,eZ pp⟩],[]⟩⟩) (fun _=>⟨[(1,.ptr 0 0),(2,pB false)],⟨[some ⟨141,eZ pp⟩],[]⟩⟩) (eJ H) ?_ ?_
 ·rintro i7 ⟨⟩ H
  refine gQ 9 ?_;refine cT H (fun h9 h9l H=>?_) (fun h9 H=>?_)
  ·refine gQ 9 ?_;refine q1 (gS (aO.cs (aT pp.aBA i7))) (bM H fun x11 z10 H=>(q1 (bI func230 (yX fu (aT pp.aBA i7) _ z10)) ?_))
   refine gQ 2 ?_;refine bF H (fun h12 H=>gE 4) fun h12 H=>?_;exact gE 6
  exact gE 0
 rintro⟨⟩ H
 refine gQ 5 ?_;refine cO.fact (cK 0 4 rfl rfl rfl (aL.trs_len _)) (fun hl14=>?_)
 refine bU (σ:=Unit) (fun i13 _=>⟨[(1,.ptr 0 0),(2,pB false),(5,pN i13)],⟨[some ⟨141,eZ pp⟩],[]⟩⟩) (fun _=>⟨[(1,.ptr 0 0),(2,pB false)],⟨[some ⟨141,eZ pp⟩],[]⟩⟩) (eJ H) ?_ ?_
 ·rintro i13 ⟨⟩ H
  refine gQ 9 ?_;refine cT H (fun h15 h15l H=>?_) (fun h15 H=>?_)
  ·refine gQ 8 ?_;refine fZ H fun y16 h17 H=>(q1 (xW h17 h15l) (q1 (gS (aL.cs y16)) (bM H fun x19 z18 H=>(q1 (bI func231 (yZ fu y16 _ z18)) ?_))))
   refine gQ 2 ?_;refine bF H (fun h20 H=>gE 4) fun h20 H=>?_;exact gE 6
  exact gE 0
 rintro⟨⟩ H
 refine gQ 5 ?_;refine cO.fact (cK 0 5 rfl rfl rfl (aP.trs_len _)) (fun hl22=>?_)
 refine bU (σ:=Unit) (fun i21 _=>⟨[(1,.ptr 0 0),(2,pB false),(6,pN i21)],⟨[some ⟨141,eZ pp⟩],[]⟩⟩) (fun _=>⟨[(2,pB false)],⟨[some ⟨141,eZ pp⟩],[]⟩⟩) (eJ H) ?_ ?_
 ·rintro i21 ⟨⟩ H
  refine gQ 9 ?_;refine cT H (fun h23 h23l H=>?_) (fun h23 H=>?_)
  ·refine gQ 8 ?_;refine fZ H fun y24 h25 H=>(q1 (xW h25 h23l) (q1 (gS (aP.cs y24)) (bM H fun x27 z26 H=>(q1 (bI func232 (yY fu y24 _ z26)) ?_))))
   refine gQ 2 ?_;refine bF H (fun h28 H=>gE 4) fun h28 H=>?_;exact gE 6
  exact gE 0
 rintro⟨⟩ H
 exact gE 4
def u6(fu:Nat)(p0:aN):Option Bool:=bd (IJ fu p0) fun(x2,x3,x4,x5)=>bd (dT fu p0.aBs) fun x7=>sw (!(x7)) (some false) (bd (gH fu p0.aB6 5) fun x10=>sw (!(x10)) (some false) (bd (lC fu p0.aB6 p0.aBs) fun x13=>sw x13 (some false) (sw (decide ((aZ ((aZ ((aZ ((p0.aBI.length:Int)+(p0.aBA.length:Int)))+(p0.aBE.length:Int)))+(p0.aBT.length:Int)):Int)>24)) (some false) (bd (kO fu x2) fun x17=>sw x17 (bd (kO fu x3) fun x20=>sw x20 (bd (kO fu x4) fun x23=>sw x23 (bd (kO fu x5) fun x26=>sw x26 (bd (IK fu p0) fun x29=>some x29) (some false)) (some false)) (some false)) (some false)))))
theorem MJ(fu:Nat)(p0:aN)(r:Bool)(H:u6 fu p0=some r):bQ Tryz.prog 177 [(aN.pv p0)] (pB r):=by
 refine qJ func177 H (fun C hC H=>?_)
 refine gQ 2 ?_;refine q1 (fE (eZ p0)) ?_;refine gQ 4 ?_;refine q1 (b6 [pS p0.aBs,rS p0.aB6,QR p0.aBI,o9 p0.aBA,nK p0.aBE,JC p0.aBT]) (auK H fun x2 x3 x4 x5 z1 H=>(q1 (bI func204 (acO fu p0 _ z1)) ?_))
 refine gQ 15 ?_;refine bM H fun x7 z6 H=>(q1 (bI func205 (eA fu p0.aBs _ z6)) ?_)
 refine gQ 2 ?_;refine dL 18 H (fun g8 H=>gE 36) fun g8 H=>?_;refine gQ 2 ?_;refine bM H fun x10 z9 H=>(qg g8 (bI func206 (gP fu p0.aB6 5 _ z9)) ?_)
 refine gQ 3 ?_;refine dL 24 H (fun g11 H=>gE 30) fun g11 H=>?_;refine gQ 4 ?_;refine bM H fun x13 z12 H=>(qg g11 (bI func153 (mB fu p0.aB6 p0.aBs _ z12)) ?_)
 refine gQ 2 ?_;refine dL 31 H (fun g14 H=>gE 23) fun g14 H=>?_;refine gQ 6 ?_;refine qg g14 rAw ?_;refine gQ 3 ?_;refine qg g14 rAw ?_;refine gQ 3 ?_;refine qg g14 rAw ?_;refine gQ 3 ?_;refine bF H (fun h15 H=>gE 4) fun h15 H=>?_;refine gQ 4 ?_;refine bM H fun x17 z16 H=>(q1 (bI func207 (l9 fu x2 _ z16)) (q1 bH ?_))
 refine dL 51 H (fun g18 H=>?_) fun g18 H=>?_
 ·refine qg g18 bH (bM H fun x20 z19 H=>(qg g18 (bI func207 (l9 fu x3 _ z19)) ?_))
  refine gQ 2 ?_;refine dL 55 H (fun g21 H=>?_) fun g21 H=>?_
  ·refine qg g21 bH (bM H fun x23 z22 H=>(qg g21 (bI func207 (l9 fu x4 _ z22)) ?_))
   refine gQ 2 ?_;refine dL 59 H (fun g24 H=>?_) fun g24 H=>?_
   ·refine qg g24 bH (bM H fun x26 z25 H=>(qg g24 (bI func207 (l9 fu x5 _ z25)) ?_))
    refine gQ 2 ?_;refine dL 63 H (fun g27 H=>?_) fun g27 H=>?_
    ·refine qg g27 (b6 [pS p0.aBs,rS p0.aB6,QR p0.aBI,o9 p0.aBA,nK p0.aBE,JC p0.aBT]) (bM H fun x29 z28 H=>(qg g27 (bI func208 (acT fu p0 _ z28)) ?_))
     exact gE 3
    exact gE 5
   exact gE 9
  exact gE 13
 exact gE 17
def MK(fu:Nat)(p0 x2:aB)(x4:LB)(x5:Bool)(x7:aB)(x9:Bool):Nat→(ByteArray×(LB)×(List aV)×(List aO)×(List aL)×(List aP))→Option (LR (ByteArray×(LB)×(List aV)×(List aO)×(List aL)×(List aP)) (aN×Bool)):=fun i17 (v18,v19,v24,v25,v26,v27)=>bd (MY fu (v18,v19,v24,v25,v26,v27) (aT p0.aBv i17)) fun(x31,x32)=>sw (!(x31)) (some (.ret ((aN.mk s_ [] [] [] [] []),false))) (some (.next (x32.1,x32.2.1,x32.2.2.1,x32.2.2.2.1,x32.2.2.2.2.1,x32.2.2.2.2.2)))
def u7(fu:Nat)(p0:aB):Option (aN×Bool):=bd (dK fu p0 2) fun x2=>bd (BB fu x2.aBv) fun(x4,x5)=>bd (dK fu p0 1) fun x7=>bd (iC fu p0) fun x9=>sw (!(x9)) (some ((aN.mk s_ [] [] [] [] []),false)) (sw (decide ((p0.aBv.length:Int)<3)) (some ((aN.mk s_ [] [] [] [] []),false)) (gd (0<(p0.aBv).length) (sw (!decide ((aT p0.aBv 0).aBy=Z5)) (some ((aN.mk s_ [] [] [] [] []),false)) (gd (2<(p0.aBv).length) (sw (!decide ((aT p0.aBv 2).aBy=s_)) (some ((aN.mk s_ [] [] [] [] []),false)) (sw (!(x5)) (some ((aN.mk s_ [] [] [] [] []),false)) (so (loopN (MK fu p0 x2 x4 x5 x7 x9) (p0.aBv.length-3) 3 (x7.aBy,x4,([]),([]),([]),([]))) fun(v18,v19,v24,v25,v26,v27)=>bd (u6 fu (aN.mk v18 v19 v24 v25 v26 v27)) fun x35=>sw (!(x35)) (some ((aN.mk s_ [] [] [] [] []),false)) (some ((aN.mk v18 v19 v24 v25 v26 v27),true)))))))))
theorem ML(fu:Nat)(p0:aB)(r:aN×Bool)(H:u7 fu p0=some r):bQ Tryz.prog 146 [(aB.pv p0)] (.tup [(aN.pv r.1),pB r.2]):=by
 refine qJ func146 H (fun C hC H=>?_)
 refine gQ 2 ?_;refine q1 (fE ([pS p0.aBy,bK p0.aBv])) ?_;refine gQ 5 ?_;refine q1 (b6 [pS p0.aBy,bK p0.aBv]) (bM H fun x2 z1 H=>(q1 (bI func175 (c5 fu p0 2 _ z1)) (q1 tF1 (eF H fun x4 x5 z3 H=>(q1 (bI func174 (IQ fu x2.aBv _ z3)) ?_)))))
 refine gQ 8 ?_;refine q1 (b6 [pS p0.aBy,bK p0.aBv]) (bM H fun x7 z6 H=>(q1 (bI func175 (c5 fu p0 1 _ z6)) ?_))
 refine gQ 9 ?_;refine q1 (b6 [pS p0.aBy,bK p0.aBv]) (bM H fun x9 z8 H=>(q1 (bI func173 (c9 fu p0 _ z8)) ?_))
 refine gQ 2 ?_;refine dL 23 H (fun g10 H=>gE 33) fun g10 H=>?_;refine gQ 6 ?_;refine dL 29 H (fun g11 H=>?_) fun g11 H=>?_
 ·have g11n:p0.aBv.length<3:=by have:=of_decide_eq_true g11;omega
  exact gE 27
 refine gQ 2 ?_;refine cA H fun z12 H=>?_;refine gQ 6 ?_;refine dL 37 H (fun g13 H=>gE 19) fun g13 H=>?_;refine gQ 2 ?_;refine cA H fun z14 H=>?_;refine gQ 6 ?_;refine dL 45 H (fun g15 H=>gE 11) fun g15 H=>?_;refine gQ 4 ?_;refine bF H (fun h16 H=>gE 6) fun h16 H=>?_;refine gQ 6 ?_;refine cO.wk (Wk.regBox (k:=2) (j:=2) 156 5 (by decide) rfl rfl) (cO.wk (Wk.regBox (k:=2) (j:=3) 39 3 (by decide) rfl rfl) (cO.wk (Wk.regBox (k:=2) (j:=4) 163 12 (by decide) rfl rfl) (cO.wk (Wk.regBox (k:=2) (j:=5) 213 16 (by decide) rfl rfl) ?_)))
 refine fS 25 (aB.trs_len _) (fun hl28=>?_)
 refine bU (σ:=ByteArray×(LB)×(List aV)×(List aO)×(List aL)×(List aP)) (fun i17 (v18,v19,v24,v25,v26,v27)=>⟨[(1,.ptr 0 0),(2,.ptr 1 0),(3,pB false),(6,.ptr 2 0),(7,pN i17)],⟨[some ⟨189,[pS p0.aBy,bK p0.aBv]⟩,some ⟨141,[pS s_,.nil,.nil,.nil,.nil,.nil]⟩,some ⟨141,[pS v18,rS v19,AC v24 0,nA v25 1,nC v26 2,nB v27 3]⟩],[⟨156,5,aV.trs (v24),false⟩,⟨39,3,aO.trs (v25),false⟩,⟨163,12,aL.trs (v26),false⟩,⟨213,16,aP.trs (v27),false⟩]⟩⟩) (fun(v18,v19,v24,v25,v26,v27)=>⟨[(2,.ptr 1 0),(3,pB false),(6,.ptr 2 0)],⟨[some ⟨189,[pS p0.aBy,bK p0.aBv]⟩,some ⟨141,[pS s_,.nil,.nil,.nil,.nil,.nil]⟩,some ⟨141,[pS v18,rS v19,AC v24 0,nA v25 1,nC v26 2,nB v27 3]⟩],[⟨156,5,aV.trs (v24),false⟩,⟨39,3,aO.trs (v25),false⟩,⟨163,12,aL.trs (v26),false⟩,⟨213,16,aP.trs (v27),false⟩]⟩⟩) (eJ H) ?_ ?_
 ·rintro i17 ⟨v18,v19,v24,v25,v26,v27⟩ H
  refine gQ 9 ?_;refine cT H (fun h29 h29l H=>?_) (fun h29 H=>?_)
  ·refine gQ 9 ?_;refine q1 (gS (aB.cs (aT p0.aBv i17))) (eF H fun x31 x32 z30 H=>(q1 (fD [2] [0,1,2,3] func176 (agH fu (v18,v19,v24,v25,v26,v27) (aT p0.aBv i17) _ z30)) ?_))
   refine gQ 2 ?_;refine bF H (fun h33 H=>gE 6) fun h33 H=>?_;exact gE 6
  exact gE 0
 rintro⟨v18,v19,v24,v25,v26,v27⟩ H
 refine gQ 3 ?_;refine q1 (b6 [pS v18,rS v19,AC v24 0,nA v25 1,nC v26 2,nB v27 3]) (bM H fun x35 z34 H=>(q1 (bI func177 (MJ fu (aN.mk v18 v19 v24 v25 v26 v27) _ z34)) ?_))
 refine gQ 2 ?_;refine bF H (fun h36 H=>gE 6) fun h36 H=>?_;refine gQ 3 ?_;refine q1 (b6 [pS v18,rS v19,AC v24 0,nA v25 1,nC v26 2,nB v27 3]) ?_;exact gE 3
def yN(fu:Nat)(ps:ByteArray):Option (aN×Bool):=bd (w7 fu ps) fun(x2,x3)=>sw (!(x3)) (some ((aN.mk s_ [] [] [] [] []),false)) (bd (u7 fu x2) fun(x6,x7)=>some (x6,x7))
theorem Q4(fu:Nat)(ps:ByteArray)(r:aN×Bool)(H:yN fu ps=some r):bQ Tryz.prog 98 [pS ps] (.tup [(aN.pv r.1),pB r.2]):=by
 refine qJ func98 H (fun C hC H=>?_)
 refine gQ 8 ?_;refine eF H fun x2 x3 z1 H=>(q1 (bI func145 (WF fu ps _ z1)) ?_)
 refine gQ 13 ?_;refine bF H (fun h4 H=>gE 6) fun h4 H=>?_;refine gQ 3 ?_;refine q1 (b6 [pS x2.aBy,bK x2.aBv]) (eF H fun x6 x7 z5 H=>(q1 (bI func146 (ML fu x2 _ z5)) ?_))
 exact gE 5
def TM(m:ByteArray→Option (aH×Int)):Prop:= ∀(ps:ByteArray) (r:aH×Int),m ps=some r→vL Tryz.prog 46 [pS ps] ⟨[],[]⟩ [] 141 6 (aN.trs (r.1.aBr)) (fun k=> .tup [.agg [sO r.1.aBr k],pI r.2])
def Q5(fu:Nat)(ps:ByteArray)(x2:LB):Nat→((List aN))→Option (LR ((List aN)) (aH×Int)):=fun i3 v5=>bd (II fu (aT x2 i3)) fun x9=>sw x9 (some (.next v5)) (bd (yN fu (aT x2 i3)) fun(x12,x13)=>sw (!(x13)) (some (.ret ((aH.mk []),(v5.length:Int)))) (sw (decide ((v5.length:Int)=5)) (some (.ret ((aH.mk []),(v5.length:Int)))) (gd ((v5).length+(([x12]:List aN)).length≤68719476736) (some (.next (v5++([x12]:List aN)))))))
def yO(fu:Nat)(ps:ByteArray):Option (aH×Int):=bd (FM fu ps (10:UInt8)) fun x2=>so (loopN (Q5 fu ps x2) (x2.length-0) 0 ([])) fun v5=>some ((aH.mk v5),(-1))
theorem Q6(fu:Nat):TM (yO fu):=by
 intro ps r H
 unfold vL
 refine qJ func46 H (fun C hC H=>?_)
 refine gQ 14 ?_;refine bM H fun x2 z1 H=>(q1 (bI func96 (YI fu ps (10:UInt8) _ z1)) ?_)
 refine gQ 7 ?_;refine cO.wk (Wk.regBox (k:=1) (j:=0) 141 6 (by decide) rfl rfl) ?_;refine fS 5 (b0 _) (fun hl6=>?_)
 refine bU (σ:=(List aN)) (fun i3 v5=>⟨[(2,.ptr 0 0),(3,pI 0),(4,.ptr 1 0),(5,rS x2),(6,pN i3)],⟨[some ⟨26,[.nil]⟩,some ⟨26,[sO v5 0]⟩],[⟨141,6,aN.trs (v5),false⟩]⟩⟩) (fun v5=>⟨[(2,.ptr 0 0),(3,pI 0),(4,.ptr 1 0)],⟨[some ⟨26,[.nil]⟩,some ⟨26,[sO v5 0]⟩],[⟨141,6,aN.trs (v5),false⟩]⟩⟩) (eJ H) ?_ ?_
 ·rintro i3 v5 H
  refine gQ 8 ?_;refine cT H (fun h7 h7l H=>?_) (fun h7 H=>?_)
  ·refine gQ 10 ?_;refine bM H fun x9 z8 H=>(q1 (bI func97 (acJ fu (aT x2 i3) _ z8)) (qN ?_))
   refine bF H (fun h10 H=>?_) (fun h10 H=>?_)
   ·refine cO.exit ?_;exact gE 5
   refine gQ 7 ?_;refine eF H fun x12 x13 z11 H=>(q1 (bI func98 (Q4 fu (aT x2 i3) _ z11)) ?_)
   refine gQ 13 ?_;refine dL 33 H (fun g14 H=>?_) fun g14 H=>?_
   ·refine gQ 8 ?_;refine dW (dI [] oP (dI [4] bZ (dB [40] 0 1 sM (dI [41] tLn (iY [2,39] hM (dI [42] bH (dN (cO.wk (Wk.regBox (k:=0) (j:=0) 141 6 (by decide) rfl rfl) (cO.ret ?_)))))))))
    obtain rfl:_=r:=(lkR (s3 H):)
    exact qe2 (st':=⟨[],[⟨141,6,aN.trs (v5),false⟩,⟨141,6,aN.trs ([]),false⟩]⟩) ⟨1,rfl,rfl,rfl⟩ (hr:=⟨⟨_,_,_,rfl,rfl,apO.h,rfl,rfl⟩,rfl,trivial⟩)
   refine gQ 6 ?_;refine bF H (fun h15 H=>?_) (fun h15 H=>?_)
   ·refine qS (dW (dI [] oP (dI [4] bZ (dB [40] 0 1 sM (dI [41] tLn (iY [2,39] hM (dI [42] bH (dN (cO.wk (Wk.regBox (k:=0) (j:=0) 141 6 (by decide) rfl rfl) (cO.ret ?_))))))))))
    obtain rfl:_=r:=(lkR (s3 H):)
    exact qe2 (st':=⟨[],[⟨141,6,aN.trs (v5),false⟩,⟨141,6,aN.trs ([]),false⟩]⟩) ⟨1,rfl,rfl,rfl⟩ (hr:=⟨⟨_,_,_,rfl,rfl,apO.h,rfl,rfl⟩,rfl,trivial⟩)
   refine gQ 4 ?_;refine q1 (b6 [pS x12.aBs,rS x12.aB6,QR x12.aBI,o9 x12.aBA,nK x12.aBE,JC x12.aBT]) (q1 (nU ([x12]:List aN)) (cA H fun z16 H=>(q1 (jO z16) ?_)))
   exact gE 8
  exact gE 0
 rintro v5 H
 refine gQ 2 ?_;refine q1 (b6 [sO v5 0]) ?_;refine gQ 3 ?_;refine cO.ret ?_
 obtain rfl:_=r:=(s3 H:)
 exact qe2 (st':=⟨[],[⟨141,6,aN.trs (v5),false⟩]⟩) ⟨0,rfl,rfl,rfl⟩ (hr:=⟨⟨_,_,_,rfl,rfl,apO.h,rfl,rfl⟩,rfl,trivial⟩)
def MX(fu:Nat)(pc:DS):Option (ByteArray×DS):=gd ((cR).size+(cS).size≤1099511627776) (gd ((cR++cS).size+(cY).size≤1099511627776) (gd (((cR++cS)++cY).size+(c7).size≤1099511627776) (lt (pc.after 2) fun d4=>sw (decide (pc.below 2=0)) (gd ((((cR++cS)++cY)++c7).size+(jQ).size≤1099511627776) (gd (((((cR++cS)++cY)++c7)++jQ).size+(dV).size≤1099511627776) (gd ((((((cR++cS)++cY)++c7)++jQ)++dV).size+(eT).size≤1099511627776) (gd (((((((cR++cS)++cY)++c7)++jQ)++dV)++eT).size+(fW).size≤1099511627776) (gd ((((((((cR++cS)++cY)++c7)++jQ)++dV)++eT)++fW).size+(iH).size≤1099511627776) (gd (((((((((cR++cS)++cY)++c7)++jQ)++dV)++eT)++fW)++iH).size+(lA).size≤1099511627776) (gd ((((((((((cR++cS)++cY)++c7)++jQ)++dV)++eT)++fW)++iH)++lA).size+(oY).size≤1099511627776) (gd (((((((((((cR++cS)++cY)++c7)++jQ)++dV)++eT)++fW)++iH)++lA)++oY).size+(BE).size≤1099511627776) (some ((((((((((((cR++cS)++cY)++c7)++jQ)++dV)++eT)++fW)++iH)++lA)++oY)++BE),d4)))))))))) (gd ((((cR++cS)++cY)++c7).size+(jR).size≤1099511627776) (gd (((((cR++cS)++cY)++c7)++jR).size+(dV).size≤1099511627776) (gd ((((((cR++cS)++cY)++c7)++jR)++dV).size+(eT).size≤1099511627776) (gd (((((((cR++cS)++cY)++c7)++jR)++dV)++eT).size+(fW).size≤1099511627776) (gd ((((((((cR++cS)++cY)++c7)++jR)++dV)++eT)++fW).size+(iH).size≤1099511627776) (gd (((((((((cR++cS)++cY)++c7)++jR)++dV)++eT)++fW)++iH).size+(lA).size≤1099511627776) (gd ((((((((((cR++cS)++cY)++c7)++jR)++dV)++eT)++fW)++iH)++lA).size+(oY).size≤1099511627776) (gd (((((((((((cR++cS)++cY)++c7)++jR)++dV)++eT)++fW)++iH)++lA)++oY).size+(BE).size≤1099511627776) (some ((((((((((((cR++cS)++cY)++c7)++jR)++dV)++eT)++fW)++iH)++lA)++oY)++BE),d4)))))))))))))
theorem agG(fu:Nat)(pc:DS)(r:ByteArray×DS)(H:MX fu pc=some r):cB Tryz.prog 188 [.ptr 0 0] ⟨[some ⟨133,dC pc⟩],[]⟩ (fun q t=>q=(pS r.1)∧t=⟨[some ⟨133,dC r.2⟩],[]⟩):=by
 refine qJ func188 H (fun C hC H=>?_)
 refine gQ 11 ?_;refine cA H fun z1 H=>(q1 (bD.addS rfl rfl rfl rfl (Nat.le_trans z1 (by decide))) ?_)
 refine gQ 5 ?_;refine cA H fun z2 H=>(q1 (bD.addS rfl rfl rfl rfl (Nat.le_trans z2 (by decide))) ?_)
 refine gQ 5 ?_;refine cA H fun z3 H=>(q1 (bD.addS rfl rfl rfl rfl (Nat.le_trans z3 (by decide))) ?_)
 refine gQ 6 ?_;refine fZ H fun d4 h5 H=>(q1 (fD [0] [] func45 (FF h5 (m8 pc 2))) (qN ?_))
 refine bF H (fun h6 H=>?_) (fun h6 H=>?_)
 ·refine gQ 2 ?_;refine cA H fun z7 H=>(q1 (bD.addS rfl rfl rfl rfl (Nat.le_trans z7 (by decide))) ?_)
  refine gQ 5 ?_;refine cA H fun z8 H=>(q1 (bD.addS rfl rfl rfl rfl (Nat.le_trans z8 (by decide))) ?_)
  refine gQ 5 ?_;refine cA H fun z9 H=>(q1 (bD.addS rfl rfl rfl rfl (Nat.le_trans z9 (by decide))) ?_)
  refine gQ 5 ?_;refine cA H fun z10 H=>(q1 (bD.addS rfl rfl rfl rfl (Nat.le_trans z10 (by decide))) ?_)
  refine gQ 5 ?_;refine cA H fun z11 H=>(q1 (bD.addS rfl rfl rfl rfl (Nat.le_trans z11 (by decide))) ?_)
  refine gQ 5 ?_;refine cA H fun z12 H=>(q1 (bD.addS rfl rfl rfl rfl (Nat.le_trans z12 (by decide))) ?_)
  refine gQ 5 ?_;refine cA H fun z13 H=>(q1 (bD.addS rfl rfl rfl rfl (Nat.le_trans z13 (by decide))) ?_)
  refine gQ 5 ?_;refine cA H fun z14 H=>(q1 (bD.addS rfl rfl rfl rfl (Nat.le_trans z14 (by decide))) ?_)
  exact gE 2
 refine gQ 2 ?_;refine cA H fun z15 H=>(q1 (bD.addS rfl rfl rfl rfl (Nat.le_trans z15 (by decide))) ?_)
 refine gQ 5 ?_;refine cA H fun z16 H=>(q1 (bD.addS rfl rfl rfl rfl (Nat.le_trans z16 (by decide))) ?_)
 refine gQ 5 ?_;refine cA H fun z17 H=>(q1 (bD.addS rfl rfl rfl rfl (Nat.le_trans z17 (by decide))) ?_)
 refine gQ 5 ?_;refine cA H fun z18 H=>(q1 (bD.addS rfl rfl rfl rfl (Nat.le_trans z18 (by decide))) ?_)
 refine gQ 5 ?_;refine cA H fun z19 H=>(q1 (bD.addS rfl rfl rfl rfl (Nat.le_trans z19 (by decide))) ?_)
 refine gQ 5 ?_;refine cA H fun z20 H=>(q1 (bD.addS rfl rfl rfl rfl (Nat.le_trans z20 (by decide))) ?_)
 refine gQ 5 ?_;refine cA H fun z21 H=>(q1 (bD.addS rfl rfl rfl rfl (Nat.le_trans z21 (by decide))) ?_)
 refine gQ 5 ?_;refine cA H fun z22 H=>(q1 (bD.addS rfl rfl rfl rfl (Nat.le_trans z22 (by decide))) ?_)
 exact gE 2
def ai3(fu:Nat)(pc:DS):Option ((ByteArray×DS)⊕(ByteArray×DS)):=lt (pc.after 8) fun d3=>sw (decide ((pc.below 8:Int)=0)) (gd ((eS).size+(N2).size≤1099511627776) (some (.inr ((eS++N2),d3)))) (sw (decide ((pc.below 8:Int)=1)) (gd ((eS).size+(N0).size≤1099511627776) (some (.inr ((eS++N0),d3)))) (sw (decide ((pc.below 8:Int)=2)) (gd ((eS).size+(NU).size≤1099511627776) (some (.inr ((eS++NU),d3)))) (sw (decide ((pc.below 8:Int)=3)) (gd ((eS).size+(NW).size≤1099511627776) (some (.inr ((eS++NW),d3)))) (sw (decide ((pc.below 8:Int)=4)) (gd ((eS).size+(NV).size≤1099511627776) (some (.inr ((eS++NV),d3)))) (sw (decide ((pc.below 8:Int)=5)) (gd ((eS).size+(NZ).size≤1099511627776) (some (.inr ((eS++NZ),d3)))) (gd ((eS).size+(NX).size≤1099511627776) (some (.inr ((eS++NX),d3)))))))))
def ai4(fu:Nat)(pc:DS)(v1:ByteArray)(v2 d19:DS)(y21:ByteArray):Option ((ByteArray×DS)⊕(ByteArray×DS)):=lt (d19.after 2) fun d27=>sw (decide (d19.below 2=0)) (gd ((((v1++oV)++y21)++BE).size+(NY).size≤1099511627776) (some (.inr (((((v1++oV)++y21)++BE)++NY),d27)))) (some (.inr ((((v1++oV)++y21)++BE),d27)))
def ai5(fu:Nat)(pc:DS)(v1:ByteArray)(v2 d19:DS)(y21 v25:ByteArray)(v26:DS):Option ((ByteArray×DS)⊕(ByteArray×DS)):=lt (v26.after 3) fun d33=>sw (decide (v26.below 3=0)) (gd ((v25).size+(N1).size≤1099511627776) (some (.inr ((v25++N1),d33)))) (some (.inr (v25,d33)))
def RN(fu:Nat)(pc:DS):Option (ByteArray×DS):=so (ai3 fu pc) fun(v1,v2)=>gd ((v1).size+(oV).size≤1099511627776) (lt (v2.after ([DP,DO,DM,DQ,DL,DU,DV,DR,DT,DJ]:LB).length) fun d19=>lt (v2.pick ([DP,DO,DM,DQ,DL,DU,DV,DR,DT,DJ]:LB)) fun y21=>gd ((v1++oV).size+(y21).size≤1099511627776) (gd (((v1++oV)++y21).size+(BE).size≤1099511627776) (so (ai4 fu pc v1 v2 d19 y21) fun(v25,v26)=>so (ai5 fu pc v1 v2 d19 y21 v25 v26) fun(v31,v32)=>lt (v32.after 4) fun d37=>sw (decide (v32.below 4=0)) (gd ((v31).size+(DN).size≤1099511627776) (gd ((v31++DN).size+(BE).size≤1099511627776) (some (((v31++DN)++BE),d37)))) (gd ((v31).size+(BE).size≤1099511627776) (some ((v31++BE),d37))))))
theorem ai6(fu:Nat)(pc:DS)(r:ByteArray×DS)(H:RN fu pc=some r):cB Tryz.prog 189 [.ptr 0 0] ⟨[some ⟨133,dC pc⟩],[]⟩ (fun q t=>q=(pS r.1)∧t=⟨[some ⟨133,dC r.2⟩],[]⟩):=by
 refine qJ func189 H (fun C hC H=>?_)
 refine gQ 9 ?_;refine nW (σ:=ByteArray×DS) (fun(v1,v2)=>⟨[(0,.ptr 0 0),(2,pS s_),(3,pS v1)],⟨[some ⟨133,dC v2⟩],[]⟩⟩) (eJ H) (fun H=>?_) ?_
 ·refine gQ 3 ?_;refine fZ H fun d3 h4 H=>(q1 (fD [0] [] func73 (FF h4 (fK pc 8))) ?_)
  refine gQ 7 ?_;refine bF H (fun h5 H=>?_) (fun h5 H=>?_)
  ·refine gQ 2 ?_;refine cA H fun z6 H=>(q1 (bD.addS rfl rfl rfl rfl (Nat.le_trans z6 (by decide))) ?_)
   exact gE 2
  refine gQ 5 ?_;refine bF H (fun h7 H=>?_) (fun h7 H=>?_)
  ·refine gQ 2 ?_;refine cA H fun z8 H=>(q1 (bD.addS rfl rfl rfl rfl (Nat.le_trans z8 (by decide))) ?_)
   exact gE 2
  refine gQ 5 ?_;refine bF H (fun h9 H=>?_) (fun h9 H=>?_)
  ·refine gQ 2 ?_;refine cA H fun z10 H=>(q1 (bD.addS rfl rfl rfl rfl (Nat.le_trans z10 (by decide))) ?_)
   exact gE 2
  refine gQ 5 ?_;refine bF H (fun h11 H=>?_) (fun h11 H=>?_)
  ·refine gQ 2 ?_;refine cA H fun z12 H=>(q1 (bD.addS rfl rfl rfl rfl (Nat.le_trans z12 (by decide))) ?_)
   exact gE 2
  refine gQ 5 ?_;refine bF H (fun h13 H=>?_) (fun h13 H=>?_)
  ·refine gQ 2 ?_;refine cA H fun z14 H=>(q1 (bD.addS rfl rfl rfl rfl (Nat.le_trans z14 (by decide))) ?_)
   exact gE 2
  refine gQ 5 ?_;refine bF H (fun h15 H=>?_) (fun h15 H=>?_)
  ·refine gQ 2 ?_;refine cA H fun z16 H=>(q1 (bD.addS rfl rfl rfl rfl (Nat.le_trans z16 (by decide))) ?_)
   exact gE 2
  refine gQ 2 ?_;refine cA H fun z17 H=>(q1 (bD.addS rfl rfl rfl rfl (Nat.le_trans z17 (by decide))) ?_)
  exact gE 2
 rintro⟨v1,v2⟩ H
 refine gQ 3 ?_;refine cA H fun z18 H=>(q1 (bD.addS rfl rfl rfl rfl (Nat.le_trans z18 (by decide))) (q1 bH (q1 (fY ([DP,DO,DM,DQ,DL,DU,DV,DR,DT,DJ]:LB)) (fZ H fun d19 h20 H=>(fZ H fun y21 h22 H=>(q1 (fD [0] [] func48 (ND h20 h22 (fL v2 ([DP,DO,DM,DQ,DL,DU,DV,DR,DT,DJ]:LB) (by decide)))) (cA H fun z23 H=>(q1 (bD.addS rfl rfl rfl rfl (Nat.le_trans z23 (by decide))) (cA H fun z24 H=>(q1 (bD.addS rfl rfl rfl rfl (Nat.le_trans z24 (by decide))) ?_))))))))))
 refine gQ 3 ?_;refine nW (σ:=ByteArray×DS) (fun(v25,v26)=>⟨[(0,.ptr 0 0),(2,pS s_),(3,pS v25)],⟨[some ⟨133,dC v26⟩],[]⟩⟩) (eJ H) (fun H=>?_) ?_
 ·refine gQ 3 ?_;refine fZ H fun d27 h28 H=>(q1 (fD [0] [] func45 (FF h28 (m8 d19 2))) (qN ?_))
  refine bF H (fun h29 H=>?_) (fun h29 H=>?_)
  ·refine gQ 2 ?_;refine cA H fun z30 H=>(q1 (bD.addS rfl rfl rfl rfl (Nat.le_trans z30 (by decide))) ?_)
   exact gE 2
  exact gE 1
 rintro⟨v25,v26⟩ H
 refine qS ?_;refine nW (σ:=ByteArray×DS) (fun(v31,v32)=>⟨[(0,.ptr 0 0),(2,pS s_),(3,pS v31)],⟨[some ⟨133,dC v32⟩],[]⟩⟩) (eJ H) (fun H=>?_) ?_
 ·refine gQ 3 ?_;refine fZ H fun d33 h34 H=>(q1 (fD [0] [] func45 (FF h34 (m8 v26 3))) (qN ?_))
  refine bF H (fun h35 H=>?_) (fun h35 H=>?_)
  ·refine gQ 2 ?_;refine cA H fun z36 H=>(q1 (bD.addS rfl rfl rfl rfl (Nat.le_trans z36 (by decide))) ?_)
   exact gE 2
  exact gE 1
 rintro⟨v31,v32⟩ H
 refine gQ 4 ?_;refine fZ H fun d37 h38 H=>(q1 (fD [0] [] func45 (FF h38 (m8 v32 4))) (qN ?_))
 refine bF H (fun h39 H=>?_) (fun h39 H=>?_)
 ·refine gQ 2 ?_;refine cA H fun z40 H=>(q1 (bD.addS rfl rfl rfl rfl (Nat.le_trans z40 (by decide))) ?_)
  refine gQ 5 ?_;refine cA H fun z41 H=>(q1 (bD.addS rfl rfl rfl rfl (Nat.le_trans z41 (by decide))) ?_)
  exact gE 2
 refine gQ 4 ?_;refine cA H fun z42 H=>(q1 (bD.addS rfl rfl rfl rfl (Nat.le_trans z42 (by decide))) ?_)
 exact gE 2
def yU(fu:Nat)(pc:DS):Option (ByteArray×DS):=bd (MX fu pc) fun(x2,x3)=>lt (x3.after 5) fun d4=>sw (decide (x3.below 5=0)) (some (x2,d4)) (gd (x2.size+(am0).size≤1099511627776) (bd (RN fu d4) fun(x9,x10)=>gd ((x2++am0).size+x9.size≤1099511627776) (some (((x2++am0)++x9),x10))))
theorem RP(fu:Nat)(pc:DS)(r:ByteArray×DS)(H:yU fu pc=some r):cB Tryz.prog 162 [.ptr 0 0] ⟨[some ⟨133,dC pc⟩],[]⟩ (fun q t=>q=(pS r.1)∧t=⟨[some ⟨133,dC r.2⟩],[]⟩):=by
 refine qJ func162 H (fun C hC H=>?_)
 refine gQ 7 ?_;refine eF H fun x2 x3 z1 H=>(q1 (fD [0] [] func188 (agG fu pc _ z1)) ?_)
 refine gQ 6 ?_;refine fZ H fun d4 h5 H=>(q1 (fD [0] [] func45 (FF h5 (m8 x3 5))) (qN ?_))
 refine bF H (fun h6 H=>gE 5) fun h6 H=>?_;refine gQ 4 ?_;refine cA H fun z7 H=>(q1 (bD.addS rfl rfl rfl rfl (Nat.le_trans z7 (by decide))) (q1 bH (eF H fun x9 x10 z8 H=>(q1 (fD [0] [] func189 (ai6 fu d4 _ z8)) (cA H fun z11 H=>(q1 (bD.addS rfl rfl rfl rfl (Nat.le_trans z11 (by decide))) ?_))))))
 exact gE 2
def ai9(m:DS→Option (aH×DS)):Prop:= ∀(pc:DS) (r:aH×DS),m pc=some r→vL Tryz.prog 126 [.ptr 0 0] ⟨[some ⟨133,dC pc⟩],[]⟩ [some ⟨133,dC r.2⟩] 141 6 (aN.trs (r.1.aBr)) (fun k=> .agg [sO r.1.aBr k])
def MZ(fu:Nat)(pc:DS):Option (aH×DS):=bd (yU fu pc) fun(x2,x3)=>bd (yO fu x2) fun(x5,x6)=>some ((aH.mk x5.aBr),x3)
theorem agI(fu:Nat):ai9 (MZ fu):=by
 intro pc r H
 unfold vL
 refine qJ func126 H (fun C hC H=>?_)
 refine gQ 7 ?_;refine eF H fun x2 x3 z1 H=>(q1 (fD [0] [] func162 (RP fu pc _ z1)) (eF H fun x5 x6 z4 H=>(q1 (bD.callOwn (pre:=⟨[],[]⟩) (B:= []) (R:=fun k=> .tup [.agg [sO x5.aBr k],pI x6]) (ps:= [_]) (qs:= [pS x2]) [] rfl rfl func46 (by kernel_rfl) rfl rfl rfl (eH.of trivial trivial (by decide) (by decide)) rfl iX rfl rfl rfl (fun k k'=>(.tup (.cons (.agg (.cons Mv.acc GB.nil)) (.cons (.free _ rfl) GB.nil)))) (Q6 fu x2 _ z4)) ?_)))
 refine gQ 9 ?_;refine q1 (b6 [sO x5.aBr 0]) ?_;refine gQ 2 ?_;refine cO.ret ?_
 obtain rfl:_=r:=(s3 H:)
 exact PG (st':=⟨[some ⟨133,dC x3⟩],[⟨141,6,aN.trs (x5.aBr),false⟩]⟩) ⟨0,rfl,rfl,rfl⟩ (hr:=⟨⟨_,_,_,rfl,rfl,apO.h,rfl,rfl⟩,trivial⟩)
end
end Go.Proofs.YtfcoaagbccmahaaGreat.W

namespace Go.Proofs.YtfcoaagbccmahaaGreat.W
set_option maxRecDepth 20000
set_option maxHeartbeats 4000000
open Go.RowKit Go.WalkArith Go.IntWalk
def aaQ(fu:Nat):Prop:= ∀(ps:ByteArray) (p4:UInt8),ps.size≤1073741824→Ok (FM fu ps p4) (fun r=>wl r≤ps.size+1)
theorem E8:bS aaQ:=(bS.ge 2147483648).imp fun fu hfu ps p4 hpre=>by
 have:=(aX:wl ([]:LB)=0∧_)
 refine Ok.sok (E:=fun(v4,v2,v3)=>wl v4≤ps.size+1) ?_ ?_
 ·refine Ok.loopW (fun(v4,v2,v3)=>0≤v2∧v2≤v3∧v3≤(ps.size:Int)+1∧(wl v4:Int)≤v2) (fun(v4,v2,v3)=>((ps.size:Int)+2-v3).toNat) ?_ _ _ bR bR
  rintro⟨v4,v2,v3⟩ hI3
  try dsimp only at hI3
  refine oD (fun g4=>?_) fun g4=>?_
  ·refine oD (fun g5=>?_) fun g5=>?_
   ·refine oG fun z6=>?_
    have:=bB (v4)
    have:=EU ps (v2:Int).toNat (v3:Int).toNat
    have:=cG (ps.extract (v2:Int).toNat (v3:Int).toNat)
    have:=bA (ps.extract (v2:Int).toNat (v3:Int).toNat)
    refine oG fun z7=>?_
    have:=b8 v4 ([(ps.extract (v2:Int).toNat (v3:Int).toNat)]:LB)
    have:=eR (v3+1)
    exact qD
   refine oG fun z8=>?_;refine oD (fun g9=>?_) fun g9=>?_
   ·refine oG fun z10=>?_
    have:=bB (v4)
    have:=EU ps (v2:Int).toNat (v3:Int).toNat
    have:=cG (ps.extract (v2:Int).toNat (v3:Int).toNat)
    have:=bA (ps.extract (v2:Int).toNat (v3:Int).toNat)
    refine oG fun z11=>?_
    have:=b8 v4 ([(ps.extract (v2:Int).toNat (v3:Int).toNat)]:LB)
    have:=eR (v3+1)
    exact qD
   have:=eR (v3+1)
   exact qD
  exact oK
 rintro⟨v4,v2,v3⟩ h1
 dsimp only at h1
 exact oS
def adV(fu:Nat):Prop:= ∀(ps:ByteArray),ps.size≤1073741824→Ok (II fu ps) (fun _=>True)
theorem HQ:bS adV:=(bS.ge 2147483648).imp fun fu hfu ps hpre=>by
 refine GN ?_ ?_
 ·refine Ok.loop1 ?_;rintro i1 ⟨⟩ hl2
  exact oG fun z4=>oN (fun _=>oR) fun g5=>qD
 rintro⟨⟩-
 exact oS
def ahN(fu:Nat):Prop:= ∀(p1:ByteArray×(LB)×(List aV)×(List aO)×(List aL)×(List aP)) (p2:aB),wt p2≤65536∧wl p1.2.2.1+wl p1.2.2.2.1+wl p1.2.2.2.2.1+wl p1.2.2.2.2.2≤1073741824→Ok (MY fu p1 p2) (fun r=>r.2.1.size+wl r.2.2.1+wl r.2.2.2.1+wl r.2.2.2.2.1+wl r.2.2.2.2.2.1+wl r.2.2.2.2.2.2≤p1.1.size+wl p1.2.1+wl p1.2.2.1+wl p1.2.2.2.1+wl p1.2.2.2.2.1+wl p1.2.2.2.2.2+16*wt p2+1)
theorem L9:bS ahN:=((((((bS.ge 2147483648).and cI).and yH).and tH).and tJ).and tI).imp fun fu ⟨⟨⟨⟨⟨hfu,cI⟩,yH⟩,tH⟩,tJ⟩,tI⟩ p1 p2 hpre=>by
 have:=bB p1.2.2.1
 have:=bB p1.2.2.2.1
 have:=bB p1.2.2.2.2.1
 have:=bB p1.2.2.2.2.2
 refine oB (cI p2 0 bR) fun x2 h1=>?_
 have:=aB.wt_eq x2
 have:JF.size=5:=rfl
 refine oD (fun g2=>?_) fun g2=>?_
 ·have:=congrArg ByteArray.size g2
  refine vH (yH p2 bR) fun x5 x6 h3=>?_
  dsimp only at h3
  have:=bB (p1.2.2.1)
  have:=cG x5
  refine oG fun z4=>?_
  have:=b8 p1.2.2.1 ([x5]:List aV)
  exact oS
 have:RG.size=4:=rfl
 refine oD (fun g5=>?_) fun g5=>?_
 ·have:=congrArg ByteArray.size g5
  refine vH (tH p2 bR) fun x10 x11 h6=>?_
  dsimp only at h6
  have:=bB (p1.2.2.2.1)
  have:=cG x10
  refine oG fun z7=>?_
  have:=b8 p1.2.2.2.1 ([x10]:List aO)
  exact oS
 have:RH.size=4:=rfl
 refine oD (fun g8=>?_) fun g8=>?_
 ·have:=congrArg ByteArray.size g8
  refine vH (tJ p2 bR) fun x15 x16 h9=>?_
  dsimp only at h9
  have:=bB (p1.2.2.2.2.1)
  have:=cG x15
  refine oG fun z10=>?_
  have:=b8 p1.2.2.2.2.1 ([x15]:List aL)
  exact oS
 have:amI.size=2:=rfl
 refine oD (fun g11=>?_) fun g11=>?_
 ·have:=congrArg ByteArray.size g11
  refine vH (tI p2 bR) fun x20 x21 h12=>?_
  dsimp only at h12
  have:=cG x20
  refine oG fun z13=>?_
  have:=b8 p1.2.2.2.2.2 ([x20]:List aP)
  exact oS
 exact oS
def adW(fu:Nat):Prop:= ∀(p0:aN),wt p0≤4194304→Ok (IJ fu p0) (fun _=>True)
theorem HU:bS adW:=(bS.ge 2147483648).imp fun fu hfu p0 hpre=>by
 have:=(aX:wl ([]:LB)=0∧_)
 have:=aN.wt_eq p0
 refine QP p0.aBI 1 (fun i1 v3 hl2 hI3 _ _=>?_) ?_
 ·have:=bB p0.aBI
  have:=bB (v3)
  have:=cW p0.aBI i1 hl2
  have:=aV.wt_eq (aT p0.aBI i1)
  have:=cG ((aT p0.aBI i1).aBs)
  have:=bA ((aT p0.aBI i1).aBs)
  refine oG fun z4=>?_
  have:=b8 v3 ([((aT p0.aBI i1).aBs)]:LB)
  exact qD
 intro v3 h1
 refine Ok.sok (E:=fun(v10,v11)=>wl v10+1*wl (List.take 0 p0.aBA)≤wl ([]:LB)+1*wl p0.aBA∧wl v11+1*wl (List.take 0 p0.aBA)≤wl ([]:LB)+1*wl p0.aBA) ?_ ?_
 ·refine Ok.loop0 (fun i7 (v10,v11)=>wl v10+1*wl (List.take 0 p0.aBA)≤wl ([]:LB)+1*wl (List.take i7 p0.aBA)∧wl v11+1*wl (List.take 0 p0.aBA)≤wl ([]:LB)+1*wl (List.take i7 p0.aBA)) (by exact bR) (by rintro i7 ⟨v10,v11⟩-hI;have:=oQ p0.aBA i7;(try dsimp only at hI ⊢);omega) ?_;rintro i7 ⟨v10,v11⟩ hl6 hI7
  dsimp only at hI7
  have:=bB p0.aBA
  have:=oT p0.aBA i7 hl6
  have:=oQ p0.aBA (i7+1)
  have:=bB (v10)
  have:=cW p0.aBA i7 hl6
  have:=aO.wt_eq (aT p0.aBA i7)
  have:=cG ((aT p0.aBA i7).aBs)
  have:=bA ((aT p0.aBA i7).aBs)
  refine oG fun z8=>?_;refine QP ((aT p0.aBA i7).aBx) 1 (fun i15 v17 hl10 hI11 _ _=>?_) ?_
  ·have:=bB ((aT p0.aBA i7).aBx)
   have:=bB (v17)
   have:=cW ((aT p0.aBA i7).aBx) i15 hl10
   have:=aE.wt_eq (aT ((aT p0.aBA i7).aBx) i15)
   have:=cG ((aT ((aT p0.aBA i7).aBx) i15).aBs)
   have:=bA ((aT ((aT p0.aBA i7).aBx) i15).aBs)
   refine oG fun z12=>?_
   have:=b8 v17 ([((aT ((aT p0.aBA i7).aBx) i15).aBs)]:LB)
   exact qD
  intro v17 h9
  have:=b8 v10 ([((aT p0.aBA i7).aBs)]:LB)
  exact qD
 rintro⟨v10,v11⟩ h5
 dsimp only at h5
 refine QP p0.aBT 1 (fun i21 v23 hl14 hI15 _ _=>?_) ?_
 ·have:=bB p0.aBT
  have:=cW p0.aBT i21 hl14
  refine Ok.lt fun y26 h16=>?_
  have:=congrArg wt h16
  have:=bB (v23)
  have:=aP.wt_eq y26
  have:=cG y26.aBs
  have:=bA y26.aBs
  refine oG fun z17=>?_
  have:=b8 v23 ([y26.aBs]:LB)
  exact qD
 intro v23 h13
 exact oS
def adX(fu:Nat):Prop:= ∀(pp:aN),wt pp≤4194304→Ok (IK fu pp) (fun _=>True)
theorem HV:bS adX:=(((((bS.ge 2147483648).and l8).and jV).and jX).and jW).imp fun fu ⟨⟨⟨⟨hfu,l8⟩,jV⟩,jX⟩,jW⟩ pp hpre=>by
 refine GN ?_ ?_
 ·refine Ok.loop1 ?_;rintro i1 ⟨⟩ hl2
  have:=aN.wt_eq pp
  have:=bB pp.aBI
  have:=cW pp.aBI i1 hl2
  exact oB (l8 (aT pp.aBI i1) bR) fun x5 _=>oW (fun _=>oR) fun g5=>qD
 rintro⟨⟩-
 refine GN ?_ ?_
 ·refine Ok.loop1 ?_;rintro i7 ⟨⟩ hl7
  have:=aN.wt_eq pp
  have:=bB pp.aBA
  have:=cW pp.aBA i7 hl7
  exact oB (jV (aT pp.aBA i7) bR) fun x11 _=>oW (fun _=>oR) fun g10=>qD
 rintro⟨⟩-
 refine GN ?_ ?_
 ·refine Ok.loop1 ?_;rintro i13 ⟨⟩ hl12
  have:=aN.wt_eq pp
  have:=bB pp.aBE
  have:=cW pp.aBE i13 hl12
  refine Ok.lt fun y16 h14=>?_
  have:=congrArg wt h14
  exact oB (jX y16 bR) fun x19 _=>oW (fun _=>oR) fun g16=>qD
 rintro⟨⟩-
 refine GN ?_ ?_
 ·refine Ok.loop1 ?_;rintro i21 ⟨⟩ hl18
  have:=aN.wt_eq pp
  have:=bB pp.aBT
  have:=cW pp.aBT i21 hl18
  refine Ok.lt fun y24 h20=>?_
  have:=congrArg wt h20
  exact oB (jW y24 bR) fun x27 _=>oW (fun _=>oR) fun g22=>qD
 rintro⟨⟩-
 exact oS
def NI(fu:Nat):Prop:= ∀(p0:aN),wt p0≤4194304→Ok (u6 fu p0) (fun _=>True)
theorem uR:bS NI:=(((((((bS.ge 2147483648).and HU).and bN).and c8).and dR).and eK).and HV).imp fun fu ⟨⟨⟨⟨⟨⟨hfu,HU⟩,bN⟩,c8⟩,dR⟩,eK⟩,HV⟩ p0 hpre=>by
 refine oB4 (HU p0 bR) fun x2 x3 x4 x5 _=>?_
 have:=aN.wt_eq p0
 refine oB (bN p0.aBs) fun x7 _=>oW (fun _=>oS) fun g3=>oB (c8 p0.aB6 5) fun x10 _=>oW (fun _=>oS) fun g5=>oB (dR p0.aB6 p0.aBs) fun x13 _=>oC (fun _=>oS) fun g7=>?_
 have:=bB p0.aBI
 have:=bB p0.aBA
 have:=eR ((p0.aBI.length:Int)+(p0.aBA.length:Int))
 have:=bB p0.aBE
 have:=eR ((aZ ((p0.aBI.length:Int)+(p0.aBA.length:Int)))+(p0.aBE.length:Int))
 have:=bB p0.aBT
 have:=eR ((aZ ((aZ ((p0.aBI.length:Int)+(p0.aBA.length:Int)))+(p0.aBE.length:Int)))+(p0.aBT.length:Int))
 refine oD (fun _=>oS) fun g8=>oB (eK x2) fun x17 _=>?_;refine oC (fun g10=>?_) fun g10=>?_
 ·refine oB (eK x3) fun x20 _=>?_;refine oC (fun g12=>?_) fun g12=>?_
  ·refine oB (eK x4) fun x23 _=>?_;refine oC (fun g14=>?_) fun g14=>?_
   ·refine oB (eK x5) fun x26 _=>?_;refine oC (fun g16=>?_) fun g16=>?_
    ·exact oB (HV p0 bR) fun x29 _=>oS
    exact oS
   exact oS
  exact oS
 exact oS
def NJ(fu:Nat):Prop:= ∀(p0:aB),wt p0≤65536→Ok (u7 fu p0) (fun r=>wt r.1≤20*wt p0)
theorem uS:bS NJ:=((((((bS.ge 2147483648).and cI).and iF).and cP).and L9).and uR).imp fun fu ⟨⟨⟨⟨⟨hfu,cI⟩,iF⟩,cP⟩,L9⟩,uR⟩ p0 hpre=>by
 refine oB (cI p0 2 bR) fun x2 h1=>?_
 have:=aB.wt_eq x2
 refine vH (iF x2.aBv bR) fun x4 x5 h2=>?_
 dsimp only at h2
 refine oB (cI p0 1 bR) fun x7 h3=>oB (cP p0 bR) fun x9 _=>?_;refine oW (fun g5=>?_) fun g5=>?_
 ·have:s_.size=0:=rfl
  have:=(aX:wl ([]:LB)=0∧_)
  have:=(aX:wl ([]:List aV)=0∧_)
  have:=(aX:wl ([]:List aO)=0∧_)
  have:=(aX:wl ([]:List aL)=0∧_)
  have:=(aX:wl ([]:List aP)=0∧_)
  have:=aN.wt_mk s_ [] [] [] [] []
  exact oS
 have:=aB.wt_eq p0
 have:=bB p0.aBv
 refine oD (fun g6=>?_) fun g6=>?_
 ·have:s_.size=0:=rfl
  have:=(aX:wl ([]:LB)=0∧_)
  have:=(aX:wl ([]:List aV)=0∧_)
  have:=(aX:wl ([]:List aO)=0∧_)
  have:=(aX:wl ([]:List aL)=0∧_)
  have:=(aX:wl ([]:List aP)=0∧_)
  have:=aN.wt_mk s_ [] [] [] [] []
  exact oS
 have:=bB (p0.aBv)
 refine oG fun z7=>?_
 have:=cW p0.aBv 0 z7
 have:wl (List.take 1 p0.aBv)=wl (List.take 0 p0.aBv)+wt (aT p0.aBv 0)+1:=K8 p0.aBv 0 z7
 have:=aB.wt_eq (aT p0.aBv 0)
 have:Z5.size=7:=rfl
 refine oN (fun g8=>?_) fun g8=>?_
 ·have:s_.size=0:=rfl
  have:=(aX:wl ([]:LB)=0∧_)
  have:=(aX:wl ([]:List aV)=0∧_)
  have:=(aX:wl ([]:List aO)=0∧_)
  have:=(aX:wl ([]:List aL)=0∧_)
  have:=(aX:wl ([]:List aP)=0∧_)
  have:=aN.wt_mk s_ [] [] [] [] []
  exact oS
 have:=congrArg ByteArray.size g8
 refine oG fun z9=>?_
 have:=cW p0.aBv 2 z9
 have:wl (List.take 3 p0.aBv)=wl (List.take 2 p0.aBv)+wt (aT p0.aBv 2)+1:=K8 p0.aBv 2 z9
 have:=aB.wt_eq (aT p0.aBv 2)
 have:s_.size=0:=rfl
 refine oN (fun g10=>?_) fun g10=>?_
 ·have:=G2 g10
  have:=(aX:wl ([]:LB)=0∧_)
  have:=(aX:wl ([]:List aV)=0∧_)
  have:=(aX:wl ([]:List aO)=0∧_)
  have:=(aX:wl ([]:List aL)=0∧_)
  have:=(aX:wl ([]:List aP)=0∧_)
  have:=aN.wt_mk s_ [] [] [] [] []
  exact oS
 refine oW (fun g11=>?_) fun g11=>?_
 ·have:=(aX:wl ([]:LB)=0∧_)
  have:=(aX:wl ([]:List aV)=0∧_)
  have:=(aX:wl ([]:List aO)=0∧_)
  have:=(aX:wl ([]:List aL)=0∧_)
  have:=(aX:wl ([]:List aP)=0∧_)
  have:=aN.wt_mk s_ [] [] [] [] []
  exact oS
 have:=(aX:wl ([]:List aV)=0∧_)
 have:=(aX:wl ([]:List aO)=0∧_)
 have:=(aX:wl ([]:List aL)=0∧_)
 have:=(aX:wl ([]:List aP)=0∧_)
 have:=aB.wt_eq x7
 refine Ok.sok (E:=fun(v18,v19,v24,v25,v26,v27)=>v18.size+wl v19+wl v24+wl v25+wl v26+wl v27≤x7.aBy.size+wl x4+16*wl p0.aBv) ?_ ?_
 ·refine Ok.loop0 (fun i17 (v18,v19,v24,v25,v26,v27)=>v18.size+wl v19+wl v24+wl v25+wl v26+wl v27≤x7.aBy.size+wl x4+16*wl (List.take i17 p0.aBv)) (by exact bR) (by rintro i17 ⟨v18,v19,v24,v25,v26,v27⟩-hI;have:=oQ p0.aBv i17;(try dsimp only at hI ⊢);omega) ?_;rintro i17 ⟨v18,v19,v24,v25,v26,v27⟩ hl13 hI14
  dsimp only at hI14
  have:=oT p0.aBv i17 hl13
  have:=oQ p0.aBv (i17+1)
  have:=cW p0.aBv i17 hl13
  refine vH (L9 (v18,v19,v24,v25,v26,v27) (aT p0.aBv i17) bR) fun x31 x32 h15=>?_
  dsimp only at h15
  refine oW (fun g16=>?_) fun g16=>?_
  ·have:=(aX:wl ([]:LB)=0∧_)
   have:=(aX:wl ([]:List aV)=0∧_)
   have:=(aX:wl ([]:List aO)=0∧_)
   have:=(aX:wl ([]:List aL)=0∧_)
   have:=(aX:wl ([]:List aP)=0∧_)
   have:=aN.wt_mk s_ [] [] [] [] []
   exact oR
  exact qD
 rintro⟨v18,v19,v24,v25,v26,v27⟩ h12
 dsimp only at h12
 have:=aN.wt_mk v18 v19 v24 v25 v26 v27
 refine oB (uR (aN.mk v18 v19 v24 v25 v26 v27) bR) fun x35 _=>?_;refine oW (fun g18=>?_) fun g18=>?_
 ·have:=(aX:wl ([]:LB)=0∧_)
  have:=(aX:wl ([]:List aV)=0∧_)
  have:=(aX:wl ([]:List aO)=0∧_)
  have:=(aX:wl ([]:List aL)=0∧_)
  have:=(aX:wl ([]:List aP)=0∧_)
  have:=aN.wt_mk s_ [] [] [] [] []
  exact oS
 exact oS
def S0(fu:Nat):Prop:= ∀(ps:ByteArray),ps.size≤16384→Ok (yN fu ps) (fun r=>wt r.1≤40*ps.size)
theorem yF:bS S0:=(((bS.ge 2147483648).and CR).and uS).imp fun fu ⟨⟨hfu,CR⟩,uS⟩ ps hpre=>by
 refine vH (CR ps bR) fun x2 x3 h1=>?_
 dsimp only at h1
 refine oW (fun g2=>?_) fun g2=>?_
 ·have:s_.size=0:=rfl
  have:=(aX:wl ([]:LB)=0∧_)
  have:=(aX:wl ([]:List aV)=0∧_)
  have:=(aX:wl ([]:List aO)=0∧_)
  have:=(aX:wl ([]:List aL)=0∧_)
  have:=(aX:wl ([]:List aP)=0∧_)
  have:=aN.wt_mk s_ [] [] [] [] []
  exact oS
 refine vH (uS x2 bR) fun x6 x7 h3=>?_
 dsimp only at h3
 exact oS
def S1(fu:Nat):Prop:= ∀(ps:ByteArray),ps.size≤8192→Ok (yO fu ps) (fun r=>wt r.1≤40*(ps.size+1))
theorem yG:bS S1:=((((bS.ge 2147483648).and E8).and HQ).and yF).imp fun fu ⟨⟨⟨hfu,E8⟩,HQ⟩,yF⟩ ps hpre=>by
 refine oB (E8 ps (10:UInt8) bR) fun x2 h1=>?_
 have:=(aX:wl ([]:List aN)=0∧_)
 refine QP x2 40 (fun i3 v5 hl3 hI4 _ _=>?_) ?_
 ·have:=bB x2
  have:=cW x2 i3 hl3
  have:=bA (aT x2 i3)
  refine oB (HQ (aT x2 i3) bR) fun x9 _=>oC (fun _=>qD) fun g6=>vH (yF (aT x2 i3) bR) fun x12 x13 h7=>?_
  dsimp only at h7
  refine oW (fun g8=>?_) fun g8=>?_
  ·have:=aH.wt_mk []
   have:=bB v5
   exact oR
  have:=bB v5
  refine oD (fun g9=>?_) fun g9=>?_
  ·have:=aH.wt_mk []
   exact oR
  have:=bB (v5)
  have:=cG x12
  refine oG fun z10=>?_
  have:=b8 v5 ([x12]:List aN)
  exact qD
 intro v5 h2
 have:=aH.wt_mk v5
 exact oS
def ahM(fu:Nat):Prop:= ∀(pc:DS),Ok (MX fu pc) (fun r=>r.1.size≤4000)
theorem L8:bS ahM:=(bS.ge 2147483648).imp fun fu hfu pc=>by
 have:cR.size=110:=rfl
 have:cS.size=156:=rfl
 refine oG fun z1=>?_
 have:=eY cR cS
 have:cY.size=119:=rfl
 refine oG fun z2=>?_
 have:=eY (cR++cS) cY
 have:c7.size=86:=rfl
 refine oG fun z3=>Ok.lt fun d4 h4=>?_;refine oC (fun g5=>?_) fun g5=>?_
 ·have:=eY ((cR++cS)++cY) c7
  have:jQ.size=120:=rfl
  refine oG fun z6=>?_
  have:=eY (((cR++cS)++cY)++c7) jQ
  have:dV.size=127:=rfl
  refine oG fun z7=>?_
  have:=eY ((((cR++cS)++cY)++c7)++jQ) dV
  have:eT.size=95:=rfl
  refine oG fun z8=>?_
  have:=eY (((((cR++cS)++cY)++c7)++jQ)++dV) eT
  have:fW.size=107:=rfl
  refine oG fun z9=>?_
  have:=eY ((((((cR++cS)++cY)++c7)++jQ)++dV)++eT) fW
  have:iH.size=51:=rfl
  refine oG fun z10=>?_
  have:=eY (((((((cR++cS)++cY)++c7)++jQ)++dV)++eT)++fW) iH
  have:lA.size=140:=rfl
  refine oG fun z11=>?_
  have:=eY ((((((((cR++cS)++cY)++c7)++jQ)++dV)++eT)++fW)++iH) lA
  have:oY.size=90:=rfl
  refine oG fun z12=>?_
  have:=eY (((((((((cR++cS)++cY)++c7)++jQ)++dV)++eT)++fW)++iH)++lA) oY
  have:BE.size=1:=rfl
  refine oG fun z13=>?_
  have:=eY ((((((((((cR++cS)++cY)++c7)++jQ)++dV)++eT)++fW)++iH)++lA)++oY) BE
  exact oS
 have:=eY ((cR++cS)++cY) c7
 have:jR.size=147:=rfl
 refine oG fun z14=>?_
 have:=eY (((cR++cS)++cY)++c7) jR
 have:dV.size=127:=rfl
 refine oG fun z15=>?_
 have:=eY ((((cR++cS)++cY)++c7)++jR) dV
 have:eT.size=95:=rfl
 refine oG fun z16=>?_
 have:=eY (((((cR++cS)++cY)++c7)++jR)++dV) eT
 have:fW.size=107:=rfl
 refine oG fun z17=>?_
 have:=eY ((((((cR++cS)++cY)++c7)++jR)++dV)++eT) fW
 have:iH.size=51:=rfl
 refine oG fun z18=>?_
 have:=eY (((((((cR++cS)++cY)++c7)++jR)++dV)++eT)++fW) iH
 have:lA.size=140:=rfl
 refine oG fun z19=>?_
 have:=eY ((((((((cR++cS)++cY)++c7)++jR)++dV)++eT)++fW)++iH) lA
 have:oY.size=90:=rfl
 refine oG fun z20=>?_
 have:=eY (((((((((cR++cS)++cY)++c7)++jR)++dV)++eT)++fW)++iH)++lA) oY
 have:BE.size=1:=rfl
 refine oG fun z21=>?_
 have:=eY ((((((((((cR++cS)++cY)++c7)++jR)++dV)++eT)++fW)++iH)++lA)++oY) BE
 exact oS
def ak3(fu:Nat):Prop:= ∀(pc:DS),Ok (RN fu pc) (fun r=>r.1.size≤3000)
theorem QG:bS ak3:=(bS.ge 2147483648).imp fun fu hfu pc=>by
 refine Ok.sok (E:=fun(v1,v2)=>v1.size≤1000) ?_ ?_
 ·refine Ok.lt fun d3 h2=>?_;refine oC (fun g3=>?_) fun g3=>?_
  ·have:eS.size=50:=rfl
   have:N2.size=38:=rfl
   refine oG fun z4=>?_
   have:=eY eS N2
   exact oI
  refine oC (fun g5=>?_) fun g5=>?_
  ·have:eS.size=50:=rfl
   have:N0.size=64:=rfl
   refine oG fun z6=>?_
   have:=eY eS N0
   exact oI
  refine oC (fun g7=>?_) fun g7=>?_
  ·have:eS.size=50:=rfl
   have:NU.size=83:=rfl
   refine oG fun z8=>?_
   have:=eY eS NU
   exact oI
  refine oC (fun g9=>?_) fun g9=>?_
  ·have:eS.size=50:=rfl
   have:NW.size=45:=rfl
   refine oG fun z10=>?_
   have:=eY eS NW
   exact oI
  refine oC (fun g11=>?_) fun g11=>?_
  ·have:eS.size=50:=rfl
   have:NV.size=90:=rfl
   refine oG fun z12=>?_
   have:=eY eS NV
   exact oI
  refine oC (fun g13=>?_) fun g13=>?_
  ·have:eS.size=50:=rfl
   have:NZ.size=45:=rfl
   refine oG fun z14=>?_
   have:=eY eS NZ
   exact oI
  have:eS.size=50:=rfl
  have:NX.size=64:=rfl
  refine oG fun z15=>?_
  have:=eY eS NX
  exact oI
 rintro⟨v1,v2⟩ h1
 dsimp only at h1
 have:oV.size=23:=rfl
 refine oG fun z16=>?_
 have:DP.size=13:=rfl
 have:DO.size=68:=rfl
 have:DM.size=29:=rfl
 have:DQ.size=43:=rfl
 have:DL.size=68:=rfl
 have:DU.size=25:=rfl
 have:DV.size=29:=rfl
 have:DR.size=45:=rfl
 have:DT.size=65:=rfl
 have:DJ.size=43:=rfl
 have:wl ([DP,DO,DM,DQ,DL,DU,DV,DR,DT,DJ]:LB)=438:=rfl
 refine Ok.lt fun d19 h17=>Ok.lt fun y21 h18=>?_
 have:=congrArg wt h18
 simp only [bA] at this
 have:y21.size≤200:=by rw [h18];exact DS.pick_size _ (by decide) (by decide)
 have:=eY v1 oV
 refine oG fun z19=>?_
 have:=eY (v1++oV) y21
 have:BE.size=1:=rfl
 refine oG fun z20=>?_;refine Ok.sok (E:=fun(v25,v26)=>v25.size≤2000) ?_ ?_
 ·refine Ok.lt fun d27 h22=>?_;refine oC (fun g23=>?_) fun g23=>?_
  ·have:=eY ((v1++oV)++y21) BE
   have:NY.size=83:=rfl
   refine oG fun z24=>?_
   have:=eY (((v1++oV)++y21)++BE) NY
   exact oI
  have:=eY ((v1++oV)++y21) BE
  exact oI
 rintro⟨v25,v26⟩ h21
 dsimp only at h21
 refine Ok.sok (E:=fun(v31,v32)=>v31.size≤2500) ?_ ?_
 ·refine Ok.lt fun d33 h26=>?_;refine oC (fun g27=>?_) fun g27=>?_
  ·have:N1.size=77:=rfl
   refine oG fun z28=>?_
   have:=eY v25 N1
   exact oI
  exact oI
 rintro⟨v31,v32⟩ h25
 dsimp only at h25
 refine Ok.lt fun d37 h29=>?_;refine oC (fun g30=>?_) fun g30=>?_
 ·have:DN.size=113:=rfl
  refine oG fun z31=>?_
  have:=eY v31 DN
  refine oG fun z32=>?_
  have:=eY (v31++DN) BE
  exact oS
 refine oG fun z33=>?_
 have:=eY v31 BE
 exact oS
def S4(fu:Nat):Prop:= ∀(pc:DS),Ok (yU fu pc) (fun r=>r.1.size≤7001)
theorem yJ:bS S4:=(((bS.ge 2147483648).and L8).and QG).imp fun fu ⟨⟨hfu,L8⟩,QG⟩ pc=>by
 refine vH (L8 pc) fun x2 x3 h1=>?_
 dsimp only at h1
 refine Ok.lt fun d4 h2=>oC (fun _=>oS) fun g3=>?_
 have:am0.size=1:=rfl
 refine oG fun z4=>vH (QG d4) fun x9 x10 h5=>?_
 dsimp only at h5
 have:=eY x2 am0
 refine oG fun z6=>?_
 have:=eY (x2++am0) x9
 exact oS
def ahO(fu:Nat):Prop:= ∀(pc:DS),Ok (MZ fu pc) (fun r=>wt r.1≤327680)
theorem MA:bS ahO:=(((bS.ge 2147483648).and yJ).and yG).imp fun fu ⟨⟨hfu,yJ⟩,yG⟩ pc=>by
 refine vH (yJ pc) fun x2 x3 h1=>?_
 dsimp only at h1
 refine vH (yG x2 bR) fun x5 x6 h2=>?_
 dsimp only at h2
 have:=aH.wt_eq x5
 have:=aH.wt_mk x5.aBr
 exact oS
end Go.Proofs.YtfcoaagbccmahaaGreat.W
