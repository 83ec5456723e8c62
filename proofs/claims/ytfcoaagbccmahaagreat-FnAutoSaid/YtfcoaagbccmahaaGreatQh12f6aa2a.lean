/- Words, rules and walks of several kinds, laid together. No conditions but those that each theorem states. -/
import Derived.Test.YtfcoaagbccmahaaGreatQh74dc39a3
set_option linter.unusedSimpArgs false
set_option linter.unusedVariables false
namespace Go.Proofs.YtfcoaagbccmahaaGreat.W
set_option maxRecDepth 100000
set_option maxHeartbeats 40000000
noncomputable section
open Tryz Go.RowKit Go.Proofs
attribute [local irreducible] lt
abbrev wX:=aA→Option Int
def wW(m:wX):Prop:= ∀(pt:aA) (r:Int),m pt=some r→bP Tryz.prog 109 [(aA.pv pt)] (pI r:PV)
def H4(fu:Nat)(p3:wX)(pt:aA):Nat→Int→Option (LR Int Int):=fun i1 v2=>bd (p3 (aP pt.asG i1)) fun x6=>some (.next (aY (v2+x6)))
def B5(fu:Nat)(p3:wX)(pt:aA):Option Int:=so (loopN (H4 fu p3 pt) (pt.asG.length-0) 0 1) fun v2=>some v2
theorem N7(fu:Nat)(p3:wX)(pE:wW p3):wW (B5 fu p3):=by
 intro pt r H
 refine qJ func109 H (fun C hC H=>?_)
 refine gQ 2 ?_;refine q1 (iR (cN pt)) ?_;refine gQ 11 ?_;refine cF.fact (b6 0 2 rfl rfl rfl (aA.trs_len _)) (fun hl3=>?_)
 try dsimp only at hl3
 refine bM (σ:=Int) (fun i1 v2=>⟨[(1,.ptr 0 0),(2,pI 0),(3,pI v2),(4,pN i1)],⟨[some ⟨30,cN pt⟩],[]⟩⟩) (fun v2=>⟨[(2,pI 0),(3,pI v2)],⟨[some ⟨30,cN pt⟩],[]⟩⟩) (eR H) ?_ ?_
 ·rintro i1 v2 H
  refine gQ 9 ?_;refine cW H (fun h4 h4l H=>?_) (fun h4 H=>?_)
  ·refine gQ 9 ?_;refine q1 (jB (aA.cs (aP pt.asG i1))) (bD H fun x6 z5 H=>(q1 (bC func109 (pE (aP pt.asG i1) _ z5)) ?_))
   exact gE 8
  exact gE 0
 rintro v2 H
 exact gE 5
def kH:Nat→aA→Option Int
 |0,_=>none
 |fu+1,pt=>B5 fu (kH fu) pt
theorem QD(fu:Nat):wW (kH fu):=by
 induction fu with
 |zero=>exact(fun pt r H=>by simp only [kH] at H;cases H)
 |succ fu ih=>exact(fun pt r H=>by simp only [kH] at H;exact N7 fu (kH fu) ih pt r H)
theorem S5(fu:Nat):wW (kH fu):=(QD fu)
abbrev wP:=aA→Option Int
def wO(m:wP):Prop:= ∀(pt:aA) (r:Int),m pt=some r→bP Tryz.prog 105 [(aA.pv pt)] (pI r:PV)
def HM(fu:Nat)(p4:wP)(pt:aA):Nat→Int→Option (LR Int Int):=fun i1 v2=>bd (p4 (aP pt.asG i1)) fun x6=>some (.next (aY (v2+x6)))
def BL(fu:Nat)(p4:wP)(pt:aA):Option Int:=so (loopN (HM fu p4 pt) (pt.asG.length-0) 0 1) fun v2=>some v2
theorem M9(fu:Nat)(p4:wP)(pF:wO p4):wO (BL fu p4):=by
 intro pt r H
 refine qJ func105 H (fun C hC H=>?_)
 refine gQ 2 ?_;refine q1 (iR (cN pt)) ?_;refine gQ 14 ?_;refine iG 7 (aA.trs_len _) (fun hl3=>?_)
 try dsimp only at hl3
 refine bM (σ:=Int) (fun i1 v2=>⟨[(2,pI 0),(3,pI v2),(7,aX pt.asG),(8,pN pt.asG.length),(9,pN i1)],⟨[some ⟨30,cN pt⟩],[]⟩⟩) (fun v2=>⟨[(2,pI 0),(3,pI v2)],⟨[some ⟨30,cN pt⟩],[]⟩⟩) (eR H) ?_ ?_
 ·rintro i1 v2 H
  refine gQ 5 ?_;refine cW H (fun h4 h4l H=>?_) (fun h4 H=>?_)
  ·refine gQ 6 ?_;refine q1 (jB (aA.cs (aP pt.asG i1))) ?_;refine gQ 5 ?_;refine q1 (cK [pI ((aP pt.asG i1).asJ),pS ((aP pt.asG i1).asD),aX ((aP pt.asG i1).asG)]) (bD H fun x6 z5 H=>(q1 (bC func105 (pF (aP pt.asG i1) _ z5)) ?_))
   exact gE 7
  exact gE 0
 rintro v2 H
 exact gE 5
def j7:Nat→aA→Option Int
 |0,_=>none
 |fu+1,pt=>BL fu (j7 fu) pt
theorem PP(fu:Nat):wO (j7 fu):=by
 induction fu with
 |zero=>exact(fun pt r H=>by simp only [j7] at H;cases H)
 |succ fu ih=>exact(fun pt r H=>by simp only [j7] at H;exact M9 fu (j7 fu) ih pt r H)
theorem SM(fu:Nat):wO (j7 fu):=(PP fu)
abbrev l3:=aF→(List aH)→aE→(List aA)→Option Int
def AM(m:l3):Prop:= ∀(p9:aF) (p5:List aH) (p0:aE) (a3:List aA) (r:Int),m p9 p5 p0 a3=some r→bP Tryz.prog 52 [(aF.pv p9),bY p5,(aE.pv p0),aX a3] (pI r:PV)
def CI(fu:Nat)(p1:l3)(p9:aF)(p5:List aH)(p0:aE)(a3:List aA):Option (Int⊕Unit):=sw (decide (p0.asH.asJ=2)) (bd (vA fu p0.asH.asD) fun x3=>sw x3 (some (.inl 0)) (bd (iM fu p5 p0) fun x6=>sw (decide (x6≥0)) (some (.inl 0)) (some (.inr ())))) (bd (iM fu p5 p0) fun x9=>sw (decide (x9≥0)) (some (.inl 0)) (some (.inr ())))
def CJ(fu:Nat)(p1:l3)(p9:aF)(p5:List aH)(p0:aE)(a3:List aA):Nat→Unit→Option (LR Unit Int):=fun i11 _=>sw (aA.eq (aP a3 i11) p0.asH) (some (.ret 0)) (some (.next ()))
def K8(fu:Nat)(p1:l3)(p9:aF)(p5:List aH)(p0:aE)(a3:List aA)(x16:aI)(x17:Int)(x18:Bool)(x24:Int):Nat→((List aN))→Option (LR ((List aN)) Int):=fun i26 v28=>gd (i26<(p0.asH.asG).length) (gd ((v28).length+(([(aN.mk (aP x16.asP i26) (aP p0.asH.asG i26))]:List aN)).length≤68719476736) (some (.next (v28++([(aN.mk (aP x16.asP i26) (aP p0.asH.asG i26))]:List aN)))))
def LA(fu:Nat)(p1:l3)(p9:aF)(p5:List aH)(p0:aE)(a3:List aA)(x16:aI)(x17:Int)(x18:Bool)(x24:Int)(v28:List aN)(i35:Nat):Nat→Unit→Option (LR Unit (LR Unit Int)):=fun i38 _=>gd (DR v28) (gd (n3 (aP ((aP x16.asI i35).asR) i38)) (bd (p1 p9 p5 (aE.mk p0.asN (jQ v28 (aP ((aP x16.asI i35).asR) i38))) ((([])++a3)++([p0.asH]:List aA))) fun x44=>sw (!decide (x44=0)) (some (.ret (.ret x44))) (some (.next ()))))
def K9(fu:Nat)(p1:l3)(p9:aF)(p5:List aH)(p0:aE)(a3:List aA)(x16:aI)(x17:Int)(x18:Bool)(x24:Int)(v28:List aN):Nat→Unit→Option (LR Unit Int):=fun i35 _=>so (loopN (LA fu p1 p9 p5 p0 a3 x16 x17 x18 x24 v28 i35) (((aP x16.asI i35).asR).length-0) 0 ()) fun _=>some (.next ())
def AK(fu:Nat)(p1:l3)(p9:aF)(p5:List aH)(p0:aE)(a3:List aA):Option Int:=so (CI fu p1 p9 p5 p0 a3) fun _=>so (loopN (CJ fu p1 p9 p5 p0 a3) (a3.length-0) 0 ()) fun _=>bd (rN fu p9 p0.asH.asD) fun(x16,x17,x18)=>sw (!decide (p0.asH.asJ=2)) (some 1) (sw (!(x18)) (some 1) (sw (!decide ((x16.asP.length:Int)=(p0.asH.asG.length:Int))) (some 1) (sw (decide ((a3.length:Int)>30)) (some 3) (bd (kH fu p0.asH) fun x24=>sw (decide (x24>400)) (some 3) (so (loopN (K8 fu p1 p9 p5 p0 a3 x16 x17 x18 x24) (x16.asP.length-0) 0 ([])) fun v28=>gd (([]:List aA).length+(a3).length≤68719476736) (gd ((([])++a3).length+(([p0.asH]:List aA)).length≤68719476736) (so (loopN (K9 fu p1 p9 p5 p0 a3 x16 x17 x18 x24 v28) (x16.asI.length-0) 0 ()) fun _=>some 0)))))))
theorem QN(fu:Nat)(p1:l3)(pH:AM p1):AM (AK fu p1):=by
 intro p9 p5 p0 a3 r H
 refine qJ func52 H (fun C hC H=>?_)
 refine gQ 2 ?_;refine q1 (iR ([aU p9.asE])) (q1 (iR (eD p0)) ?_)
 refine gQ 3 ?_;refine m3 (σ:=Unit) (fun _=>⟨[(1,bY p5),(3,aX a3),(4,.ptr 0 0),(6,.ptr 1 0),(8,pI 0)],⟨[some ⟨26,[aU p9.asE]⟩,some ⟨32,eD p0⟩],[]⟩⟩) (eR H) (fun H=>?_) ?_
 ·refine gQ 7 ?_;refine dF 23 H (fun g1 H=>?_) fun g1 H=>?_
  ·refine gQ 3 ?_;refine bD H fun x3 z2 H=>(qg g1 (bC func108 (GI fu p0.asH.asD _ z2)) ?_)
   refine gQ 2 ?_;refine dF 29 H (fun g4 H=>gE 11) fun g4 H=>?_;refine qg g4 bG (qg g4 (cK [pS p0.asN,pI p0.asH.asJ,pS p0.asH.asD,aX p0.asH.asG]) (bD H fun x6 z5 H=>(qg g4 (bC func14 (lV fu p5 p0 _ z5)) ?_)))
   refine gQ 3 ?_;refine a7 H (fun h7 H=>gE 4) fun h7 H=>?_;exact gE 1
  refine gQ 7 ?_;refine qg rfl (cK [pS p0.asN,pI p0.asH.asJ,pS p0.asH.asD,aX p0.asH.asG]) (bD H fun x9 z8 H=>(qg rfl (bC func14 (lV fu p5 p0 _ z8)) ?_))
  refine gQ 3 ?_;refine a7 H (fun h10 H=>gE 4) fun h10 H=>?_;exact gE 1
 rintro⟨⟩ H
 refine gQ 5 ?_;refine iG 3 (aA.trs_len _) (fun hl12=>?_)
 try dsimp only at hl12
 refine bM (σ:=Unit) (fun i11 _=>⟨[(1,bY p5),(3,aX a3),(4,.ptr 0 0),(6,.ptr 1 0),(8,pI 0),(9,pN i11)],⟨[some ⟨26,[aU p9.asE]⟩,some ⟨32,eD p0⟩],[]⟩⟩) (fun _=>⟨[(1,bY p5),(3,aX a3),(4,.ptr 0 0),(6,.ptr 1 0),(8,pI 0)],⟨[some ⟨26,[aU p9.asE]⟩,some ⟨32,eD p0⟩],[]⟩⟩) (eR H) ?_ ?_
 ·rintro i11 ⟨⟩ H
  refine gQ 8 ?_;refine cW H (fun h13 h13l H=>?_) (fun h13 H=>?_)
  ·refine gQ 4 ?_;refine dW (dI [3] bG (dI [9] bG (dI [41,42] qY (dI [43] (jB (aA.cs (aP a3 i11))) (dI [6] bS (dD [45] (cK [pI p0.asH.asJ,pS p0.asH.asD,aX p0.asH.asG]) (dI [44,46] (bC func38 (EN (aP a3 i11) p0.asH)) (dN ?_))))))))
   refine a7 H (fun h14 H=>gE 4) fun h14 H=>?_;exact gE 6
  exact gE 0
 rintro⟨⟩ H
 refine gQ 2 ?_;refine q1 (cK [aU p9.asE]) ?_;refine gQ 3 ?_;refine PG H fun x16 x17 x18 z15 H=>(q1 (bC func53 (ES fu p9 p0.asH.asD _ z15)) ?_)
 refine gQ 17 ?_;refine dF 61 H (fun g19 H=>gE 19) fun g19 H=>?_;refine gQ 4 ?_;refine dF 65 H (fun g20 H=>gE 15) fun g20 H=>?_;refine gQ 10 ?_;refine a7 H (fun h21 H=>gE 4) fun h21 H=>?_;refine gQ 8 ?_;refine dF 78 H (fun g22 H=>gE 11) fun g22 H=>?_;refine qg g22 bS (qg g22 (cK [pI p0.asH.asJ,pS p0.asH.asD,aX p0.asH.asG]) (bD H fun x24 z23 H=>(qg g22 (bC func109 (S5 fu p0.asH _ z23)) ?_)))
 refine gQ 3 ?_;refine a7 H (fun h25 H=>gE 4) fun h25 H=>?_;refine gQ 3 ?_;refine q1 (n0 ([]:List aN)) ?_;refine gQ 7 ?_;refine iG 67 (bI _) (fun hl29=>?_)
 try dsimp only at hl29
 refine bM (σ:=(List aN)) (fun i26 v28=>⟨[(1,bY p5),(3,aX a3),(4,.ptr 0 0),(6,.ptr 1 0),(8,pI 0),(10,.ptr 2 0),(13,l6 v28 0),(14,pN i26)],⟨[some ⟨26,[aU p9.asE]⟩,some ⟨32,eD p0⟩,some ⟨39,dG x16⟩],[⟨44,4,aN.trs (v28),false⟩]⟩⟩) (fun v28=>⟨[(1,bY p5),(3,aX a3),(4,.ptr 0 0),(6,.ptr 1 0),(8,pI 0),(10,.ptr 2 0),(13,l6 v28 0)],⟨[some ⟨26,[aU p9.asE]⟩,some ⟨32,eD p0⟩,some ⟨39,dG x16⟩],[⟨44,4,aN.trs (v28),false⟩]⟩⟩) (eR H) ?_ ?_
 ·rintro i26 v28 H
  refine gQ 9 ?_;refine cW H (fun h30 h30l H=>?_) (fun h30 H=>?_)
  ·refine gQ 3 ?_;refine cQ H fun z31 H=>(cQ H fun z32 H=>(dW (dI [13] bG (dI [10] bS (dD [93] eE (dI [14] bG (dI [94,95] qY (dI [96] xR (dI [6] bS (dI [98] bS (dD [99] eE (dI [14] bG (dI [100,101] qY ?_)))))))))))))
   refine dI [102] (jB (aA.cs (aP p0.asH.asG i26))) (dI [97,103] nU (dI [104] (gC ([(aN.mk (aP x16.asP i26) (aP p0.asH.asG i26))]:List aN)) (dE [92,105] (jS z32) (dI [106] bG (dN ?_)))))
   exact gE 5
  exact gE 0
 rintro v28 H
 refine qS (cQ H fun z33 H=>(cQ H fun z34 H=>(dW (dE [] (n0 ([]:List aA)) (dI [3] bG (dE [107,108] (jS z33) (dI [6] bS (dB [110] 0 2 (GP [pI p0.asH.asJ,pS p0.asH.asD,aX p0.asH.asG]) (dI [111] (gC ([p0.asH]:List aA)) (dE [109,112] (jS z34) (dI [113] bG (dN ?_))))))))))))
 refine gQ 5 ?_;refine cF.fact (b6 2 2 rfl rfl rfl (aC.trs_len _)) (fun hl36=>?_)
 try dsimp only at hl36
 refine bM (σ:=Unit) (fun i35 _=>⟨[(1,bY p5),(4,.ptr 0 0),(6,.ptr 1 0),(8,pI 0),(10,.ptr 2 0),(13,l6 v28 0),(15,fW ((([])++a3)++([p0.asH]:List aA)) 1),(16,pN i35)],⟨[some ⟨26,[aU p9.asE]⟩,some ⟨32,eD p0⟩,some ⟨39,dG x16⟩],[⟨44,4,aN.trs (v28),false⟩,⟨30,3,aA.trs ((([])++a3)++([p0.asH]:List aA)),false⟩]⟩⟩) (fun _=>⟨[(8,pI 0)],⟨[some ⟨26,[aU p9.asE]⟩,some ⟨32,eD p0⟩,some ⟨39,dG x16⟩],[⟨44,4,aN.trs (v28),false⟩,⟨30,3,aA.trs ((([])++a3)++([p0.asH]:List aA)),false⟩]⟩⟩) (eR H) ?_ ?_
 ·rintro i35 ⟨⟩ H
  refine gQ 9 ?_;refine cW H (fun h37 h37l H=>?_) (fun h37 H=>?_)
  ·refine gQ 7 ?_;refine bM (σ:=Unit) (fun i38 _=>⟨[(1,bY p5),(4,.ptr 0 0),(6,.ptr 1 0),(8,pI 0),(10,.ptr 2 0),(13,l6 v28 0),(15,fW ((([])++a3)++([p0.asH]:List aA)) 1),(16,pN i35),(17,pN i38),(114,pN i35),(115,.ptr 2 2),(116,cB x16.asI),(117,pN x16.asI.length),(118,pB (decide ((i35:Int)<(x16.asI.length:Int))))],⟨[some ⟨26,[aU p9.asE]⟩,some ⟨32,eD p0⟩,some ⟨39,dG x16⟩],[⟨44,4,aN.trs (v28),false⟩,⟨30,3,aA.trs ((([])++a3)++([p0.asH]:List aA)),false⟩]⟩⟩) (fun _=>⟨[(1,bY p5),(4,.ptr 0 0),(6,.ptr 1 0),(8,pI 0),(10,.ptr 2 0),(13,l6 v28 0),(15,fW ((([])++a3)++([p0.asH]:List aA)) 1),(16,pN i35),(114,pN i35),(115,.ptr 2 2),(116,cB x16.asI),(117,pN x16.asI.length),(118,pB (decide ((i35:Int)<(x16.asI.length:Int))))],⟨[some ⟨26,[aU p9.asE]⟩,some ⟨32,eD p0⟩,some ⟨39,dG x16⟩],[⟨44,4,aN.trs (v28),false⟩,⟨30,3,aA.trs ((([])++a3)++([p0.asH]:List aA)),false⟩]⟩⟩) (eR H) ?_ ?_
   ·rintro i38 ⟨⟩ H
    refine gQ 10 ?_;refine SR 127 (aA.trs_len _) (fun hl39=>?_)
    try dsimp only at hl39
    refine gQ 3 ?_;refine cW H (fun h40 h40l H=>?_) (fun h40 H=>?_)
    ·refine gQ 4 ?_;refine cQ H fun z41 H=>(cQ H fun z42 H=>(bD H fun x44 z43 H=>(dW (dD [4] (cK [aU p9.asE]) (dI [1] bG (dI [6] bS (dD [134] eE (dI [13] bG (dI [10] bS (dD [137] eE (dI [16] bG (dI [138,139] qY (dI [140] y2 ?_)))))))))))))
     refine dI [141] xR (dI [17] bG (dI [142,143] qY (dI [144] (jB (aA.cs (aP ((aP x16.asI i35).asR) i38))) (dI [136,145] (bC func110 (ab6 v28 (aP ((aP x16.asI i35).asR) i38) z41 z42)) (dI [135,146] nU (dI [15] bG (dI [132,133,147,148] (bC func52 (pH p9 p5 (aE.mk p0.asN (jQ v28 (aP ((aP x16.asI i35).asR) i38))) ((([])++a3)++([p0.asH]:List aA)) _ z43)) (dI [149] bG (dN ?_)))))))))
     refine gQ 5 ?_;refine a7 H (fun h45 H=>?_) (fun h45 H=>?_)
     ·refine gQ 5 ?_;refine cF.ret ?_
      obtain rfl:_=r:=(YL (skL (YL (xQ H))):)
      exact NQ
     exact gE 6
    exact gE 0
   rintro⟨⟩ H
   exact gE 5
  exact gE 0
 rintro⟨⟩ H
 exact gE 4
def iT:Nat→aF→(List aH)→aE→(List aA)→Option Int
 |0,_,_,_,_=>none
 |fu+1,p9,p5,p0,a3=>AK fu (iT fu) p9 p5 p0 a3
theorem TZ(fu:Nat):AM (iT fu):=by
 induction fu with
 |zero=>exact(fun p9 p5 p0 a3 r H=>by simp only [iT] at H;cases H)
 |succ fu ih=>exact(fun p9 p5 p0 a3 r H=>by simp only [iT] at H;exact QN fu (iT fu) ih p9 p5 p0 a3 r H)
theorem W1(fu:Nat):AM (iT fu):=(TZ fu)
def zM(fu:Nat)(pG:ByteArray):Option Bool:=sw (decide (pG=dK)) (some true) (some (decide (pG=c9)))
theorem PT(fu:Nat)(pG:ByteArray)(r:Bool)(H:zM fu pG=some r):bP Tryz.prog 100 [pS pG] (pB r):=by
 refine qJ func100 H (fun C hC H=>?_)
 refine gQ 9 ?_;refine dF 5 H (fun g1 H=>gE 5) fun g1 H=>?_;exact gE 5
def FJ(fu:Nat)(pu c1:aA):Option Bool:=some (aA.eq pu c1)
theorem VI(fu:Nat)(pu:aA)(c1:aA)(r:Bool)(H:FJ fu pu c1=some r):cJ Tryz.prog 104 [(aA.pv pu),.ptr 0 0] ⟨[some ⟨30,cN c1⟩],[]⟩ (fun q t=>q=(pB r)∧t=⟨[some ⟨30,cN c1⟩],[]⟩):=by
 refine qJ func104 H (fun C hC H=>?_)
 refine gQ 2 ?_;refine q1 (iR (cN pu)) ?_;refine gQ 4 ?_;refine q1 (cK [pI pu.asJ,pS pu.asD,aX pu.asG]) (q1 (cK [pI c1.asJ,pS c1.asD,aX c1.asG]) (q1 (bC func95 (EK pu c1)) ?_))
 exact gE 2
def l7(fu:Nat)(ps:List aA)(c1_0:aA):Nat→Unit→Option (LR Unit Int):=fun i1 _=>bd (FJ fu (aP ps i1) c1_0) fun x5=>sw x5 (some (.ret (i1:Int))) (some (.next ()))
def f8(fu:Nat)(ps:List aA)(c1_0:aA):Option Int:=so (loopN (l7 fu ps c1_0) (ps.length-0) 0 ()) fun _=>some (-1)
theorem tN(fu:Nat)(ps:List aA)(c1_0:aA)(r:Int)(H:f8 fu ps c1_0=some r):cJ Tryz.prog 150 [aX ps,.fn 104 [.ptr 0 0]] ⟨[some ⟨30,cN c1_0⟩],[]⟩ (fun q t=>q=(pI r)∧t=⟨[some ⟨30,cN c1_0⟩],[]⟩):=by
 refine qJ func150 H (fun C hC H=>?_)
 refine gQ 11 ?_;refine iG 0 (aA.trs_len _) (fun hl2=>?_)
 try dsimp only at hl2
 refine bM (σ:=Unit) (fun i1 _=>⟨[(0,aX ps),(1,.fn 104 [.ptr 0 0]),(4,pI 0),(7,pN ps.length),(8,pN i1)],⟨[some ⟨30,cN c1_0⟩],[]⟩⟩) (fun _=>⟨[(4,pI 0)],⟨[some ⟨30,cN c1_0⟩],[]⟩⟩) (eR H) ?_ ?_
 ·rintro i1 ⟨⟩ H
  refine gQ 5 ?_;refine cW H (fun h3 h3l H=>?_) (fun h3 H=>?_)
  ·refine gQ 14 ?_;refine q1 (jB (aA.cs (aP ps i1))) (bD H fun x5 z4 H=>(q1 (a5.callVPE (pre:=⟨[some ⟨30,cN c1_0⟩],[]⟩) (st':=⟨[some ⟨30,cN c1_0⟩],[]⟩) (ps:= [_]) (cs:= [.ptr 0 0]) (qs:= [(aA.pv (aP ps i1)),.ptr 0 0]) [0] [] rfl rfl rfl func104 (by kernel_rfl) rfl rfl rfl (eX.of ⟨⟨_,rfl,rfl,jH,rfl⟩,trivial⟩ trivial (by decide) (by decide)) jH rfl rfl rfl (VI fu (aP ps i1) c1_0 _ z4)) (qN ?_)))
   refine a7 H (fun h6 H=>gE 5) fun h6 H=>?_;exact gE 5
  exact gE 0
 rintro⟨⟩ H
 exact gE 4
def fD(fu:Nat)(ps:List aA)(c1_0:aA):Option Bool:=bd (f8 fu ps c1_0) fun x2=>some (decide (x2≥0))
theorem rQ(fu:Nat)(ps:List aA)(c1_0:aA)(r:Bool)(H:fD fu ps c1_0=some r):cJ Tryz.prog 103 [aX ps,.fn 104 [.ptr 0 0]] ⟨[some ⟨30,cN c1_0⟩],[]⟩ (fun q t=>q=(pB r)∧t=⟨[some ⟨30,cN c1_0⟩],[]⟩):=by
 refine qJ func103 H (fun C hC H=>?_)
 refine gQ 8 ?_;refine bD H fun x2 z1 H=>(q1 (eW [0] [] func150 (tN fu ps c1_0 _ z1)) ?_)
 exact gE 3
def Q5(fu:Nat)(p8:LB)(p7:List aA):Nat→((List aN))→Option (LR ((List aN)) ((List aN))):=fun i1 v3=>gd (i1<(p8).length) (gd (i1<(p7).length) (gd ((v3).length+(([(aN.mk (aP p8 i1) (aP p7 i1))]:List aN)).length≤68719476736) (some (.next (v3++([(aN.mk (aP p8 i1) (aP p7 i1))]:List aN))))))
def HO(fu:Nat)(p8:LB)(p7:List aA):Option ((List aN)):=so (loopN (Q5 fu p8 p7) (min p8.length p7.length-0) 0 ([])) fun v3=>some v3
theorem abT(fu:Nat)(p8:LB)(p7:List aA)(r:(List aN))(H:HO fu p8 p7=some r):bP Tryz.prog 106 [rS p8,aX p7] (kA r):=by
 refine qJ func106 H (fun C hC H=>?_)
 refine gQ 6 ?_;refine q1 (n0 ([]:List aN)) ?_;refine gQ 9 ?_;refine q1 (rMn) ?_;refine gQ 2 ?_;refine iG 0 (bI _) (fun hl4=>?_)
 try dsimp only at hl4
 refine bM (σ:=(List aN)) (fun i1 v3=>⟨[(0,rS p8),(1,aX p7),(4,.nil),(5,l6 v3 0),(12,pN (min p8.length p7.length)),(13,pN i1)],⟨[],[⟨44,4,aN.trs (v3),false⟩]⟩⟩) (fun v3=>⟨[(4,.nil),(5,l6 v3 0)],⟨[],[⟨44,4,aN.trs (v3),false⟩]⟩⟩) (eR H) ?_ ?_
 ·rintro i1 v3 H
  refine gQ 5 ?_;refine cW H (fun h5 h5l H=>?_) (fun h5 H=>?_)
  ·refine gQ 8 ?_;refine cQ H fun z6 H=>(cQ H fun z7 H=>(cQ H fun z8 H=>(dW (dI [5] bG (dI [0] bG (dI [6] bG (dI [17,18] qY (dI [19] xR (dI [1] bG (dI [6] bG (dI [21,22] qY (dI [23] (jB (aA.cs (aP p7 i1))) (dI [20,24] nU ?_)))))))))))))
   refine dI [25] (gC ([(aN.mk (aP p8 i1) (aP p7 i1))]:List aN)) (dE [16,26] (jS z8) (dI [27] bG (dN ?_)))
   exact gE 4
  exact gE 0
 rintro v3 H
 exact gE 5
abbrev vK:=bJ→ByteArray→aA→(List aA)→Option Int
def HR(m:vK):Prop:= ∀(pA:bJ) (p5:ByteArray) (p6:aA) (pC:List aA) (r:Int),m pA p5 p6 pC=some r→cJ Tryz.prog 51 [.ptr 0 0,pS p5,(aA.pv p6),aX pC] ⟨[some ⟨145,[aU pA.atP.asE,bY pA.as5]⟩],[]⟩ (fun q t=>q=(pI r:PV)∧t=⟨[some ⟨145,[aU pA.atP.asE,bY pA.as5]⟩],[]⟩)
def JE(fu:Nat)(p2:vK)(pA:bJ)(p5:ByteArray)(p6:aA)(pC:List aA):Option (Int⊕Unit):=sw (decide (p6.asJ=2)) (bd (zM fu p6.asD) fun x3=>sw x3 (sw (decide ((p6.asG.length:Int)=0)) (some (.inl 0)) (some (.inr ()))) (some (.inr ()))) (some (.inr ()))
def RB(fu:Nat)(p2:vK)(pA:bJ)(p5:ByteArray)(p6:aA)(pC:List aA)(x7:Int)(x10:aI)(x11:Int)(x12 x17:Bool)(x21:Int)(x24:List aN)(i27:Nat):Nat→Unit→Option (LR Unit (LR Unit Int)):=fun i31 _=>gd (DR x24) (gd (n3 (aP ((aP x10.asI i27).asR) i31)) (bd (p2 pA p5 (jQ x24 (aP ((aP x10.asI i27).asR) i31)) (pC++([p6]:List aA))) fun x36=>sw (!decide (x36=0)) (some (.ret (.ret x36))) (some (.next ()))))
def Q9(fu:Nat)(p2:vK)(pA:bJ)(p5:ByteArray)(p6:aA)(pC:List aA)(x7:Int)(x10:aI)(x11:Int)(x12 x17:Bool)(x21:Int)(x24:List aN):Nat→Unit→Option (LR Unit Int):=fun i27 _=>so (loopN (RB fu p2 pA p5 p6 pC x7 x10 x11 x12 x17 x21 x24 i27) (((aP x10.asI i27).asR).length-0) 0 ()) fun _=>some (.next ())
def HQ(fu:Nat)(p2:vK)(pA:bJ)(p5:ByteArray)(p6:aA)(pC:List aA):Option Int:=so (JE fu p2 pA p5 p6 pC) fun _=>bd (mT fu pA.as5 (aE.mk p5 p6)) fun x7=>sw (decide (x7≥0)) (some 0) (bd (MG fu pA.atP p6.asD) fun(x10,x11,x12)=>sw (!decide (p6.asJ=2)) (some 1) (sw (!(x12)) (some 1) (sw (!decide ((x10.asP.length:Int)=(p6.asG.length:Int))) (some 1) (bd (fD fu pC p6) fun x17=>sw x17 (some 0) (sw (decide ((pC.length:Int)>30)) (some 3) (bd (j7 fu p6) fun x21=>sw (decide (x21>400)) (some 3) (bd (HO fu x10.asP p6.asG) fun x24=>gd ((pC).length≤68719476735) (gd ((pC).length+(([p6]:List aA)).length≤68719476736) (so (loopN (Q9 fu p2 pA p5 p6 pC x7 x10 x11 x12 x17 x21 x24) (x10.asI.length-0) 0 ()) fun _=>some 0)))))))))
theorem VJ(fu:Nat)(p2:vK)(pJ:HR p2):HR (HQ fu p2):=by
 intro pA p5 p6 pC r H
 refine qJ func51 H (fun C hC H=>?_)
 refine gQ 2 ?_;refine q1 (iR (cN p6)) ?_;refine gQ 3 ?_;refine m3 (σ:=Unit) (fun _=>⟨[(0,.ptr 0 0),(1,pS p5),(3,aX pC),(6,.ptr 1 0),(8,pI 0)],⟨[some ⟨145,[aU pA.atP.asE,bY pA.as5]⟩,some ⟨30,cN p6⟩],[]⟩⟩) (eR H) (fun H=>?_) ?_
 ·refine gQ 6 ?_;refine dF 22 H (fun g1 H=>?_) fun g1 H=>?_
  ·refine gQ 2 ?_;refine bD H fun x3 z2 H=>(qg g1 (bC func100 (PT fu p6.asD _ z2)) ?_)
   refine gQ 2 ?_;refine dF 27 H (fun g4 H=>?_) fun g4 H=>?_
   ·refine gQ 6 ?_;refine a7 H (fun h5 H=>gE 4) fun h5 H=>?_;exact gE 1
   exact gE 8
  exact gE 13
 rintro⟨⟩ H
 refine gQ 2 ?_;refine bD H fun x7 z6 H=>(dW (dI [0] bG (dI [33] sU (dI [34] bS (dD [35] eE (dI [1] bG (dD [6] (cK [pI p6.asJ,pS p6.asD,aX p6.asG]) (dI [37,38] nU (dI [36,39] (bC func101 (FF fu pA.as5 (aE.mk p5 p6) _ z6)) (dI [40] rGe (dN ?_)))))))))))
 refine a7 H (fun h8 H=>gE 4) fun h8 H=>?_;refine gQ 2 ?_;refine PG H fun x10 x11 x12 z9 H=>(dW (dI [0] bG (dI [43] sU (dI [44] bS (dB [45] 0 1 (GP [aU pA.atP.asE]) (dI [6] bS (dB [47] 0 1 t7 (dI [46,48] (bC func102 (adJ fu pA.atP p6.asD _ z9)) (dI [49] bG ?_)))))))))
 iterate 3 refine dI [42] rEx ?_
 refine dE [] tAl (kS [9,50] jP (dI [51] bG (dI [52] bG (dN ?_))))
 refine gQ 7 ?_;refine dF 56 H (fun g13 H=>gE 18) fun g13 H=>?_;refine gQ 4 ?_;refine dF 60 H (fun g14 H=>gE 14) fun g14 H=>?_;refine gQ 9 ?_;refine a7 H (fun h15 H=>gE 4) fun h15 H=>?_;refine gQ 5 ?_;refine q1 rMf (bD H fun x17 z16 H=>(q1 (eW [1] [] func103 (rQ fu pC p6 _ z16)) (qN ?_)))
 refine a7 H (fun h18 H=>gE 4) fun h18 H=>?_;refine gQ 8 ?_;refine dF 75 H (fun g19 H=>gE 10) fun g19 H=>?_;refine qg g19 (cK [pI p6.asJ,pS p6.asD,aX p6.asG]) (bD H fun x21 z20 H=>(qg g19 (bC func105 (SM fu p6 _ z20)) ?_))
 refine gQ 3 ?_;refine a7 H (fun h22 H=>gE 4) fun h22 H=>?_;refine gQ 7 ?_;refine bD H fun x24 z23 H=>(q1 (bC func106 (abT fu x10.asP p6.asG _ z23)) ?_)
 refine gQ 3 ?_;refine cQ H fun z25 H=>(cQ H fun z26 H=>(dW (dI [3] bG (dE [85] (a5.callOwn (pre:=⟨[],[]⟩) (B:= []) (R:=fun k=>fW pC k) (ps:= [_]) (qs:= [aX pC]) [] rfl rfl func107 (by kernel_rfl) rfl rfl rfl (eX.of trivial trivial (by decide) (by decide)) rfl jH rfl rfl rfl (fun k k'=>Mv.acc) (U9 pC z25)) (dB [6] 0 1 (GP [pI p6.asJ,pS p6.asD,aX p6.asG]) (dI [87] (gC ([p6]:List aA)) (dE [86,88] (jS z26) (dI [89] bG (dN ?_)))))))))
 refine gQ 8 ?_;refine iG 91 (aC.trs_len _) (fun hl28=>?_)
 try dsimp only at hl28
 refine bM (σ:=Unit) (fun i27 _=>⟨[(0,.ptr 0 0),(1,pS p5),(8,pI 0),(12,kA x24),(13,fW (pC++([p6]:List aA)) 0),(91,cB x10.asI),(92,pN x10.asI.length),(93,pN i27)],⟨[some ⟨145,[aU pA.atP.asE,bY pA.as5]⟩,some ⟨30,cN p6⟩,some ⟨39,dG x10⟩],[⟨30,3,aA.trs (pC++([p6]:List aA)),false⟩]⟩⟩) (fun _=>⟨[(8,pI 0)],⟨[some ⟨145,[aU pA.atP.asE,bY pA.as5]⟩,some ⟨30,cN p6⟩,some ⟨39,dG x10⟩],[⟨30,3,aA.trs (pC++([p6]:List aA)),false⟩]⟩⟩) (eR H) ?_ ?_
 ·rintro i27 ⟨⟩ H
  refine gQ 5 ?_;refine cW H (fun h29 h29l H=>?_) (fun h29 H=>?_)
  ·refine gQ 6 ?_;refine q1 (jB (aC.cs (aP x10.asI i27))) ?_;refine gQ 7 ?_;refine SR 98 (aA.trs_len _) (fun hl30=>?_)
   try dsimp only at hl30
   refine gQ 3 ?_;refine bM (σ:=Unit) (fun i31 _=>⟨[(0,.ptr 0 0),(1,pS p5),(8,pI 0),(12,kA x24),(13,fW (pC++([p6]:List aA)) 0),(15,.ptr 3 0),(91,cB x10.asI),(92,pN x10.asI.length),(93,pN i27),(94,pB (decide ((i27:Int)<(x10.asI.length:Int)))),(95,.eptr (aC.cs (aP x10.asI i27))),(96,(aC.pv (aP x10.asI i27))),(97,.ptr 3 1),(98,aX ((aP x10.asI i27).asR)),(99,pN (((aP x10.asI i27).asR).length)),(100,pN i31)],⟨[some ⟨145,[aU pA.atP.asE,bY pA.as5]⟩,some ⟨30,cN p6⟩,some ⟨39,dG x10⟩,some ⟨46,[pS ((aP x10.asI i27).asD),aX ((aP x10.asI i27).asR)]⟩],[⟨30,3,aA.trs (pC++([p6]:List aA)),false⟩]⟩⟩) (fun _=>⟨[(0,.ptr 0 0),(1,pS p5),(8,pI 0),(12,kA x24),(13,fW (pC++([p6]:List aA)) 0),(15,.ptr 3 0),(91,cB x10.asI),(92,pN x10.asI.length),(93,pN i27),(94,pB (decide ((i27:Int)<(x10.asI.length:Int)))),(95,.eptr (aC.cs (aP x10.asI i27))),(96,(aC.pv (aP x10.asI i27))),(97,.ptr 3 1),(98,aX ((aP x10.asI i27).asR)),(99,pN (((aP x10.asI i27).asR).length))],⟨[some ⟨145,[aU pA.atP.asE,bY pA.as5]⟩,some ⟨30,cN p6⟩,some ⟨39,dG x10⟩,some ⟨46,[pS ((aP x10.asI i27).asD),aX ((aP x10.asI i27).asR)]⟩],[⟨30,3,aA.trs (pC++([p6]:List aA)),false⟩]⟩⟩) (eR H) ?_ ?_
   ·rintro i31 ⟨⟩ H
    refine gQ 5 ?_;refine cW H (fun h32 h32l H=>?_) (fun h32 H=>?_)
    ·refine gQ 6 ?_;refine q1 (jB (aA.cs (aP ((aP x10.asI i27).asR) i31))) ?_;refine gQ 8 ?_;refine q1 (cK [pI ((aP ((aP x10.asI i27).asR) i31).asJ),pS ((aP ((aP x10.asI i27).asR) i31).asD),aX ((aP ((aP x10.asI i27).asR) i31).asG)]) (cQ H fun z33 H=>(cQ H fun z34 H=>(q1 (bC func16 (Q3 x24 (aP ((aP x10.asI i27).asR) i31) z33 z34)) (q1 bG (bD H fun x36 z35 H=>(q1 (eW [0] [] func51 (pJ pA p5 (jQ x24 (aP ((aP x10.asI i27).asR) i31)) (pC++([p6]:List aA)) _ z35)) ?_))))))
     refine gQ 7 ?_;refine a7 H (fun h37 H=>?_) (fun h37 H=>?_)
     ·refine gQ 5 ?_;refine cF.ret ?_
      obtain rfl:_=r:=(YL (skL (YL (xQ H))):)
      exact NQ
     exact gE 5
    exact gE 0
   rintro⟨⟩ H
   exact gE 4
  exact gE 0
 rintro⟨⟩ H
 exact gE 4
def m7:Nat→bJ→ByteArray→aA→(List aA)→Option Int
 |0,_,_,_,_=>none
 |fu+1,pA,p5,p6,pC=>HQ fu (m7 fu) pA p5 p6 pC
theorem YG(fu:Nat):HR (m7 fu):=by
 induction fu with
 |zero=>exact(fun pA p5 p6 pC r H=>by simp only [m7] at H;cases H)
 |succ fu ih=>exact(fun pA p5 p6 pC r H=>by simp only [m7] at H;exact VJ fu (m7 fu) ih pA p5 p6 pC r H)
theorem abW(fu:Nat):HR (m7 fu):=(YG fu)
def HL(fu:Nat)(pw:aF)(pD:List aE)(pg:aE):Option Int:=gd (QU pw pD) (bd (m7 fu (bJ.mk pw (GZ pw pD)) pg.asN pg.asH ([])) fun x3=>some x3)
theorem PO(fu:Nat)(pw:aF)(pD:List aE)(pg:aE)(r:Int)(H:HL fu pw pD pg=some r):bP Tryz.prog 11 [(aF.pv pw),b4 pD,(aE.pv pg)] (pI r):=by
 refine qJ func11 H (fun C hC H=>?_)
 refine gQ 2 ?_;refine q1 (iR ([aU pw.asE])) (q1 (iR (eD pg)) ?_)
 refine gQ 3 ?_;refine cQ H fun z1 H=>(bD H fun x3 z2 H=>(dW (dD [3] (cK [aU pw.asE]) (dI [1] bG (dE [7,8] (a5.callNew (ps:= [_,_]) rfl rfl func50 (by kernel_rfl) rfl rfl jH rfl rfl (SV pw pD z1)) (dI [5] bS (dB [10] 0 1 t7 (dI [5] bS (dB [12] 0 1 (GP [pI pg.asH.asJ,pS pg.asH.asD,aX pg.asH.asG]) (dE [9,11,13] (eW [2] [] func51 (abW fu (bJ.mk pw (GZ pw pD)) pg.asN pg.asH ([]) _ z2)) (dI [14] bG (dN ?_))))))))))))
 exact gE 0
end
end Go.Proofs.YtfcoaagbccmahaaGreat.W

namespace Go.Proofs.YtfcoaagbccmahaaGreat.W
set_option maxRecDepth 100000
set_option maxHeartbeats 40000000
noncomputable section
open Go.RowKit Go.Proofs
attribute [local irreducible] lt
def H3(fu:Nat)(pw:aF)(p0:List aE)(pg:aE):Option Int:=bd (nC fu pw p0) fun x2=>bd (iT fu pw x2 pg ([])) fun x4=>some x4
theorem P6(fu:Nat)(pw:aF)(p0:List aE)(pg:aE)(r:Int)(H:H3 fu pw p0 pg=some r):bP Tryz.prog 12 [(aF.pv pw),b4 p0,(aE.pv pg)] (pI r):=by
 refine qJ Tryz.func12 H (fun C hC H=>?_)
 refine gQ 2 ?_;refine q1 (iR ([aU pw.asE])) (q1 (iR (eD pg)) ?_)
 refine gQ 3 ?_;refine bD H fun x2 z1 H=>(bD H fun x4 z3 H=>(dW ?_))
 iterate 2 refine dD [3] (cK [aU pw.asE]) ?_
 refine dI [1] bG (dI [8,9] (bC Tryz.func15 (tY fu pw p0 _ z1)) (dD [5] (cK [pS pg.asN,pI pg.asH.asJ,pS pg.asH.asD,aX pg.asH.asG]) (dI [] (gC ([]:List aA)) (dI [7,10,11,12] (bC Tryz.func52 (W1 fu pw x2 pg ([]) _ z3)) (dI [13] bG (dN ?_))))))
 exact gE 0
end
end Go.Proofs.YtfcoaagbccmahaaGreat.W

namespace Go.Proofs.YtfcoaagbccmahaaGreat.W
set_option maxRecDepth 100000
set_option maxHeartbeats 40000000
noncomputable section
open Go.RowKit Go.Proofs
attribute [local irreducible] lt
end
end Go.Proofs.YtfcoaagbccmahaaGreat.W

namespace Go.Proofs.YtfcoaagbccmahaaGreat.W
attribute [local irreducible] lt
open Go.RowKit Go.Proofs
section
variable {fu:Nat} {w:aF} (hw:wt w≤13000000) {g:aE} (hg:n3 g.asH)
include hw hg
end
end Go.Proofs.YtfcoaagbccmahaaGreat.W

namespace Go.Proofs.YtfcoaagbccmahaaGreat.W
open Go.RowKit Go.WalkArith Go.Proofs
attribute [local irreducible] lt
def abG(Q:aA→Prop)(R:Int→ByteArray→Nat→Prop):Prop:= ∀k n xs,Q (.mk k n xs)↔R k n xs.length∧ ∀x∈xs,Q x
def RU(U:LB)(k:Int)(n:ByteArray)(m:Nat):Prop:=(k=1→n∈U)∧m≤68719476735
theorem G9(U:LB):abG (Gd U) (RU U):=fun k n xs=>by
 rw [Gd,CW]
 unfold RU
 constructor
 ·rintro⟨h1,h2,h3⟩;exact⟨⟨h1,h2⟩,h3⟩
 ·rintro⟨⟨h1,h2⟩,h3⟩;exact⟨h1,h2,h3⟩
section
variable {Q:aA→Prop} {R:Int→ByteArray→Nat→Prop}
theorem abG.args(hQ:abG Q R){t:aA}(h:Q t): ∀x∈t.asG,Q x:=by
 obtain⟨k,n,xs⟩:=t
 exact((hQ k n xs).1 h).2
def BQ(Q:aA→Prop)(l:List aN):Prop:= ∀b∈l,Q b.asH
theorem BQ.nil:BQ Q []:=fun b hb=>by simp at hb
theorem ac5(hQ:abG Q R){l:List aN}(hl:BQ Q l): ∀t,Q t→Q (jQ l t):=by
 refine aA.ind fun k n xs ih h=>?_
 have h1:=(hQ k n xs).1 h
 have h2:Q (.mk k n (BB l xs)):=by
  rw [hQ,zE,List.length_map]
  refine⟨h1.1,fun y hy=>?_⟩
  obtain⟨x,hx,rfl⟩:=List.mem_map.1 hy
  exact ih x hx (h1.2 x hx)
 rw [jQ]
 split
 ·split
  ·rename_i hk
   unfold BU BD at hk
   unfold xK BD
   cases hq:l.find? fun b=>decide (b.atG=n) with
   |none=>rw [hq] at hk;cases hk
   |some b=>exact hl b (List.mem_of_find?_eq_some hq)
  ·exact h2
 ·exact h2
end
mutual
def szT:aA→Int
 | .mk _ _ xs=>szL 1 xs
def szL:Int→List aA→Int
 |a,[]=>a
 |a,x::l=>szL (aY (a+szT x)) l
end
theorem O4: ∀(l:List aA) (a:Int),szL a l=l.foldl (fun a x=>aY (a+szT x)) a
 | [],a=>rfl
 |x::l,a=>by rw [szL,O4 l,List.foldl_cons]
def KV(vs:LB)(ts:List aA):List aN:=(List.range' 0 vs.length).map fun i=>aN.mk (aP vs i) (aP ts i)
theorem MD{Q:aA→Prop}{vs:LB}{ts:List aA}(hl:vs.length=ts.length)(ht: ∀t∈ts,Q t):BQ Q (KV vs ts):=fun b hb=>by
 obtain⟨i,hi,rfl⟩:=List.mem_map.1 hb
 rw [List.mem_range'_1] at hi
 exact ht _ (dO (by omega))
theorem ac9{U:LB}(hU:U.length≤68719476736){l:List aN}(h:BQ (Gd U) l):DR l:=fun b hb=>⟨U,hU,h b hb⟩
def G2(n:ByteArray):Bool:=decide (n=dK)||decide (n=c9)
def gG{α:Type}(f:α→Int):List α→Int
 | []=>0
 |t::l=>if f t=0 then gG f l else f t
def mR(w:aF)(t:aA):Bool:=decide (t.asJ=2)&&((uJ w t.asD).2.2&&decide ((uJ w t.asD).1.asP.length=t.asG.length))
def nW(b:Bool)(t:aA):Bool:=decide (t.asJ=2)&&(G2 t.asD&&(b||decide (t.asG.length=0)))
def CL(w:aF)(t f:aA):aA:=jQ (KV (uJ w t.asD).1.asP t.asG) f
def lJ(b:Bool)(w:aF)(l:List aH)(tr:ByteArray):Nat→List aA→aA→Int
 |0,_,_=>3
 |k+1,op,t=>
  bif nW b t then 0 else
  bif decide (DU l (.mk tr t)≥0) then 0 else
  bif !mR w t then 1 else
  bif op.any (fun u=>aA.eq u t) then 0 else
  bif decide (30<op.length)||decide (szT t>400) then 3 else
  gG (fun c=>gG (fun f=>lJ b w l tr k (op++ [t]) (CL w t f)) (aC.asR c)) (uJ w t.asD).1.asI
structure WQ (Q:aA→Prop) (w:aF):Prop where
 wh: ∀o,adK w o→ ∀b∈(YE w o).as0,Q b.asH
 fl: ∀n,∀c∈(uJ w n).1.asI,∀f∈c.asR,Q f
 ac: ∀o,adK w o→Q (YE w o).asW
def YO(x:aJ):LB:=(x.as0.flatMap fun b=>zU b.asH)++zU x.asW
def ab2(d:aI):LB:=d.asI.flatMap fun c=>c.asR.flatMap zU
def SU(w:aF):LB:=w.asE.flatMap fun p=>p.asS.flatMap YO++p.asL.flatMap ab2
theorem vI{α β:Type}[Wt α](f:α→List β)(h: ∀x,(f x).length≤wt x+1): ∀l:List α,(l.flatMap f).length≤wl l
 | []=>Nat.zero_le _
 |x::l=>by
  rw [List.flatMap_cons,List.length_append,aaZ]
  have:=h x
  have:=vI f h l
  omega
theorem SW(t:aA):(zU t).length≤wt t+1:=by
 have h:=VR t
 rw [G4] at h
 omega
theorem adN(w:aF):(SU w).length≤wt w:=by
 have hI: ∀x:aJ,(YO x).length≤wt x+1:=fun x=>by
  have h1:=vI (fun b:aE=>zU b.asH) (fun b=>by
   have:=SW b.asH
   have:=aE.wt_eq b
   show(zU b.asH).length≤_
   omega) x.as0
  have h2:=SW x.asW
  have h3:=aJ.wt_eq x
  unfold YO
  rw [List.length_append]
  omega
 have hD: ∀d:aI,(ab2 d).length≤wt d+1:=fun d=>by
  have h1:=vI (fun c:aC=>c.asR.flatMap zU) (fun c=>by
   have h2:=vI zU SW c.asR
   have:=aC.wt_eq c
   show(c.asR.flatMap zU).length≤_
   omega) d.asI
  have:=aI.wt_eq d
  unfold ab2
  omega
 have h:=vI (fun p:aK=>p.asS.flatMap YO++p.asL.flatMap ab2) (fun p=>by
  have h1:=vI YO hI p.asS
  have h2:=vI ab2 hD p.asL
  have:=aK.wt_eq p
  show(p.asS.flatMap YO++p.asL.flatMap ab2).length≤_
  rw [List.length_append]
  omega) w.asE
 have:=aF.wt_eq w
 unfold SU
 omega
theorem SD(w:aF)(n:ByteArray):(uJ w n).1=aI.mk s_ [] []∨ ∃p∈w.asE,(uJ w n).1∈p.asL:=by
 unfold uJ
 cases hq:(List.range' 0 w.asE.length).findSome? (dQ w n) with
 |none=>exact .inl rfl
 |some r=>
  obtain⟨i,hi,hq⟩:=List.exists_of_findSome?_eq_some hq
  unfold dQ at hq
  obtain⟨k,hk,hq⟩:=List.exists_of_findSome?_eq_some hq
  rw [List.mem_range'_1] at hi hk
  split at hq
  ·cases hq
   exact .inr ⟨_,dO (by omega:i<w.asE.length),dO (by omega:k<(aP w.asE i).asL.length)⟩
  ·cases hq
theorem NE{w:aF}{o:aO}(h:adK w o): ∃p∈w.asE,YE w o∈p.asS:=by
 obtain⟨i,k,rfl,hi,hk⟩:=h
 exact⟨_,dO hi,dO (l:=(aP w.asE i).asS) hk⟩
theorem WQ.of{Q:aA→Prop}{w:aF}(hI: ∀p∈w.asE,∀x∈p.asS,(∀b∈x.as0,Q b.asH)∧Q x.asW)(hD: ∀p∈w.asE,∀d∈p.asL,∀c∈d.asI,∀f∈c.asR,Q f):WQ Q w where
 wh:=fun o ho=>by obtain⟨p,hp,hx⟩:=NE ho;exact(hI p hp _ hx).1
 fl:=fun n c hc f hf=>by
  rcases SD w n with h|⟨p,hp,hd⟩
  ·rw [h] at hc;simp at hc
  ·exact hD p hp _ hd c hc f hf
 ac:=fun o ho=>by obtain⟨p,hp,hx⟩:=NE ho;exact(hI p hp _ hx).2
theorem O6{w:aF}(hw:wt w≤13000000){V:LB}:WQ (Gd (SU w++V)) w:=by
 have key: ∀t:aA,wt t≤13000000→(∀n∈zU t,n∈SU w)→Gd (SU w++V) t:=fun t ht hn=>
  (Gd.own t (by rw [G4];omega)).mono (fun n h=>List.mem_append_left _ (hn n h)) t
 have hP: ∀p∈w.asE,wt p≤13000000:=fun p hp=>by
  have:=aF.wt_eq w
  have:=pZ hp
  omega
 refine WQ.of (fun p hp x hx=>?_) (fun p hp d hd c hc f hf=>?_)
 ·have h1:=hP p hp
  have h2:=aK.wt_eq p
  have h3:=pZ hx
  have h4:=aJ.wt_eq x
  have hin: ∀n∈YO x,n∈SU w:=fun n hn=>List.mem_flatMap.2 ⟨p,hp,List.mem_append_left _ (List.mem_flatMap.2 ⟨x,hx,hn⟩)⟩
  refine⟨fun b hb=>key _ ?_ fun n hn=>hin n (List.mem_append_left _ (List.mem_flatMap.2 ⟨b,hb,hn⟩)),key _ (by omega) fun n hn=>hin n (List.mem_append_right _ hn)⟩
  have h5:=pZ hb
  have h6:=aE.wt_eq b
  omega
 ·have h1:=hP p hp
  have h2:=aK.wt_eq p
  have h3:=pZ hd
  have h4:=aI.wt_eq d
  have h5:=pZ hc
  have h6:=aC.wt_eq c
  have h7:=pZ hf
  refine key _ (by omega) fun n hn=>List.mem_flatMap.2 ⟨p,hp,List.mem_append_right _ (List.mem_flatMap.2 ⟨d,hd,List.mem_flatMap.2 ⟨c,hc,List.mem_flatMap.2 ⟨f,hf,hn⟩⟩⟩)⟩
theorem aaE{Q:aA→Prop}{R:Int→ByteArray→Nat→Prop}(hQ:abG Q R){w:aF}(hW:WQ Q w){t:aA}(ht:Q t)(hc:mR w t=true){c:aC}(hm:c∈(uJ w t.asD).1.asI){f:aA}(hf:f∈c.asR):Q (CL w t f):=by
 unfold mR at hc
 rw [Bool.and_eq_true,Bool.and_eq_true,decide_eq_true_eq,decide_eq_true_eq] at hc
 exact ac5 hQ (MD hc.2.2 (hQ.args ht)) _ (hW.fl _ c hm f hf)
end Go.Proofs.YtfcoaagbccmahaaGreat.W

namespace Go.Proofs.YtfcoaagbccmahaaGreat.W
open Go.RowKit Go.WalkArith Go.Proofs
attribute [local irreducible] lt
theorem H5: ∀t:aA,bL fun fu=>kH fu t=some (szT t):=by
 refine aA.ind fun k n xs ih=>?_;refine bL.succ ((bL.list ih).imp fun fu hf=>?_)
 simp only [kH,B5,aA.asG.eq_1]
 rw [qL (l:=xs) (g:=fun a x=>aY (a+szT x)) (fun _ _=>True) (fun i s hi _=>⟨?_,trivial⟩) trivial,szT,O4]
 ·rfl
 ·rw [H4]
  exact wD (hf _ (dO hi)) rfl
theorem HN: ∀t:aA,bL fun fu=>j7 fu t=some (szT t):=by
 refine aA.ind fun k n xs ih=>?_;refine bL.succ ((bL.list ih).imp fun fu hf=>?_)
 simp only [j7,BL,aA.asG.eq_1]
 rw [qL (l:=xs) (g:=fun a x=>aY (a+szT x)) (fun _ _=>True) (fun i s hi _=>⟨?_,trivial⟩) trivial,szT,O4]
 ·rfl
 ·rw [HM]
  exact wD (hf _ (dO hi)) rfl
mutual
def ag2:a8→Prop
 | .mk _ _ _ xs=>xs.length≤68719476735∧afI xs
def afI:List a8→Prop
 | []=>True
 |x::l=>ag2 x∧afI l
end
theorem YM{α β:Type}[Inhabited α]{f:Nat→List α→Option (LR (List α) β)}{l:List α}(hs: ∀i,i<l.length→(l.take i).length=i→f i (l.take i)=some (.next (l.take i++ [aP l i]))):loopN f (l.length-0) 0 []=some (.inr l):=by
 have key: ∀k i,l.length-i=k→i≤l.length→loopN f k i (l.take i)=some (.inr l):=by
  intro k
  induction k with
  |zero=>
   intro i hk hi
   rw [loopN,List.take_of_length_le (by omega)]
  |succ k ih=>
   intro i hk hi
   have h:i<l.length:=by omega
   rw [loopN,hs i h (by rw [List.length_take];omega),← CM h]
   exact ih (i+1) (by omega) (by omega)
 exact key _ 0 (by omega) (Nat.zero_le _)
structure akY (l:List a8):Prop where
 n:l.length≤68719476735
 v: ∀x∈l,ag2 x
end Go.Proofs.YtfcoaagbccmahaaGreat.W

namespace Go.Proofs.YtfcoaagbccmahaaGreat.W
open Go.RowKit Go.WalkArith Go.Proofs
attribute [local irreducible] lt uJ
theorem YZ(fu:Nat)(a b:aE):uO fu a b=some (aE.eq a b):=by
 obtain⟨n,x⟩:=a
 obtain⟨m,y⟩:=b
 unfold uO
 rw [aE.eq,I2]
 show sw (decide (n=m)) (some (aA.eq x y)) (some false)=_
 cases decide (n=m)<;>rfl
theorem RG(fu:Nat)(l:List aH)(g:aE):iM fu l g=some (DU l g):=by
 unfold iM DU
 rw [wR (p:=fun a=>aE.eq a.as4 g) (fun i hi=>by
  unfold vP
  refine YN rfl ?_
  rw [YZ]
  show sw (aE.eq (aP l i).as4 g) _ _=_
  cases aE.eq (aP l i).as4 g<;>rfl)]
 cases l.findIdx? fun a=>aE.eq a.as4 g<;>rfl
theorem G0{α β:Type}[Inhabited α]{f:α→Int}{l:List α}{F:Nat→Unit→Option (LR Unit β)}(g:Int→β)(hs: ∀i,i<l.length→F i ()=some (if f (aP l i)=0 then .next () else .ret (g (f (aP l i))))):loopN F (l.length-0) 0 ()=some (if gG f l=0 then .inr () else .inl (g (gG f l))):=by
 have key: ∀k i,l.length-i=k→loopN F k i ()=some (if gG f (l.drop i)=0 then .inr () else .inl (g (gG f (l.drop i)))):=by
  intro k
  induction k with
  |zero=>
   intro i hk
   rw [loopN,List.drop_of_length_le (by omega)]
   rfl
  |succ k ih=>
   intro i hk
   have h:i<l.length:=by omega
   rw [loopN,hs i h,G5 h,gG]
   by_cases h0:f (aP l i)=0
   ·rw [if_pos h0,if_pos h0]
    exact ih (i+1) (by omega)
   ·rw [if_neg h0,if_neg h0,if_neg h0]
 have:=key _ 0 rfl
 rwa [List.drop_zero] at this
theorem aeD{x:Int}:so (some (if x=0 then(.inr ():Int⊕Unit) else .inl x)) (fun _=>some 0)=some x:=by
 by_cases h:x=0
 ·rw [if_pos h,h];rfl
 ·rw [if_neg h];rfl
theorem aaW{x:Int}:so (some (if x=0 then(.inr ():(LR Unit Int)⊕Unit) else .inl (.ret x))) (fun _=>some (.next ()))=some (if x=0 then(.next ():LR Unit Int) else .ret x):=by
 by_cases h:x=0
 ·rw [if_pos h,if_pos h];rfl
 ·rw [if_neg h,if_neg h];rfl
theorem aeG{x:Int}:sw (!decide (x=0)) (some (.ret (.ret x))) (some (.next ()))=some (if x=0 then(.next ():LR Unit (LR Unit Int)) else .ret (.ret x)):=by
 by_cases h:x=0
 ·rw [if_pos h];exact ET (by simp [h]) rfl
 ·rw [if_neg h];exact GS (by simp [h]) rfl
theorem sw3{α:Type}{b1 b2 b3 c:Bool}{x y z:α}(h:(b1&&(b2&&b3))=c)(k:(bif !c then x else y)=z):sw (!b1) x (sw (!b2) x (sw (!b3) x y))=z:=by
 subst h
 rw [← k]
 cases b1<;>cases b2<;>cases b3<;>rfl
theorem SC(w:aF)(t:aA):(decide ((t.asJ:Int)=2)&&((uJ w t.asD).2.2&&decide ((((uJ w t.asD).1.asP.length:Nat):Int)=((t.asG.length:Nat):Int))))=mR w t:=
 congrArg (fun b=>decide (t.asJ=2)&&((uJ w t.asD).2.2&&b)) (decide_eq_decide.2 Int.ofNat_inj)
theorem QX{β:Type}{vs:LB}{ts:List aA}(hv:vs.length≤68719476736){F:Nat→List aN→Option (LR (List aN) β)}(hs: ∀i v,i<vs.length→v.length+1≤68719476736→F i v=some (.next (v++ [aN.mk (aP vs i) (aP ts i)]))):loopN F (vs.length-0) 0 []=some (.inr (KV vs ts)):=by
 have h:=yN (F:=F) (g:=fun i=>aN.mk (aP vs i) (aP ts i)) (n:=vs.length) (M:=68719476736) hs (vs.length-0) 0 [] rfl (by rw [List.length_nil];omega)
 rw [List.nil_append] at h
 exact h
theorem abS(fu:Nat){vs:LB}{ts:List aA}(hl:vs.length=ts.length)(hv:vs.length≤68719476736):HO fu vs ts=some (KV vs ts):=by
 unfold HO
 rw [show min vs.length ts.length=vs.length by omega,QX (ts:=ts) hv fun i v hi hn=>by
  unfold Q5
  exact rR hi (rR (by omega) (rR (by simpa using hn) rfl))]
 rfl
theorem VE(fu:Nat)(l:List aA)(t:aA):fD fu l t=some (l.any fun u=>aA.eq u t):=by
 have h1:f8 fu l t=some (match l.findIdx? (fun u=>aA.eq u t) with|some i=>((i:Nat):Int)|none=> -1):=by
  unfold f8
  rw [wR (l:=l) (p:=fun u=>aA.eq u t) fun i hi=>by
   unfold l7 FJ
   show sw (aA.eq (aP l i) t) _ _=_
   cases aA.eq (aP l i) t<;>rfl]
  cases l.findIdx? fun u=>aA.eq u t<;>rfl
 unfold fD
 exact wD h1 (congrArg some Q6)
theorem VD(fu:Nat)(r:vK)(q:bJ)(tr:ByteArray)(t:aA)(op:List aA):JE fu r q tr t op=some (bif nW false t then .inl 0 else .inr ()):=by
 unfold JE zM nW G2
 rw [show decide ((((t.asG.length:Nat):Int):Int)=0)=decide (t.asG.length=0) from decide_eq_decide.2 (by omega)]
 cases decide (t.asJ=2)<;>cases decide (t.asD=dK)<;>cases decide (t.asD=c9)<;>cases decide (t.asG.length=0)<;>rfl
theorem VW(fu:Nat)(r:l3)(w:aF)(l:List aH)(g:aE)(op:List aA):CI fu r w l g op=some (bif nW true g.asH then .inl 0 else bif decide (DU l g≥0) then .inl 0 else .inr ()):=by
 unfold CI vA nW G2
 rw [RG]
 cases decide (g.asH.asJ=2)<;>cases decide (g.asH.asD=dK)<;>cases decide (g.asH.asD=c9)<;>cases h:decide (DU l g≥0)<;>simp [sw,bd,h]
section
variable {U:LB} (hU:U.length≤68719476736) {w:aF} (hw:wt w≤13000000) (hW:WQ (Gd U) w) (l:List aH) (tr:ByteArray)
include hU hw hW
theorem XI{n:ByteArray}:(uJ w n).1.asP.length≤68719476736:=by
 have _:=hU;have _:=hW
 rcases SD w n with h|⟨p,hp,hd⟩
 ·rw [h];simp
 ·have:=aF.wt_eq w
  have:=pZ hp
  have:=aK.wt_eq p
  have:=pZ hd
  have:=aI.wt_eq (uJ w n).1
  have:=aZ (uJ w n).1.asP
  omega
theorem aeF{M:Nat→aA→Option Int}{f:aA→Int}{t:aA}(ht:Gd U t)(h: ∀x,Gd U x→bL fun fu=>M fu x=some (f x)):bL fun fu=>mR w t=true→ ∀c∈(uJ w t.asD).1.asI,∀x∈c.asR,M fu (CL w t x)=some (f (CL w t x)):=by
 have _:=hU;have _:=hw
 by_cases hc:mR w t=true
 ·exact(bL.list (l:=(uJ w t.asD).1.asI) (P:=fun c fu=> ∀x∈c.asR,M fu (CL w t x)=some (f (CL w t x))) fun c hm=>bL.list fun x hx=>h _ (aaE (G9 U) hW ht hc hm hx)).imp fun fu h _=>h
 ·exact .all fun fu hk=>absurd hk hc
theorem adH: ∀(k:Nat) (op:List aA) (t:aA),op.length+k=31→Gd U t→bL fun fu=>m7 fu (bJ.mk w l) tr t op=some (lJ false w l tr (k+1) op t):=by
 intro k
 induction k with
 |zero=>
  intro op t hk ht
  refine bL.succ ((HN t).imp fun fu hs=>?_)
  rw [m7,lJ]
  unfold HQ
  rw [VD]
  cases h1:nW false t with
  |true=>rfl
  |false=>
   refine soR rfl (wD (Q4 fu l _) ?_)
   cases h2:decide (DU l (.mk tr t)≥0) with
   |true=>exact GS rfl rfl
   |false=>
    refine ET rfl (wD (VG fu w t.asD) (sw3 (c:=mR w t) (SC w t) ?_))
    cases h3:mR w t with
    |false=>rfl
    |true=>
     refine wD (VE fu op t) ?_
     cases h4:op.any fun u=>aA.eq u t with
     |true=>rfl
     |false=>
      rw [decide_eq_true (show 30<op.length by omega)]
      exact ET rfl (GS (decide_eq_true (by omega)) rfl)
 |succ k ih=>
  intro op t hk ht
  have hsub:=aeF (w:=w) hU hw hW (M:=fun fu x=>m7 fu (bJ.mk w l) tr x (op++ [t])) (f:=fun x=>lJ false w l tr (k+1) (op++ [t]) x) ht fun x hx=>ih (op++ [t]) x (by rw [List.length_append,List.length_singleton];omega) hx
  refine bL.succ (((HN t).and hsub).imp fun fu hf=>?_)
  obtain⟨hs,hf⟩:=hf
  rw [m7,lJ]
  unfold HQ
  rw [VD]
  cases h1:nW false t with
  |true=>rfl
  |false=>
   refine soR rfl (wD (Q4 fu l _) ?_)
   cases h2:decide (DU l (.mk tr t)≥0) with
   |true=>exact GS rfl rfl
   |false=>
    refine ET rfl (wD (VG fu w t.asD) (sw3 (c:=mR w t) (SC w t) ?_))
    cases h3:mR w t with
    |false=>rfl
    |true=>
     refine wD (VE fu op t) ?_
     cases h4:op.any fun u=>aA.eq u t with
     |true=>rfl
     |false=>
      rw [decide_eq_false (show ¬30<op.length by omega)]
      refine ET rfl (ET (decide_eq_false (by omega)) (wD hs ?_))
      cases h5:decide (szT t>400) with
      |true=>exact GS rfl rfl
      |false=>
       have hl:(uJ w t.asD).1.asP.length=t.asG.length:=by
        have:=h3
        unfold mR at this
        rw [Bool.and_eq_true,Bool.and_eq_true,decide_eq_true_eq,decide_eq_true_eq] at this
        exact this.2.2
       refine ET rfl (wD (abS fu hl (XI hU hw hW)) (rR (by omega) (rR (by rw [List.length_singleton];omega) ?_)))
       have hb:DR (KV (uJ w t.asD).1.asP t.asG):=ac9 hU (MD hl ((G9 U).args ht))
       rw [G0 (l:=(uJ w t.asD).1.asI) (f:=fun c=>gG (fun x=>lJ false w l tr (k+1) (op++ [t]) (CL w t x)) c.asR) (fun x=>x) fun i hi=>?_]
       ·exact aeD
       ·unfold Q9
        have hc:=dO hi
        have hf2:=hf h3 _ hc
        have hg2:=fun x hx=>hW.fl t.asD _ hc x hx
        generalize hgc:aP (uJ w t.asD).1.asI i=c at hf2 hg2 ⊢
        rw [G0 (l:=c.asR) (f:=fun x=>lJ false w l tr (k+1) (op++ [t]) (CL w t x)) (fun x=> .ret x) fun j hj=>?_]
        ·exact aaW
        ·unfold RB
         rw [hgc]
         refine rR hb (rR ⟨U,hU,hg2 _ (dO hj)⟩ (wD (hf2 _ (dO hj)) aeG))
theorem ad0: ∀(k:Nat) (op:List aA) (t:aA),op.length+k=31→Gd U t→(∀u∈op,mR w u=true)→bL fun fu=>iT fu w l (.mk tr t) op=some (lJ true w l tr (k+1) op t):=by
 intro k
 induction k with
 |zero=>
  intro op t hk ht ho
  refine bL.succ (((H5 t).and (bL.ge 13000001)).imp fun fu hs=>?_)
  rw [iT,lJ]
  unfold AK
  rw [VW]
  cases h1:nW true t with
  |true=>simp only [aE.asH.eq_1,h1];rfl
  |false=>
   simp only [aE.asH.eq_1,h1]
   cases h2:decide (DU l (.mk tr t)≥0) with
   |true=>rfl
   |false=>
    refine soR rfl ?_
    rw [qH (l:=op) (p:=fun u=>aA.eq u t) (r:=fun _=>0) (fun i hi=>by unfold CJ;show sw (aA.eq (aP op i) t) _ _=_;cases aA.eq (aP op i) t<;>rfl)]
    cases h4:op.find? fun u=>aA.eq u t with
    |some u=>
     have hm:=List.mem_of_find?_eq_some h4
     have he:=(aA.eq_iff _ _).1 (List.find?_some (p:=fun u=>aA.eq u t) h4)
     have hc:=ho u hm
     rw [he] at hc
     rw [hc,List.any_eq_true.2 ⟨u,hm,List.find?_some (p:=fun u=>aA.eq u t) h4⟩]
     rfl
    |none=>
     rw [show op.any (fun u=>aA.eq u t)=false from List.any_eq_false.2 fun u hu=>List.find?_eq_none.1 h4 u hu]
     refine soR rfl (wD (F2 fu w t.asD (aF.small_wt hw (by omega))) (sw3 (c:=mR w t) (SC w t) ?_))
     cases h3:mR w t with
     |false=>rfl
     |true=>
      rw [decide_eq_true (show 30<op.length by omega)]
      exact GS (decide_eq_true (by omega)) rfl
 |succ k ih=>
  intro op t hk ht ho
  have hsub:bL fun fu=>mR w t=true→ ∀c∈(uJ w t.asD).1.asI,∀x∈c.asR,iT fu w l (.mk tr (CL w t x)) (op++ [t])=some (lJ true w l tr (k+1) (op++ [t]) (CL w t x)):=by
   by_cases hc:mR w t=true
   ·refine aeF (w:=w) hU hw hW (M:=fun fu x=>iT fu w l (.mk tr x) (op++ [t])) (f:=fun x=>lJ true w l tr (k+1) (op++ [t]) x) ht fun x hx=>ih (op++ [t]) x (by rw [List.length_append,List.length_singleton];omega) hx fun u hu=>?_
    rcases List.mem_append.1 hu with h|h
    ·exact ho u h
    ·rw [List.mem_singleton.1 h];exact hc
   ·exact .all fun fu h=>absurd h hc
  refine bL.succ ((((H5 t).and (bL.ge 13000001)).and hsub).imp fun fu hf=>?_)
  obtain⟨⟨hs,hfu⟩,hf⟩:=hf
  rw [iT,lJ]
  unfold AK
  rw [VW]
  cases h1:nW true t with
  |true=>simp only [aE.asH.eq_1,h1];rfl
  |false=>
   simp only [aE.asH.eq_1,h1]
   cases h2:decide (DU l (.mk tr t)≥0) with
   |true=>rfl
   |false=>
    refine soR rfl ?_
    rw [qH (l:=op) (p:=fun u=>aA.eq u t) (r:=fun _=>0) (fun i hi=>by unfold CJ;show sw (aA.eq (aP op i) t) _ _=_;cases aA.eq (aP op i) t<;>rfl)]
    cases h4:op.find? fun u=>aA.eq u t with
    |some u=>
     have hm:=List.mem_of_find?_eq_some h4
     have he:=(aA.eq_iff _ _).1 (List.find?_some (p:=fun u=>aA.eq u t) h4)
     have hc:=ho u hm
     rw [he] at hc
     rw [hc,List.any_eq_true.2 ⟨u,hm,List.find?_some (p:=fun u=>aA.eq u t) h4⟩]
     rfl
    |none=>
     rw [show op.any (fun u=>aA.eq u t)=false from List.any_eq_false.2 fun u hu=>List.find?_eq_none.1 h4 u hu]
     refine soR rfl (wD (F2 fu w t.asD (aF.small_wt hw (by omega))) (sw3 (c:=mR w t) (SC w t) ?_))
     cases h3:mR w t with
     |false=>rfl
     |true=>
      rw [decide_eq_false (show ¬30<op.length by omega)]
      refine ET (decide_eq_false (by omega)) (wD hs ?_)
      cases h5:decide (szT t>400) with
      |true=>exact GS rfl rfl
      |false=>
       have hl:(uJ w t.asD).1.asP.length=t.asG.length:=by
        have:=h3
        unfold mR at this
        rw [Bool.and_eq_true,Bool.and_eq_true,decide_eq_true_eq,decide_eq_true_eq] at this
        exact this.2.2
       have hb:DR (KV (uJ w t.asD).1.asP t.asG):=ac9 hU (MD hl ((G9 U).args ht))
       refine ET rfl (soR (s:=KV (uJ w t.asD).1.asP t.asG) (QX (ts:=t.asG) (XI hU hw hW) fun i v hi hn=>?_) (rR (by rw [List.length_nil];omega) (rR (by simp only [List.nil_append,List.length_singleton];omega) ?_)))
       ·unfold K8
        exact rR (by show i<t.asG.length;omega) (rR (by simpa using hn) rfl)
       ·rw [G0 (l:=(uJ w t.asD).1.asI) (f:=fun c=>gG (fun x=>lJ true w l tr (k+1) (op++ [t]) (CL w t x)) c.asR) (fun x=>x) fun i hi=>?_]
        ·exact aeD
        ·unfold K9
         have hc:=dO hi
         have hf2:=hf h3 _ hc
         have hg2:=fun x hx=>hW.fl t.asD _ hc x hx
         generalize hgc:aP (uJ w t.asD).1.asI i=c at hf2 hg2 ⊢
         rw [G0 (l:=c.asR) (f:=fun x=>lJ true w l tr (k+1) (op++ [t]) (CL w t x)) (fun x=> .ret x) fun j hj=>?_]
         ·exact aaW
         ·unfold LA
          rw [hgc]
          refine rR hb (rR ⟨U,hU,hg2 _ (dO hj)⟩ (wD (hf2 _ (dO hj)) aeG))
end
end Go.Proofs.YtfcoaagbccmahaaGreat.W

namespace Go.Proofs.YtfcoaagbccmahaaGreat.W
open Go.RowKit Go.WalkArith Go.Proofs
attribute [local irreducible] lt uJ vC
theorem nd0{c:Int}(h:c=0):(!decide (c=0))=false:=by rw [decide_eq_true h];rfl
theorem nd1{c:Int}(h: ¬c=0):(!decide (c=0))=true:=by rw [decide_eq_false h];rfl
section
variable {U:LB} (hU:U.length≤68719476736) {w:aF} (hw:wt w≤13000000) (hW:WQ (Gd U) w) (l:List aH)
include hU hw hW
end
section
variable {w:aF} (hw:wt w≤13000000) {l:List aE} (hl:l.length≤1000) (hb: ∀b∈l,n3 b.asH) {g:aE} (hg:wt g.asH≤13000000)
include hw hl hb hg
end
end Go.Proofs.YtfcoaagbccmahaaGreat.W

namespace Go.Proofs.YtfcoaagbccmahaaGreat.W
open Go.RowKit Go.WalkArith Go.Proofs
def Pt{α:Type}(o:Option α)(P:α→Prop):Prop:= ∀r,o=some r→P r
theorem Pt.some{α:Type}{P:α→Prop}{a:α}(h:P a):Pt (some a) P:=fun r e=>by cases e;exact h
theorem Pt.bd{α β:Type}{P:α→Prop}{o:Option β}{f:β→Option α}{Q:β→Prop}(h:Pt o Q)(k: ∀a,Q a→Pt (f a) P):Pt (bd o f) P:=fun r e=>by
 cases o with
 |none=>cases e
 |some a=>exact k a (h a rfl) r e
theorem Pt.any{α β:Type}{P:α→Prop}{o:Option β}{f:β→Option α}(k: ∀a,Pt (f a) P):Pt (Go.Proofs.YtfcoaagbccmahaaGreat.bd o f) P:=Pt.bd (Q:=fun _=>True) (fun _ _=>trivial) fun a _=>k a
theorem Pt.sw{α:Type}{P:α→Prop}{c:Bool}{a b:Option α}(ht:c=true→Pt a P)(hf:c=false→Pt b P):Pt (sw c a b) P:=by
 cases c
 ·exact hf rfl
 ·exact ht rfl
theorem Pt.gd{α:Type}{P:α→Prop}{g:Prop}{a:Option α}(k:Pt a P):Pt (gd g a) P:=fun r e=>by
 by_cases h:g
 ·rw [rR h rfl] at e;exact k r e
 ·rw [gdF h] at e;cases e
theorem Pt.lt{α β:Type}{P:α→Prop}{x:β}{f:β→Option α}(k: ∀y,y=x→Pt (f y) P):Pt (lt x f) P:=k x rfl
theorem Pt.so{α σ:Type}{P:α→Prop}{o:Option (α⊕σ)}{f:σ→Option α}{E:σ→Prop}(h:Pt o (PS P E))(k: ∀s,E s→Pt (f s) P):Pt (so o f) P:=fun r e=>by
 cases o with
 |none=>cases e
 |some x=>
  cases x with
  |inl y=>cases e;exact h _ rfl
  |inr s=>exact k s (h _ rfl) r e
theorem Pt.loop{α σ:Type}{P:α→Prop}{E:σ→Prop}{F:Nat→σ→Option (LR σ α)}{n:Nat}(I:Nat→σ→Prop)(hE: ∀s,I n s→E s)(hs: ∀i s,i<n→I i s→Pt (F i s) (PL P (I (i+1)) E)): ∀k i s,n-i=k→i≤n→I i s→Pt (loopN F k i s) (PS P E)
 |0,i,s,hk,hi,h=>by
  obtain rfl:i=n:=by omega
  exact Pt.some (hE s h)
 |k+1,i,s,hk,hi,h=>fun r e=>by
  rw [loopN] at e
  cases hq:F i s with
  |none=>rw [hq] at e;cases e
  |some x=>
   rw [hq] at e
   have hx:=hs i s (by omega) h x hq
   cases x with
   |next s'=>exact Pt.loop I hE hs k (i+1) s' (by omega) (by omega) hx r e
   |brk s'=>cases e;exact hx
   |ret x=>cases e;exact hx
theorem Pt.all{γ σ:Type}[Inhabited γ]{P:Bool→Prop}{l:List γ}{F:Nat→σ→Option (LR σ Bool)}{s:σ}(R:γ→Prop)(hs: ∀i v,i<l.length→Pt (F i v) (PL P (fun _=>R (aP l i)) fun _=>False)):Pt (loopN F (l.length-0) 0 s) (PS P fun _=> ∀x∈l,R x):=
 Pt.loop (fun i _=> ∀x∈l.take i,R x) (fun s h=>by rwa [List.take_length] at h) (fun i v hi h r e=>by
  have h1:=hs i v hi r e
  cases r with
  |next s'=>
   intro x hx
   rw [CM hi] at hx
   rcases List.mem_append.1 hx with h2|h2
   ·exact h x h2
   ·rw [List.mem_singleton.1 h2];exact h1
  |brk s'=>exact h1.elim
  |ret x=>exact h1) _ 0 s rfl (Nat.zero_le _) (by simp)
theorem no{X:Prop}:false=true→X:=fun h=>nomatch h
theorem HT{b:Bool}(h:(!b)=false):b=true:=by cases b<;>first|rfl|cases h
def RN(k:Int)(n:ByteArray)(m:Nat):Prop:=k=2→G2 n=true→m=0
mutual
def NI:aA→Prop
 | .mk k n xs=>RN k n xs.length∧NIL xs
def NIL:List aA→Prop
 | []=>True
 |x::l=>NI x∧NIL l
end
theorem aaQ: ∀l:List aA,NIL l↔ ∀x∈l,NI x
 | []=>by rw [NIL];simp
 |x::l=>by rw [NIL,aaQ l,List.forall_mem_cons]
theorem C5:abG NI RN:=fun k n xs=>by rw [NI,aaQ]
theorem sF{t:aA}(h:NI t):NI (.mk t.asJ t.asD t.asG):=by cases t;exact h
theorem C4{s:ByteArray}:NI (.mk 2 s []):=(C5 _ _ _).2 ⟨fun _ _=>rfl,by simp⟩
theorem JQ{s:ByteArray}{xs:List aA}(h:G2 s=false)(hx: ∀x∈xs,NI x):NI (.mk 2 s xs):=(C5 _ _ _).2 ⟨fun _ e=>(by rw [h] at e;cases e),hx⟩
theorem NO{k:Int}{s:ByteArray}{xs:List aA}(h:k≠2)(hx: ∀x∈xs,NI x):NI (.mk k s xs):=(C5 _ _ _).2 ⟨fun e=>absurd e h,hx⟩
theorem YR{s:ByteArray}:NI (.mk 1 s []):=NO (by decide) (by simp)
theorem FZ{P:aA→Prop}{x:aA}(h:P x): ∀y∈ [x],P y:=fun y hy=>by rw [List.mem_singleton.1 hy];exact h
theorem adQ{P:aA→Prop}{x y:aA}(h:P x)(k:P y): ∀z∈ [x,y],P z:=fun z hz=>by
 rcases List.mem_cons.1 hz with rfl|hz
 ·exact h
 ·rw [List.mem_singleton.1 hz];exact k
structure IOk (x:aJ):Prop where
 w: ∀b∈x.as0,NI b.asH
 n:x.as0.length≤4
 a:NI x.asW
def DOk(d:aI):Prop:=G2 d.asD=false∧ ∀c∈d.asI,∀f∈c.asR,NI f
def POk(p:aK):Prop:=(∀d∈p.asL,DOk d)∧ ∀x∈p.asS,IOk x
def WOk(w:aF):Prop:= ∀p∈w.asE,POk p
theorem adV(fu:Nat)(s:ByteArray):Pt (cO fu s) fun b=>b=true→G2 s=false:=by
 unfold cO
 refine Pt.any fun x2=>Pt.sw (fun _=>Pt.some no) fun _=>?_
 unfold sW
 refine Pt.bd (Q:=fun b=>b=false→G2 s=false) ?_ fun x5 h=>Pt.sw (fun _=>Pt.some no) fun e r _ _=>h e
 rw [RK]
 refine Pt.bd (Q:=fun b=>b=false→G2 s=false) (Pt.some fun h=>?_) fun x h=>Pt.some h
 have h1:s≠dK:=by
  rintro rfl
  cases h
 have h2:s≠c9:=by
  rintro rfl
  cases h
 unfold G2
 rw [decide_eq_false h1,decide_eq_false h2]
 rfl
theorem adU: ∀fu t,Pt (jG fu t) fun b=>b=true→NI t
 |0,t=>fun r e=>by rw [jG] at e;cases e
 |fu+1,t=>by
  rw [jG]
  unfold DI
  refine Pt.bd (adV fu _) fun x2 h2=>?_;refine Pt.so (E:=fun v=>v=true→RN t.asJ t.asD t.asG.length) ?_ fun v3 h3=>?_
  ·unfold OU
   refine Pt.so (E:=fun v=>v=true→t.asJ≠2) ?_ fun v4 h4=>?_
   ·unfold OV
    refine Pt.sw (fun h=>Pt.some fun h e=>?_) fun h=>Pt.some fun h e=>?_
    ·have:=of_decide_eq_true h;omega
    ·have:=of_decide_eq_true h;omega
   ·have hz: ∀x:Bool,Pt (sw x (some (.inr (decide ((((t.asG.length:Nat):Int):Int)=0)))) (some (.inr false)):Option (Bool⊕Bool)) (PS (fun b=>b=true→NI t) fun v=>v=true→RN t.asJ t.asD t.asG.length):=fun x=>
     Pt.sw (fun _=>Pt.some fun h _ _=>by have:=of_decide_eq_true h;omega) fun _=>Pt.some no
    refine Pt.sw (fun e4=>Pt.sw (fun _=>Pt.some fun _ e=>absurd e (h4 e4)) fun _=>Pt.some no) fun _=>Pt.sw (fun e=>Pt.sw (fun _=>Pt.some fun _ e2=>?_) fun _=>Pt.some no) fun _=>Pt.sw (fun _=>Pt.sw (fun e=>Pt.sw (fun _=>Pt.some fun _ _ k=>?_) fun _=>Pt.any hz) fun _=>Pt.any hz) fun _=>Pt.some no
    ·have:=of_decide_eq_true e;omega
    ·rw [h2 e] at k;cases k
  ·refine Pt.so (E:=fun v=>v=true→v3=true∧ ∀x∈t.asG,NI x) (Pt.loop (fun i v=>v=true→v3=true∧ ∀x∈t.asG.take i,NI x) (fun s h=>by rwa [List.take_length] at h) (fun i v hi h=>?_) _ 0 v3 rfl (Nat.zero_le _) fun h=>⟨h,by simp⟩) fun v h=>Pt.some fun e=>?_
   ·unfold OW
    refine Pt.sw (fun ev=>Pt.bd (adU fu _) fun x hx=>Pt.some fun ex=>⟨(h ev).1,fun y hy=>?_⟩) fun _=>Pt.some no
    rw [CM hi] at hy
    rcases List.mem_append.1 hy with h1|h1
    ·exact(h ev).2 y h1
    ·rw [List.mem_singleton.1 h1];exact hx ex
   ·obtain⟨h1,h2⟩:=h e
    have:=(C5 t.asJ t.asD t.asG).2 ⟨h3 h1,h2⟩
    cases t
    exact this
theorem agG(fu:Nat)(t:aA):Pt (fS fu t) fun b=>b=true→NI t:=by
 unfold fS
 exact Pt.any fun _=>Pt.sw (fun _=>Pt.any fun _=>Pt.sw (fun _=>Pt.bd (adU fu t) fun _ h=>Pt.some h) fun _=>Pt.some no) fun _=>Pt.some no
theorem YV(fu:Nat)(t:aA)(vs:LB):Pt (jN fu t vs) fun b=>b=true→NI t:=by
 unfold jN K6
 exact Pt.any fun _=>Pt.so (Pt.all (fun _=>True) fun _ _ _=>Pt.any fun _=>Pt.sw (fun _=>Pt.some no) fun _=>Pt.some trivial) fun _ _=>Pt.bd (agG fu t) fun _ h=>Pt.some h
theorem ahJ(fu:Nat)(l:List aA)(vs:LB):Pt (u4 fu l vs) fun b=>b=true→ ∀t∈l,NI t:=by
 unfold u4 OC
 exact Pt.so (Pt.all NI fun _ _ _=>Pt.bd (YV fu _ vs) fun _ h=>Pt.sw (fun _=>Pt.some no) fun e=>Pt.some (h (HT e))) fun _ h=>Pt.some fun _=>h
theorem ae3(fu:Nat)(l:List aE)(vs:LB):Pt (qQ fu l vs) fun b=>b=true→(∀x∈l,NI x.asH)∧l.length≤4:=by
 unfold qQ H8
 exact Pt.so (Pt.all (γ:=aE) (fun b=>NI b.asH) fun _ _ _=>Pt.any fun _=>Pt.sw (fun _=>Pt.some no) fun _=>Pt.bd (YV fu _ vs) fun _ h=>Pt.sw (fun _=>Pt.some no) fun e=>Pt.any fun _=>Pt.sw (fun _=>Pt.some no) fun _=>Pt.some (h (HT e))) fun _ h=>Pt.some fun e=>⟨h,by have:=of_decide_eq_true e;omega⟩
theorem agB(fu:Nat)(d:aI):Pt (gY fu d) fun b=>b=true→DOk d:=by
 unfold gY t8
 exact Pt.so (Pt.all (γ:=aC) (fun c=> ∀f∈c.asR,NI f) fun _ _ _=>Pt.sw (fun _=>Pt.some no) fun _=>Pt.bd (ahJ fu _ _) fun _ h=>Pt.sw (fun _=>Pt.some no) fun e=>Pt.gd (Pt.some (h (HT e)))) fun _ h=>Pt.bd (adV fu _) fun _ hn=>Pt.sw (fun e=>Pt.any fun _=>Pt.sw (fun _=>Pt.sw (fun _=>Pt.any fun _=>Pt.some fun _=>⟨hn e,h⟩) fun _=>Pt.some no) fun _=>Pt.some no) fun _=>Pt.some no
theorem agH(fu:Nat)(t:aA):Pt (lY fu t) fun b=>b=true→NI t:=by
 unfold lY
 refine Pt.sw (fun e=>Pt.sw (fun _=>Pt.some fun h=>?_) fun _=>Pt.some no) fun _=>Pt.some no
 have h1:=of_decide_eq_true e
 have h2:=of_decide_eq_true h
 cases t with
 |mk k n xs=>
  replace h2:((xs.length:Nat):Int)=0:=h2
  replace h1:k=0:=h1
  obtain rfl:xs= []:=List.eq_nil_of_length_eq_zero (by omega)
  exact NO (by omega) (by simp)
theorem agE(fu:Nat)(x:aJ):Pt (gZ fu x) fun b=>b=true→IOk x:=by
 unfold gZ
 refine Pt.any fun _=>Pt.sw (fun _=>Pt.some no) fun _=>Pt.any fun _=>Pt.sw (fun _=>Pt.some no) fun _=>Pt.any fun _=>Pt.sw (fun _=>Pt.some no) fun _=>Pt.any fun _=>Pt.sw (fun _=>Pt.some no) fun _=>Pt.sw (fun _=>Pt.some no) fun _=>Pt.bd (ae3 fu _ _) fun _ hw=>Pt.sw (fun _=>Pt.some no) fun ew=>?_
 obtain⟨h1,h2⟩:=hw (HT ew)
 unfold uC uB uD
 refine Pt.so (Pt.all (fun _=>True) fun _ _ _=>Pt.any fun _=>Pt.sw (fun _=>Pt.some no) fun _=>Pt.some trivial) fun _ _=>Pt.so (E:=fun _=>NI x.asW) ?_ fun _ ha=>?_
 ·exact Pt.sw (fun _=>Pt.bd (YV fu _ _) fun _ h=>Pt.sw (fun _=>Pt.some no) fun e=>Pt.some (h (HT e))) fun _=>Pt.bd (agH fu _) fun _ h=>Pt.sw (fun _=>Pt.some no) fun e=>Pt.some (h (HT e))
 ·exact Pt.so (Pt.all (fun _=>True) fun _ _ _=>Pt.lt fun _ _=>Pt.sw (fun _=>Pt.some no) fun _=>Pt.any fun _=>Pt.sw (fun _=>Pt.some no) fun _=>Pt.any fun _=>Pt.sw (fun _=>Pt.some no) fun _=>Pt.gd (Pt.some trivial)) fun _ _=>Pt.any fun _=>Pt.some fun _=>⟨h1,h2,ha⟩
theorem ae1(fu:Nat)(p:aK):Pt (tG fu p) fun b=>b=true→POk p:=by
 unfold tG IC IE IF IG
 refine Pt.so (Pt.all (fun _=>True) fun _ _ _=>Pt.any fun _=>Pt.sw (fun _=>Pt.some no) fun _=>Pt.some trivial) fun _ _=>Pt.so (Pt.all DOk fun _ _ _=>Pt.bd (agB fu _) fun _ h=>Pt.sw (fun _=>Pt.some no) fun e=>Pt.some (h (HT e))) fun _ hd=>Pt.so (Pt.all IOk fun _ _ _=>Pt.lt fun y hy=>Pt.bd (agE fu y) fun _ h=>Pt.sw (fun _=>Pt.some no) fun e=>Pt.some (hy ▸ h (HT e))) fun _ hi=>Pt.so (Pt.all (fun _=>True) fun _ _ _=>Pt.lt fun _ _=>Pt.any fun _=>Pt.sw (fun _=>Pt.some no) fun _=>Pt.some trivial) fun _ _=>Pt.some fun _=>⟨hd,hi⟩
theorem agF(fu:Nat)(p:aK):Pt (kE fu p) fun b=>b=true→POk p:=by
 unfold kE
 exact Pt.any fun⟨_,_,_,_⟩=>Pt.any fun _=>Pt.sw (fun _=>Pt.some no) fun _=>Pt.any fun _=>Pt.sw (fun _=>Pt.some no) fun _=>Pt.any fun _=>Pt.sw (fun _=>Pt.some no) fun _=>Pt.sw (fun _=>Pt.some no) fun _=>Pt.any fun _=>Pt.sw (fun _=>Pt.any fun _=>Pt.sw (fun _=>Pt.any fun _=>Pt.sw (fun _=>Pt.any fun _=>Pt.sw (fun _=>Pt.bd (ae1 fu p) fun _ h=>Pt.some h) fun _=>Pt.some no) fun _=>Pt.some no) fun _=>Pt.some no) fun _=>Pt.some no
theorem VS{n:ByteArray}{l:LB}{a:List aQ}{f:List aL}:POk (.mk n l a [] [] f):=⟨fun d hd=>by simp [aK.asL] at hd,fun d hd=>by simp [aK.asS] at hd⟩
theorem akP(fu:Nat)(x:aB):Pt (kF fu x) fun r=>POk r.1:=by
 unfold kF vS
 refine Pt.any fun _=>Pt.any fun⟨_,_⟩=>Pt.any fun _=>Pt.any fun _=>Pt.sw (fun _=>Pt.some VS) fun _=>Pt.sw (fun _=>Pt.some VS) fun _=>Pt.gd (Pt.sw (fun _=>Pt.some VS) fun _=>Pt.gd (Pt.sw (fun _=>Pt.some VS) fun _=>Pt.sw (fun _=>Pt.some VS) fun _=>Pt.so (E:=fun _=>True) ?_ fun⟨_,_,_,_,_,_⟩ _=>Pt.bd (agF fu _) fun _ h=>Pt.sw (fun _=>Pt.some VS) fun e=>Pt.some (h (HT e))))
 by_cases hn:3≤x.asF.length
 ·exact Pt.loop (fun _ _=>True) (fun _ _=>trivial) (fun i ⟨_,_,_,_,_,_⟩ _ _=>Pt.any fun⟨_,_⟩=>Pt.sw (fun _=>Pt.some VS) fun _=>Pt.some trivial) _ 3 _ rfl hn trivial
 ·rw [show x.asF.length-3=0 by omega]
  exact Pt.some trivial
theorem YU(fu:Nat)(s:ByteArray):Pt (jX fu s) fun r=>WOk r.1:=by
 unfold jX yR
 have h0:WOk (.mk []):=fun p hp=>by simp [aF.asE] at hp
 refine Pt.any fun l=>Pt.so (E:=fun v=> ∀p∈v,POk p) (Pt.loop (fun _ v=> ∀p∈v,POk p) (fun _ h=>h) (fun i v _ h=>?_) _ 0 _ rfl (Nat.zero_le _) (by simp)) fun v h=>Pt.some h
 refine Pt.any fun _=>Pt.sw (fun _=>Pt.some h) fun _=>Pt.bd (Q:=fun r=>POk r.1) ?_ fun⟨p,_⟩ hp=>Pt.sw (fun _=>Pt.some h0) fun _=>Pt.sw (fun _=>Pt.some h0) fun _=>Pt.gd (Pt.some fun q hq=>?_)
 ·unfold oQ
  exact Pt.any fun⟨_,_⟩=>Pt.sw (fun _=>Pt.some VS) fun _=>Pt.bd (akP fu _) fun⟨_,_⟩ h=>Pt.some h
 ·rcases List.mem_append.1 hq with h1|h1
  ·exact h q h1
  ·rw [List.mem_singleton.1 h1];exact hp
theorem HU(fu:Nat)(s:ByteArray)(l:List aA):Pt (eJ fu s l) fun t=>t= .mk 2 s l:=Pt.gd (Pt.some rfl)
theorem adT: ∀fu,(∀t,Pt (fQ fu t) fun r=>r=t)∧ ∀l,Pt (fB fu l) fun r=>r=l
 |0=>⟨fun t r e=>(by rw [fQ] at e;cases e),fun l r e=>(by rw [fB] at e;cases e)⟩
 |fu+1=>by
  obtain⟨h1,h2⟩:=adT fu
  refine⟨fun t=>?_,fun l=>?_⟩
  ·rw [fQ]
   exact Pt.bd (h2 _) fun x hx=>Pt.some (by subst hx;cases t;rfl)
  ·rw [fB]
   unfold tJ AQ
   refine Pt.so (E:=fun v=>v=l) (Pt.loop (fun i v=>v=l.take i) (fun s h=>by rwa [List.take_length] at h) (fun i v hi h=>Pt.bd (h1 _) fun x hx=>Pt.gd (Pt.some ?_)) _ 0 _ rfl (Nat.zero_le _) rfl) fun v h=>Pt.some h
   show v++ [x]=l.take (i+1)
   rw [CM hi,h,hx]
theorem ae2: ∀fu c vs d,Pt (jA fu c vs d) fun r=>NI r.1
 |0,c,vs,d=>fun r e=>by rw [jA] at e;cases e
 |fu+1,c,vs,d=>by
  have L0: ∀ {e:DS} {l:LB},Pt (lt (e.after l.length) fun d5=>lt (e.pick l) fun y=>bd (eJ fu y []) fun x=>some (aA.mk x.asJ x.asD x.asG,d5)) fun r=>NI r.1:=Pt.lt fun _ _=>Pt.lt fun _ _=>Pt.bd (HU fu _ _) fun x hx=>Pt.some (sF (hx ▸ C4))
  rw [jA]
  unfold MK
  have ih:=ae2 fu
  have L1: ∀ {e:DS} {k:Int},Pt (lt (e.after ([b0,b0,tD]:LB).length) fun d33=>lt (e.pick ([b0,b0,tD]:LB)) fun y35=>bd (jA fu d33 vs k) fun(x38,x39)=>bd (eJ fu y35 ([(aA.mk x38.asJ x38.asD x38.asG)]:List aA)) fun x41=>some ((aA.mk x41.asJ x41.asD x41.asG),x39)) fun r=>NI r.1:=fun {e k}=>Pt.lt fun _ _=>Pt.lt fun y hy=>Pt.bd (ih _ _ _) fun⟨x,_⟩ hx=>Pt.bd (HU fu _ _) fun z hz=>Pt.some (sF (hz ▸ JQ (hy ▸ by
   have:=e.pick_mem (l:= [b0,b0,tD]) (by decide)
   simp only [List.mem_cons,List.not_mem_nil,or_false] at this
   rcases this with h|h|h<;>rw [h]<;>rfl) (FZ (sF hx))))
  have L2: ∀ {e:DS} {k k2:Int},Pt (bd (jA fu e vs k) fun(x26,x27)=>bd (jA fu x27 vs k2) fun(x29,x30)=>bd (eJ fu pW ([(aA.mk x26.asJ x26.asD x26.asG),(aA.mk x29.asJ x29.asD x29.asG)]:List aA)) fun x32=>some ((aA.mk x32.asJ x32.asD x32.asG),x30)) fun r=>NI r.1:=Pt.bd (ih _ _ _) fun⟨x,_⟩ hx=>Pt.bd (ih _ _ _) fun⟨y,_⟩ hy=>Pt.bd (HU fu _ _) fun z hz=>Pt.some (sF (hz ▸ JQ rfl (adQ (sF hx) (sF hy))))
  exact Pt.lt fun _ _=>Pt.sw (fun _=>Pt.sw (fun _=>Pt.lt fun _ _=>Pt.gd (Pt.some YR)) fun _=>Pt.sw (fun _=>L0) fun _=>Pt.sw (fun _=>L0) fun _=>Pt.sw (fun _=>L2) fun _=>L1) fun _=>Pt.sw (fun _=>L0) fun _=>Pt.sw (fun _=>L0) fun _=>Pt.sw (fun _=>L2) fun _=>L1
theorem adW(fu:Nat)(s:ByteArray){t:aA}(h:NI t):Pt (yZ fu s t) NI:=Pt.bd ((adT fu).1 _) fun x hx=>Pt.some (NO (by decide) (FZ (hx ▸ h)))
theorem YT(fu:Nat)(c:DS)(d:Int):Pt (mL fu c d) fun r=>NI r.1:=by
 unfold mL
 exact Pt.bd (ae2 fu _ _ _) fun⟨x,_⟩ hx=>Pt.lt fun _ _=>Pt.sw (fun _=>Pt.lt fun _ _=>Pt.lt fun _ _=>Pt.bd (adW fu _ (sF hx)) fun _ h=>Pt.some (sF h)) fun _=>Pt.sw (fun _=>Pt.bd (adW fu _ (sF hx)) fun _ h=>Pt.bd (HU fu _ _) fun _ hz=>Pt.some (sF (hz ▸ JQ rfl (FZ (sF h))))) fun _=>Pt.sw (fun _=>Pt.some (NO (by decide) (by simp))) fun _=>Pt.some (sF hx)
theorem aeZ(fu:Nat)(c:DS):Pt (vW fu c) fun r=>DOk r.1:=by
 unfold vW
 refine Pt.bd (Q:=NI) (Pt.some YR) fun x hx=>Pt.bd (HU fu _ _) fun y hy=>?_
 replace hy:NI y:=hy ▸ JQ rfl (FZ hx)
 have h2: ∀ {n m:ByteArray} {l:List aA},(∀f∈l,NI f)→ ∀c∈([.mk n l,.mk m [x,y]]:List aC),∀f∈c.asR,NI f:=fun {n m l} hl c hc f hf=>by
  rcases List.mem_cons.1 hc with rfl|hc
  ·exact hl f hf
  ·rw [List.mem_singleton.1 hc] at hf
   exact adQ hx hy f hf
 exact Pt.lt fun _ _=>Pt.sw (fun _=>Pt.lt fun _ _=>Pt.lt fun _ _=>Pt.gd (Pt.some ⟨rfl,h2 (by simp)⟩)) fun _=>Pt.sw (fun _=>Pt.lt fun _ _=>Pt.gd (Pt.some ⟨rfl,fun c hc=>h2 (by simp) c (List.mem_of_mem_take (List.mem_of_mem_drop hc))⟩)) fun _=>Pt.sw (fun _=>Pt.bd (YT fu _ _) fun⟨_,_⟩ hf=>Pt.some ⟨rfl,h2 (FZ hf)⟩) fun _=>Pt.sw (fun _=>Pt.lt fun _ _=>Pt.lt fun _ _=>Pt.some ⟨rfl,h2 (by simp)⟩) fun _=>Pt.some ⟨rfl,h2 (by simp)⟩
theorem ae0(fu:Nat)(c:DS):Pt (vX fu c) fun r=>IOk r.1:=by
 unfold vX
 refine Pt.lt fun _ _=>Pt.lt fun _ _=>Pt.lt fun _ _=>Pt.any fun _=>Pt.so (E:=fun v=>(∀b∈v.2.2.2.2.1,NI b.asH)∧v.2.2.2.2.1.length≤1) ?_ fun⟨v9,v10,v11,v12,v13,v14⟩ ⟨h1,h2⟩=>Pt.so (E:=fun v=>NI (.mk v.2.2.1 v.2.2.2.1 v.1)) ?_ fun⟨v38,v35,v36,v37,v34⟩ h3=>?_
 ·unfold K4
  have hb: ∀ {n s:ByteArray},(∀b∈([.mk n (.mk 1 s [])]:List aE),NI b.asH)∧([.mk n (.mk 1 s [])]:List aE).length≤1:=fun {n s}=>⟨fun b hb=>by rw [List.mem_singleton.1 hb];exact YR,Nat.le_refl _⟩
  have h0:(∀b∈([]:List aE),NI b.asH)∧([]:List aE).length≤1:=⟨by simp,by simp⟩
  exact Pt.lt fun _ _=>Pt.sw (fun _=>Pt.any fun _=>Pt.some h0) fun _=>Pt.sw (fun _=>Pt.bd (Q:=fun t=>t= .mk 1 eQ []) (Pt.some rfl) fun _ e=>Pt.any fun _=>Pt.some (e ▸ hb)) fun _=>Pt.sw (fun _=>Pt.any fun _=>Pt.any fun _=>Pt.any fun _=>Pt.some h0) fun _=>Pt.bd (Q:=fun t=>t= .mk 1 eQ []) (Pt.some rfl) fun _ e=>Pt.some (e ▸ hb)
 ·unfold K5
  exact Pt.lt fun _ _=>Pt.sw (fun _=>Pt.bd (ae2 fu _ _ _) fun⟨_,_⟩ h=>Pt.some (sF h)) fun _=>Pt.some (NO (show(0:Int)≠2 by decide) (by simp))
 ·have hI: ∀ {a:ByteArray} {v:LB} {t:aA} {b b2:Bool} {m:List aM},IOk (.mk a v t v13 b b2 (.mk v36 v37 v38) m):=⟨h1,Nat.le_trans h2 (by decide),h3⟩
  refine Pt.lt fun _ _=>Pt.lt fun _ _=>Pt.sw (fun _=>Pt.any fun⟨_,_⟩=>Pt.some hI) fun _=>Pt.sw (fun _=>Pt.lt fun _ _=>Pt.lt fun _ _=>Pt.gd (Pt.some hI)) fun _=>Pt.sw (fun _=>Pt.bd (YT fu _ _) fun⟨x,_⟩ hx=>Pt.gd (Pt.some ⟨fun b hb=>?_,?_,h3⟩)) fun _=>Pt.sw (fun _=>Pt.any fun⟨_,_⟩=>Pt.some hI) fun _=>Pt.sw (fun _=>Pt.bd (Q:=NI) (Pt.bd (HU fu _ _) fun _ e=>Pt.some (e ▸ C4)) fun _ h=>Pt.some ⟨h1,Nat.le_trans h2 (by decide),h⟩) fun _=>Pt.sw (fun _=>Pt.some hI) fun _=>Pt.some hI
  ·rcases List.mem_append.1 hb with h|h
   ·exact h1 b h
   ·rw [List.mem_singleton.1 h];exact hx
  ·show(v13++_).length≤4
   replace h2:v13.length≤1:=h2
   rw [List.length_append,List.length_singleton]
   omega
theorem UG{α:Type}{P:α→Prop}{l:List α}{x:α}(h: ∀a∈l,P a)(hx:P x): ∀a∈l++ [x],P a:=fun a ha=>by
 rcases List.mem_append.1 ha with h1|h1
 ·exact h a h1
 ·rw [List.mem_singleton.1 h1];exact hx
def PkS(v:List aQ×List aI×List aJ×List aL×DS):Prop:=(∀d∈v.2.1,DOk d)∧ ∀x∈v.2.2.1,IOk x
theorem agC(fu:Nat)(c:DS):Pt (yX fu c) fun r=>POk r.1:=by
 unfold yX OG
 refine Pt.lt fun _ _=>Pt.so (E:=PkS) (Pt.loop (fun _=>PkS) (fun _ h=>h) (fun i ⟨v9,v10,v11,v12,v4⟩ _ ⟨h1,h2⟩=>?_) _ 0 _ rfl (Nat.zero_le _) ⟨by simp,by simp⟩) fun⟨v9,v10,v11,v12,v4⟩ ⟨h1,h2⟩=>?_
 ·exact Pt.lt fun _ _=>Pt.sw (fun _=>Pt.any fun⟨_,_⟩=>Pt.gd (Pt.some ⟨h1,h2⟩)) fun _=>Pt.sw (fun _=>Pt.bd (aeZ fu _) fun⟨_,_⟩ h=>Pt.gd (Pt.some ⟨UG h1 h,h2⟩)) fun _=>Pt.sw (fun _=>Pt.bd (ae0 fu _) fun⟨_,_⟩ h=>Pt.gd (Pt.some ⟨h1,UG h2 h⟩)) fun _=>Pt.any fun⟨_,_⟩=>Pt.gd (Pt.some ⟨h1,h2⟩)
 ·exact Pt.lt fun _ _=>Pt.sw (fun _=>Pt.lt fun _ _=>Pt.lt fun _ _=>Pt.some ⟨h1,h2⟩) fun _=>Pt.sw (fun _=>Pt.lt fun _ _=>Pt.lt fun _ _=>Pt.gd (Pt.some ⟨h1,h2⟩)) fun _=>Pt.some ⟨h1,h2⟩
theorem ae4(fu:Nat)(c:DS):Pt (tH fu c) fun r=>WOk r.1:=by
 unfold tH AF
 exact Pt.bd (Q:=fun r=>WOk r.1) (Pt.any fun⟨_,_⟩=>Pt.bd (YU fu _) fun⟨_,_⟩ h=>Pt.some h) fun⟨_,_⟩ h=>Pt.lt fun _ _=>Pt.sw (fun _=>Pt.bd (agC fu _) fun⟨_,_⟩ hp=>Pt.gd (Pt.some (UG h hp))) fun _=>Pt.some h
theorem agD(fu:Nat)(c:DS):Pt (vZ fu c) fun r=>NI r.1.asH:=by
 unfold vZ
 exact Pt.bd (ae2 fu _ _ _) fun⟨_,_⟩ h=>Pt.lt fun _ _=>Pt.sw (fun _=>Pt.bd (YT fu _ _) fun⟨_,_⟩ h=>Pt.lt fun _ _=>Pt.lt fun _ _=>Pt.some h) fun _=>Pt.sw (fun _=>Pt.bd (HU fu _ _) fun _ e=>Pt.lt fun _ _=>Pt.lt fun _ _=>Pt.some (e ▸ C4)) fun _=>Pt.sw (fun _=>Pt.lt fun _ _=>Pt.lt fun _ _=>Pt.bd (HU fu _ _) fun _ e=>Pt.bd (HU fu _ _) fun _ k=>Pt.lt fun _ _=>Pt.lt fun _ _=>Pt.some (k ▸ JQ rfl (FZ (e ▸ C4)))) fun _=>Pt.lt fun _ _=>Pt.lt fun _ _=>Pt.some h
theorem aeH{w:aF}(h:WOk w):WQ NI w:=WQ.of (fun p hp x hx=>⟨((h p hp).2 x hx).w,((h p hp).2 x hx).a⟩) fun p hp d hd=>((h p hp).1 d hd).2
end Go.Proofs.YtfcoaagbccmahaaGreat.W

namespace Go.Proofs.YtfcoaagbccmahaaGreat.W
open Go.RowKit Go.WalkArith Go.Proofs
theorem MZ{α:Type}{f g:α→Int}: ∀ {l:List α},(∀x∈l,f x=g x)→gG f l=gG g l
 | [],_=>rfl
 |x::l,h=>by rw [gG,gG,h x (by simp),MZ fun y hy=>h y (List.mem_cons_of_mem _ hy)]
theorem aeQ{t:aA}(h:NI t):nW true t=nW false t:=by
 cases t with
 |mk k n xs=>
  have hr:=((C5 k n xs).1 h).1
  unfold nW
  show(decide (k=2)&&(G2 n&&(true||decide (xs.length=0))))=(decide (k=2)&&(G2 n&&(false||decide (xs.length=0))))
  by_cases hk:k=2
  ·cases hn:G2 n
   ·rw [Bool.false_and,Bool.false_and]
   ·rw [decide_eq_true (hr hk hn)];rfl
  ·rw [decide_eq_false hk];rfl
section
variable {w:aF} (hW:WQ NI w) (l:List aH)
include hW
theorem aaK(tr:ByteArray): ∀k op t,NI t→lJ true w l tr k op t=lJ false w l tr k op t
 |0,_,_,_=>rfl
 |k+1,op,t,h=>by
  rw [lJ,lJ,aeQ h]
  cases hc:mR w t with
  |false=>rfl
  |true=>rw [MZ fun c hm=>MZ fun f hf=>aaK tr k (op++ [t]) _ (aaE C5 hW h hc hm hf)]
end
def O9(w:aF)(t:aA):Prop:= ∃V:LB,V.length≤13000000∧Gd (SU w++V) t
theorem O9.of{w:aF}{t:aA}(h:wt t≤1000000):O9 w t:=⟨zU t,by
 have:=SW t
 omega,(Gd.own t (by rw [G4];omega)).mono (fun n h=>List.mem_append_right _ h) t⟩
theorem SI{w:aF}(hw:wt w≤13000000){V:LB}(h:V.length≤13000000):(SU w++V).length≤68719476736:=by
 have:=adN w
 rw [List.length_append]
 omega
theorem O9.ty{w:aF}(hw:wt w≤13000000){t:aA}(h:O9 w t):n3 t:=let⟨_,h1,h2⟩:=h;⟨_,SI hw h1,h2⟩
end Go.Proofs.YtfcoaagbccmahaaGreat.W

namespace Go.Proofs.YtfcoaagbccmahaaGreat.W
open Go.RowKit Go.WalkArith Go.Proofs
def DV(w:aF)(l:List aE)(g:aE):Int:=lJ false w (GZ w l) g.asN 32 [] g.asH
def U4(w:aF)(l:List aE)(g:aE):Int:=lJ true w (GZ w l) g.asN 32 [] g.asH
theorem VC(w:aF)(l:List aE)(g:aE)(h:QU w l)(hg:O9 w g.asH):bP Tryz.prog 11 [(aF.pv w),b4 l,(aE.pv g)] (pI (DV w l g)):=by
 obtain⟨V,h1,h2⟩:=hg
 obtain⟨fu,hf⟩:=(adH (SI h.hw h1) h.hw (O6 h.hw) (GZ w l) g.asN 31 [] g.asH rfl h2).get
 refine PO fu w l g (DV w l g) ?_
 unfold HL
 exact rR h (wD hf rfl)
theorem HX(w:aF)(l:List aE)(g:aE)(h:QU w l)(hg:O9 w g.asH):bP Tryz.prog 12 [(aF.pv w),b4 l,(aE.pv g)] (pI (U4 w l g)):=by
 obtain⟨V,h1,h2⟩:=hg
 obtain⟨fu,hf,h3⟩:=((ad0 (SI h.hw h1) h.hw (O6 h.hw) (GZ w l) g.asN 31 [] g.asH rfl h2 (by simp)).and (bL.ge 27000000)).get
 refine P6 fu w l g (U4 w l g) ?_
 unfold H3
 have hg:aE.mk g.asN g.asH=g:=by cases g;rfl
 rw [hg] at hf
 exact wD ((aaS h.hw h3 h.hl h.ht).trans (congrArg some (QV h.hw h3 l))) (wD hf rfl)
theorem M0{α:Type}{f:α→Int}: ∀ {l:List α},gG f l=0→ ∀x∈l,f x=0
 | [],_=>by simp
 |y::l,h=>fun x hx=>by
  rw [gG] at h
  by_cases h1:f y=0
  ·rw [if_pos h1] at h
   rcases List.mem_cons.1 hx with rfl|hx
   ·exact h1
   ·exact M0 h x hx
  ·rw [if_neg h1] at h
   exact absurd h h1
theorem SB{α:Type}{f:α→Int}: ∀ {l:List α},(∀x∈l,f x≠1)→gG f l≠1
 | [],_=>by rw [gG];decide
 |y::l,h=>by
  rw [gG]
  split
  ·exact SB fun x hx=>h x (List.mem_cons_of_mem _ hx)
  ·exact h y (by simp)
section
variable(b:Bool) (w:aF) (l:List aH) (tr:ByteArray)
def ajU(u:aA):Prop:=nW b u=true∨DU l (.mk tr u)≥0
def aeL(op:List aA)(V:aA→Prop):Prop:= ∀u,V u→ajU b l tr u∨(mR w u=true∧(u∈op∨ ∀c∈(uJ w u.asD).1.asI,∀f∈c.asR,V (CL w u f)))
theorem U5: ∀k op t,lJ b w l tr k op t=0→ ∃V,V t∧aeL b w l tr op V
 |0,op,t,h=>by rw [lJ] at h;cases h
 |k+1,op,t,h=>by
  rw [lJ] at h
  cases h1:nW b t with
  |true=>exact⟨fun u=>u=t,rfl,fun u hu=>by rw [hu];exact .inl (.inl h1)⟩
  |false=>
   rw [h1,cond_false] at h
   cases h2:decide (DU l (.mk tr t)≥0) with
   |true=>exact⟨fun u=>u=t,rfl,fun u hu=>by rw [hu];exact .inl (.inr (of_decide_eq_true h2))⟩
   |false=>
    rw [h2,cond_false] at h
    cases h3:mR w t with
    |false=>rw [h3] at h;cases h
    |true=>
     rw [h3,Bool.not_true,cond_false] at h
     cases h4:op.any fun u=>aA.eq u t with
     |true=>
      obtain⟨u,hu,he⟩:=List.any_eq_true.1 h4
      rw [aA.eq_iff] at he
      exact⟨fun u=>u=t,rfl,fun v hv=>by rw [hv];exact .inr ⟨h3,.inl (he ▸ hu)⟩⟩
     |false=>
      rw [h4,cond_false] at h
      cases h5:decide (30<op.length)||decide (szT t>400) with
      |true=>rw [h5] at h;cases h
      |false=>
       rw [h5,cond_false] at h
       refine⟨fun u=>u=t∨ ∃V,aeL b w l tr (op++ [t]) V∧V u,.inl rfl,?_⟩
       have ht: ∀c∈(uJ w t.asD).1.asI,∀f∈c.asR,CL w t f=t∨ ∃V,aeL b w l tr (op++ [t]) V∧V (CL w t f):=fun c hc f hf=>by
        obtain⟨V,hV,hs⟩:=U5 k (op++ [t]) (CL w t f) (M0 (M0 h c hc) f hf)
        exact .inr ⟨V,hs,hV⟩
       rintro u (rfl|⟨V,hs,hu⟩)
       ·exact .inr ⟨h3,.inr ht⟩
       ·rcases hs u hu with h6|⟨h6,h7|h7⟩
        ·exact .inl h6
        ·rcases List.mem_append.1 h7 with h8|h8
         ·exact .inr ⟨h6,.inl h8⟩
         ·obtain rfl:=List.mem_singleton.1 h8
          exact .inr ⟨h3,.inr ht⟩
        ·exact .inr ⟨h6,.inr fun c hc f hf=> .inr ⟨V,hs,h7 c hc f hf⟩⟩
theorem aaJ{V:aA→Prop}(hs:aeL b w l tr [] V): ∀k op t,V t→lJ b w l tr k op t≠1
 |0,op,t,h=>by rw [lJ];decide
 |k+1,op,t,h=>by
  rw [lJ]
  cases h1:nW b t with
  |true=>exact show(0:Int)≠1 by decide
  |false=>
   rw [cond_false]
   cases h2:decide (DU l (.mk tr t)≥0) with
   |true=>exact show(0:Int)≠1 by decide
   |false=>
    rcases hs t h with(h3|h3)|⟨h3,h4|h4⟩
    ·rw [h1] at h3;cases h3
    ·exact absurd h3 (of_decide_eq_false h2)
    ·simp at h4
    ·rw [cond_false,h3,Bool.not_true,cond_false]
     cases op.any fun u=>aA.eq u t with
     |true=>exact show(0:Int)≠1 by decide
     |false=>
      rw [cond_false]
      cases decide (30<op.length)||decide (szT t>400) with
      |true=>exact show(3:Int)≠1 by decide
      |false=>
       rw [cond_false]
       exact SB fun c hc=>SB fun f hf=>aaJ hs k _ _ (h4 c hc f hf)
end
theorem abO{w:aF}(hw:WOk w){n:ByteArray}(h:(uJ w n).2.2=true):G2 n=false:=by
 unfold uJ at h
 cases hq:(List.range' 0 w.asE.length).findSome? (dQ w n) with
 |none=>rw [hq] at h;cases h
 |some r=>
  obtain⟨i,hi,hq⟩:=List.exists_of_findSome?_eq_some hq
  unfold dQ at hq
  obtain⟨k,hk,hq⟩:=List.exists_of_findSome?_eq_some hq
  rw [List.mem_range'_1] at hi hk
  split at hq
  ·rename_i hn
   rw [← hn]
   exact((hw _ (dO (by omega:i<w.asE.length))).1 _ (dO (by omega:k<(aP w.asE i).asL.length))).1
  ·cases hq
theorem abL{w:aF}(hw:WOk w){l:List aE}{g:aE}(h0:DV w l g=0)(ha: ¬DU (GZ w l) g≥0)(hd:(uJ w g.asH.asD).2.2=true){c:aC}(hc:c∈(uJ w g.asH.asD).1.asI){f:aA}(hf:f∈c.asR):DV w l (.mk g.asN (CL w g.asH f))≠1:=by
 obtain⟨V,hV,hs⟩:=U5 false w (GZ w l) g.asN 32 [] g.asH h0
 rcases hs _ hV with(h1|h1)|⟨_,h1|h1⟩
 ·unfold nW at h1
  rw [abO hw hd,Bool.false_and,Bool.and_false] at h1
  cases h1
 ·have hg:aE.mk g.asN g.asH=g:=by cases g;rfl
  rw [hg] at h1
  exact absurd h1 ha
 ·simp at h1
 ·exact aaJ false w (GZ w l) g.asN hs 32 [] _ (h1 c hc f hf)
end Go.Proofs.YtfcoaagbccmahaaGreat.W

namespace Go.Proofs.YtfcoaagbccmahaaGreat.W
set_option maxRecDepth 100000
set_option maxHeartbeats 40000000
noncomputable section
open Tryz Go.RowKit Go.Proofs
attribute [local irreducible] lt
def AJ(fu:Nat)(p0:List UInt8):Option (aF×(List aE)×aE):=gd ((p0).length≤1048576) (bd (tH fu (DS.start p0)) fun(x3,x4)=>bd (CH fu x4) fun(x6,x7)=>bd (vZ fu x7) fun(x9,x10)=>some (x3,x6,x9))
theorem W0(fu:Nat)(p0:List UInt8)(r:aF×(List aE)×aE)(H:AJ fu p0=some r):bP Tryz.prog 44 [rU p0] (.tup [(aF.pv r.1),b4 r.2.1,(aE.pv r.2.2)]):=by
 refine qJ func44 H (fun C hC H=>?_)
 refine gQ 9 ?_;refine cQ H fun z1 H=>(q1 (a5.callNew (ps:= [_]) rfl rfl func43 (by kernel_rfl) rfl rfl jH rfl rfl (adP p0 z1)) ?_)
 refine gQ 5 ?_;refine eY H fun x3 x4 z2 H=>(q1 (eW [2] [] func69 (TV fu (DS.start p0) _ z2)) (q1 bG (eY H fun x6 x7 z5 H=>(q1 (eW [2] [] func87 (TY fu x4 _ z5)) (q1 bG (eY H fun x9 x10 z8 H=>(q1 (eW [2] [] func74 (W2 fu x7 _ z8)) ?_)))))))
 refine gQ 4 ?_;refine cF.ret ?_
 cases xQ H
 exact qe3 (hr:=⟨⟨_,_,_,rfl,rfl,VY.h,rfl,rfl⟩,rfl,⟨_,_,_,rfl,rfl,ae9.h,rfl,rfl⟩,trivial⟩)
def nM(fu:Nat)(p0:List UInt8):Option (aF×(List aE)×aE):=gd ((p0).length≤1048576) (bd (AJ fu p0) fun(x3,x4,x5)=>lt ((DS.start p0).after 6) fun d6=>sw (decide ((DS.start p0).below 6=0)) (bd (jX fu BH) fun(x10,x11)=>lt (d6.after ([sK,yU,nZ]:LB).length) fun d12=>lt (d6.pick ([sK,yU,nZ]:LB)) fun y14=>bd (eJ fu y14 ([])) fun x17=>sw (decide (x17.asD=nZ)) (bd (wB fu) fun x20=>some (x10,x4,(aE.mk fG (aA.mk x17.asJ x17.asD ([x20]:List aA))))) (some (x10,x4,(aE.mk fG x17)))) (some (x3,x4,(aE.mk fG x5.asH))))
theorem HY(fu:Nat)(p0:List UInt8)(r:aF×(List aE)×aE)(H:nM fu p0=some r):bP Tryz.prog 10 [rU p0] (.tup [(aF.pv r.1),b4 r.2.1,(aE.pv r.2.2)]):=by
 refine qJ func10 H (fun C hC H=>?_)
 refine gQ 9 ?_;refine cQ H fun z1 H=>(q1 (a5.callNew (ps:= [_]) rfl rfl func43 (by kernel_rfl) rfl rfl jH rfl rfl (adP p0 z1)) ?_)
 refine gQ 5 ?_;refine PG H fun x3 x4 x5 z2 H=>(q1 (bC func44 (W0 fu p0 _ z2)) ?_)
 refine gQ 19 ?_;refine fI H fun d6 h7 H=>(q1 (eW [2] [] func45 (AU h7 (k9 (DS.start p0) 6))) (qN ?_))
 refine a7 H (fun h8 H=>?_) (fun h8 H=>?_)
 ·refine gQ 2 ?_;refine eY H fun x10 x11 z9 H=>(q1 (bC func46 (J2 (yS fu) BH _ z9)) ?_)
  refine gQ 8 ?_;refine q1 (gC ([sK,yU,nZ]:LB)) (fI H fun d12 h13 H=>(fI H fun y14 h15 H=>(q1 (eW [2] [] func48 (DY h13 h15 (eA d6 ([sK,yU,nZ]:LB) (by decide)))) (bD H fun x17 z16 H=>(q1 (bC func47 (nS (fP fu) y14 ([]) _ z16)) ?_)))))
  refine gQ 10 ?_;refine a7 H (fun h18 H=>?_) (fun h18 H=>?_)
  ·refine qR (bD H fun x20 z19 H=>(q1 (bC func49 (qX fu _ z19)) (q1 (gC ([x20]:List aA)) ?_)))
   refine gQ 5 ?_;refine dW (dD [6] (cK [aU x10.asE]) (dI [7] bG (dB [8] 0 1 (GP [pS fG,pI x17.asJ,pS x17.asD,aX ([x20]:List aA)]) (kS [2,37] jP (dI [38] bG (kS [4,39] jP (dN (cF.ret ?_))))))))
   cases xQ H
   exact qe3 (hr:=⟨⟨_,_,_,rfl,rfl,VY.h,rfl,rfl⟩,rfl,⟨_,_,_,rfl,rfl,ae9.h,rfl,rfl⟩,trivial⟩)
  refine gQ 2 ?_;refine dW (dD [6] (cK [aU x10.asE]) (dI [7] bG (dB [8] 0 1 (GP [pS fG,pI x17.asJ,pS x17.asD,aX x17.asG]) (kS [2,37] jP (dI [38] bG (kS [4,39] jP (dN (cF.ret ?_))))))))
  cases xQ H
  exact qe3 (hr:=⟨⟨_,_,_,rfl,rfl,VY.h,rfl,rfl⟩,rfl,⟨_,_,_,rfl,rfl,ae9.h,rfl,rfl⟩,trivial⟩)
 refine gQ 2 ?_;refine dW (dD [6] (cK [aU x3.asE]) (dI [7] bG (dB [8] 0 1 (GP [pS fG,pI x5.asH.asJ,pS x5.asH.asD,aX x5.asH.asG]) (kS [2,37] jP (dI [38] bG (kS [4,39] jP (dN (cF.ret ?_))))))))
 cases xQ H
 exact qe3 (hr:=⟨⟨_,_,_,rfl,rfl,VY.h,rfl,rfl⟩,rfl,⟨_,_,_,rfl,rfl,ae9.h,rfl,rfl⟩,trivial⟩)
def K7(fu:Nat)(pd:aI):Nat→((List aC))→Option (LR ((List aC)) aI):=fun i1 v3=>gd ((((aP pd.asI i1).asR)).length≤68719476735∧ ∀x∈((aP pd.asI i1).asR),n3 x) (gd ((v3).length+(([(aP pd.asI i1)]:List aC)).length≤68719476736) (some (.next (v3++([(aP pd.asI i1)]:List aC)))))
def AG(fu:Nat)(pd:aI):Option aI:=so (loopN (K7 fu pd) (pd.asI.length-0) 0 ([])) fun v3=>gd (([]:LB).length+(pd.asP).length≤68719476736) (some (aI.mk pd.asD (([])++pd.asP) v3))
theorem WZ(fu:Nat)(pd:aI)(r:aI)(H:AG fu pd=some r):bP Tryz.prog 54 [(aI.pv pd)] ((aI.pv r)):=by
 refine qJ func54 H (fun C hC H=>?_)
 refine gQ 2 ?_;refine q1 (iR (dG pd)) ?_;refine gQ 4 ?_;refine q1 (n0 ([]:List aC)) ?_;refine gQ 7 ?_;refine cF.fact (b6 0 2 rfl rfl rfl (aC.trs_len _)) (fun hl4=>?_)
 try dsimp only at hl4
 refine bM (σ:=(List aC)) (fun i1 v3=>⟨[(1,.ptr 0 0),(2,.ptr 1 0),(3,lM v3 0),(4,pN i1)],⟨[some ⟨39,dG pd⟩,some ⟨39,[pS s_,.nil,.nil]⟩],[⟨46,2,aC.trs (v3),false⟩]⟩⟩) (fun v3=>⟨[(1,.ptr 0 0),(2,.ptr 1 0),(3,lM v3 0)],⟨[some ⟨39,dG pd⟩,some ⟨39,[pS s_,.nil,.nil]⟩],[⟨46,2,aC.trs (v3),false⟩]⟩⟩) (eR H) ?_ ?_
 ·rintro i1 v3 H
  refine gQ 9 ?_;refine cW H (fun h5 h5l H=>?_) (fun h5 H=>?_)
  ·refine gQ 3 ?_;refine cQ H fun z6 H=>(cQ H fun z7 H=>(dW (dI [3] bG (dI [1] bS (dD [14] eE (dI [4] bG (dI [15,16] qY (dI [17] y2 (dI [18] xR (dI [1] bS (dD [20] eE (dI [4] bG (dI [21,22] qY ?_)))))))))))))
   refine dI [23] y2 (dI [24] xR (dI [25] (bC func111 (T6 ((aP pd.asI i1).asR) z6)) (dI [19,26] nU (dI [27] (gC ([(aP pd.asI i1)]:List aC)) (dE [13,28] (jS z7) (dI [29] bG (dN ?_)))))))
   exact gE 5
  exact gE 0
 rintro v3 H
 refine gQ 8 ?_;refine q1 (n0 ([]:LB)) ?_;refine gQ 2 ?_;refine cQ H fun z8 H=>(q1 (jS z8) ?_)
 refine gQ 5 ?_;refine q1 (cK [pS pd.asD,aS (([])++pd.asP) 1,lM v3 0]) ?_;exact gE 2
def oO(fu:Nat)(pw:aF)(p1:ByteArray):Option (aI×Int×Bool):=bd (rN fu pw p1) fun(x2,x3,x4)=>bd (AG fu x2) fun x6=>some (x6,x3,x4)
theorem JW(fu:Nat)(pw:aF)(p1:ByteArray)(r:aI×Int×Bool)(H:oO fu pw p1=some r):bP Tryz.prog 13 [(aF.pv pw),pS p1] (.tup [(aI.pv r.1),pI r.2.1,pB r.2.2]):=by
 refine qJ func13 H (fun C hC H=>?_)
 refine gQ 2 ?_;refine q1 (iR ([aU pw.asE])) ?_;refine gQ 6 ?_;refine q1 (cK [aU pw.asE]) (q1 bG (PG H fun x2 x3 x4 z1 H=>(q1 (bC func53 (ES fu pw p1 _ z1)) ?_)))
 refine gQ 11 ?_;refine q1 (cK [pS x2.asD,rS x2.asP,cB x2.asI]) (bD H fun x6 z5 H=>(q1 (bC func54 (WZ fu x2 _ z5)) ?_))
 exact gE 6
def NH(fu:Nat)(p2:List UInt8)(x2:Bool)(x5:aF)(x6:List aE)(x7:aE)(x14:aI)(x15:Int)(x16:Bool):Nat→((List aN))→Option (LR ((List aN)) Bool):=fun i19 v21=>gd (i19<(x7.asH.asG).length) (gd ((v21).length+(([(aN.mk (aP x14.asP i19) (aP x7.asH.asG i19))]:List aN)).length≤68719476736) (some (.next (v21++([(aN.mk (aP x14.asP i19) (aP x7.asH.asG i19))]:List aN)))))
def NK(fu:Nat)(p2:List UInt8)(x2:Bool)(x5:aF)(x6:List aE)(x7:aE)(x14:aI)(x15:Int)(x16:Bool)(v21:List aN)(i26:Nat):Nat→Unit→Option (LR Unit (LR Unit Bool)):=fun i29 _=>bd (nC fu x5 x6) fun x33=>bd (iM fu x33 x7) fun x35=>sw (decide (x35<0)) (gd (DR v21) (gd (n3 (aP ((aP x14.asI i26).asR) i29)) (gd (O9 x5 (aE.asH (aE.mk x7.asN (jQ v21 (aP ((aP x14.asI i26).asR) i29))))) (sw (decide ((DV x5 x6 (aE.mk x7.asN (jQ v21 (aP ((aP x14.asI i26).asR) i29))):Int)=1)) (some (.ret (.ret false))) (some (.next ())))))) (some (.next ()))
def NJ(fu:Nat)(p2:List UInt8)(x2:Bool)(x5:aF)(x6:List aE)(x7:aE)(x14:aI)(x15:Int)(x16:Bool)(v21:List aN):Nat→Unit→Option (LR Unit Bool):=fun i26 _=>so (loopN (NK fu p2 x2 x5 x6 x7 x14 x15 x16 v21 i26) (((aP x14.asI i26).asR).length-0) 0 ()) fun _=>some (.next ())
def JO(fu:Nat)(p2:List UInt8):Option Bool:=bd (YK fu p2) fun x2=>sw x2 (some true) (bd (nM fu p2) fun(x5,x6,x7)=>gd (QU x5 x6) (gd (O9 x5 (aE.asH x7)) (sw (!decide ((DV x5 x6 x7:Int)=U4 x5 x6 x7)) (some (decide ((DV x5 x6 x7:Int)=U4 x5 x6 x7))) (sw (!decide ((DV x5 x6 x7:Int)=0)) (some (decide ((DV x5 x6 x7:Int)=U4 x5 x6 x7))) (sw (!decide (x7.asH.asJ=2)) (some (decide ((DV x5 x6 x7:Int)=U4 x5 x6 x7))) (bd (oO fu x5 x7.asH.asD) fun(x14,x15,x16)=>sw (!(x16)) (some true) (sw (!decide ((x14.asP.length:Int)=(x7.asH.asG.length:Int))) (some true) (so (loopN (NH fu p2 x2 x5 x6 x7 x14 x15 x16) (x14.asP.length-0) 0 ([])) fun v21=>so (loopN (NJ fu p2 x2 x5 x6 x7 x14 x15 x16 v21) (x14.asI.length-0) 0 ()) fun _=>some true))))))))
theorem YI(fu:Nat)(p2:List UInt8)(r:Bool)(H:JO fu p2=some r):bP Tryz.prog 3 [rU p2] (pB r):=by
 refine qJ func3 H (fun C hC H=>?_)
 refine gQ 8 ?_;refine bD H fun x2 z1 H=>(q1 (bC func9 (aeX fu p2 _ z1)) (qN ?_))
 refine a7 H (fun h3 H=>gE 4) fun h3 H=>?_;refine gQ 4 ?_;refine PG H fun x5 x6 x7 z4 H=>(q1 (bC func10 (HY fu p2 _ z4)) ?_)
 refine gQ 12 ?_;refine q1 (cK [aU x5.asE]) (q1 bG (q1 (cK [pS x7.asN,pI x7.asH.asJ,pS x7.asH.asD,aX x7.asH.asG]) (cQ H fun z8 H=>(cQ H fun z9 H=>(q1 (bC func11 (VC x5 x6 x7 z8 z9)) ?_)))))
 refine gQ 6 ?_;refine q1 (cK [aU x5.asE]) (q1 bG (q1 (cK [pS x7.asN,pI x7.asH.asJ,pS x7.asH.asD,aX x7.asH.asG]) (q1 (bC func12 (HX x5 x6 x7 z8 z9)) ?_)))
 refine gQ 2 ?_;refine AL.weak (s':=⟨[(2,pB false),(3,.ptr 0 0),(4,b4 x6),(5,.ptr 1 0),(6,pI (DV x5 x6 x7)),(32,pB (!decide ((DV x5 x6 x7:Int)=U4 x5 x6 x7)))],⟨[some ⟨26,[aU x5.asE]⟩,some ⟨32,eD x7⟩],[]⟩⟩) wkA ?_;refine dF 32 H (fun g10 H=>?_) fun g10 H=>?_
 ·refine gQ 14 ?_;refine q1 (cK [aU x5.asE]) (q1 bG (q1 (cK [pS x7.asN,pI x7.asH.asJ,pS x7.asH.asD,aX x7.asH.asG]) (q1 (bC func12 (HX x5 x6 x7 z8 z9)) ?_)))
  exact gE 3
 refine gQ 4 ?_;refine AL.weak (s':=⟨[(2,pB false),(3,.ptr 0 0),(4,b4 x6),(5,.ptr 1 0),(6,pI (DV x5 x6 x7)),(36,pB (!decide ((DV x5 x6 x7:Int)=0)))],⟨[some ⟨26,[aU x5.asE]⟩,some ⟨32,eD x7⟩],[]⟩⟩) wkA ?_;refine dF 36 H (fun g11 H=>?_) fun g11 H=>?_
 ·refine gQ 10 ?_;refine q1 (cK [aU x5.asE]) (q1 bG (q1 (cK [pS x7.asN,pI x7.asH.asJ,pS x7.asH.asD,aX x7.asH.asG]) (q1 (bC func12 (HX x5 x6 x7 z8 z9)) ?_)))
  exact gE 3
 refine gQ 6 ?_;refine a7 H (fun h12 H=>?_) (fun h12 H=>?_)
 ·refine gQ 3 ?_;refine q1 (cK [aU x5.asE]) (q1 bG (q1 (cK [pS x7.asN,pI x7.asH.asJ,pS x7.asH.asD,aX x7.asH.asG]) (q1 (bC func12 (HX x5 x6 x7 z8 z9)) ?_)))
  exact gE 3
 refine gQ 3 ?_;refine q1 (cK [aU x5.asE]) ?_;refine gQ 3 ?_;refine PG H fun x14 x15 x16 z13 H=>(q1 (bC func13 (JW fu x5 x7.asH.asD _ z13)) ?_)
 refine gQ 15 ?_;refine AL.weak (s':=⟨[(2,pB false),(3,.ptr 0 0),(4,b4 x6),(5,.ptr 1 0),(7,.ptr 2 0),(59,pB (!(x16)))],⟨[some ⟨26,[aU x5.asE]⟩,some ⟨32,eD x7⟩,some ⟨39,dG x14⟩],[]⟩⟩) wkA ?_;refine dF 59 H (fun g17 H=>gE 15) fun g17 H=>?_;refine gQ 10 ?_;refine a7 H (fun h18 H=>gE 4) fun h18 H=>?_;refine gQ 3 ?_;refine q1 (n0 ([]:List aN)) ?_;refine gQ 7 ?_;refine iG 61 (bI _) (fun hl22=>?_)
 try dsimp only at hl22
 refine bM (σ:=(List aN)) (fun i19 v21=>⟨[(2,pB false),(3,.ptr 0 0),(4,b4 x6),(5,.ptr 1 0),(7,.ptr 2 0),(10,l6 v21 0),(11,pN i19)],⟨[some ⟨26,[aU x5.asE]⟩,some ⟨32,eD x7⟩,some ⟨39,dG x14⟩],[⟨44,4,aN.trs (v21),false⟩]⟩⟩) (fun v21=>⟨[(2,pB false),(3,.ptr 0 0),(4,b4 x6),(5,.ptr 1 0),(7,.ptr 2 0),(10,l6 v21 0)],⟨[some ⟨26,[aU x5.asE]⟩,some ⟨32,eD x7⟩,some ⟨39,dG x14⟩],[⟨44,4,aN.trs (v21),false⟩]⟩⟩) (eR H) ?_ ?_
 ·rintro i19 v21 H
  refine gQ 9 ?_;refine cW H (fun h23 h23l H=>?_) (fun h23 H=>?_)
  ·refine gQ 3 ?_;refine cQ H fun z24 H=>(cQ H fun z25 H=>(dW (dI [10] bG (dI [7] bS (dD [78] eE (dI [11] bG (dI [79,80] qY (dI [81] xR (dI [5] bS (dI [83] bS (dD [84] eE (dI [11] bG (dI [85,86] qY ?_)))))))))))))
   refine dI [87] (jB (aA.cs (aP x7.asH.asG i19))) (dI [82,88] nU (dI [89] (gC ([(aN.mk (aP x14.asP i19) (aP x7.asH.asG i19))]:List aN)) (dE [77,90] (jS z25) (dI [91] bG (dN ?_)))))
   exact gE 5
  exact gE 0
 rintro v21 H
 refine gQ 5 ?_;refine cF.fact (b6 2 2 rfl rfl rfl (aC.trs_len _)) (fun hl27=>?_)
 try dsimp only at hl27
 refine bM (σ:=Unit) (fun i26 _=>⟨[(2,pB false),(3,.ptr 0 0),(4,b4 x6),(5,.ptr 1 0),(7,.ptr 2 0),(10,l6 v21 0),(12,pN i26)],⟨[some ⟨26,[aU x5.asE]⟩,some ⟨32,eD x7⟩,some ⟨39,dG x14⟩],[⟨44,4,aN.trs (v21),false⟩]⟩⟩) (fun _=>⟨[(2,pB false)],⟨[some ⟨26,[aU x5.asE]⟩,some ⟨32,eD x7⟩,some ⟨39,dG x14⟩],[⟨44,4,aN.trs (v21),false⟩]⟩⟩) (eR H) ?_ ?_
 ·rintro i26 ⟨⟩ H
  refine gQ 9 ?_;refine cW H (fun h28 h28l H=>?_) (fun h28 H=>?_)
  ·refine gQ 7 ?_;refine bM (σ:=Unit) (fun i29 _=>⟨[(2,pB false),(3,.ptr 0 0),(4,b4 x6),(5,.ptr 1 0),(7,.ptr 2 0),(10,l6 v21 0),(12,pN i26),(13,pN i29),(92,pN i26),(93,.ptr 2 2),(94,cB x14.asI),(95,pN x14.asI.length),(96,pB (decide ((i26:Int)<(x14.asI.length:Int))))],⟨[some ⟨26,[aU x5.asE]⟩,some ⟨32,eD x7⟩,some ⟨39,dG x14⟩],[⟨44,4,aN.trs (v21),false⟩]⟩⟩) (fun _=>⟨[(2,pB false),(3,.ptr 0 0),(4,b4 x6),(5,.ptr 1 0),(7,.ptr 2 0),(10,l6 v21 0),(12,pN i26),(92,pN i26),(93,.ptr 2 2),(94,cB x14.asI),(95,pN x14.asI.length),(96,pB (decide ((i26:Int)<(x14.asI.length:Int))))],⟨[some ⟨26,[aU x5.asE]⟩,some ⟨32,eD x7⟩,some ⟨39,dG x14⟩],[⟨44,4,aN.trs (v21),false⟩]⟩⟩) (eR H) ?_ ?_
   ·rintro i29 ⟨⟩ H
    refine gQ 10 ?_;refine SR 105 (aA.trs_len _) (fun hl30=>?_)
    try dsimp only at hl30
    refine gQ 3 ?_;refine cW H (fun h31 h31l H=>?_) (fun h31 H=>?_)
    ·refine gQ 4 ?_;refine bD H fun x33 z32 H=>(bD H fun x35 z34 H=>?_)
     rcases qB (decide (x35<0)) with g36|g36
     ·have H:=wF H g36
      refine cQ H fun z37 H=>(cQ H fun z38 H=>(cQ H fun z39 H=>(dW (dD [3] (cK [aU x5.asE]) (dI [4] bG (dI [110,111] (bC func15 (tY fu x5 x6 _ z32)) (dD [5] (cK [pS x7.asN,pI x7.asH.asJ,pS x7.asH.asD,aX x7.asH.asG]) (dI [112,113] (bC func14 (lV fu x33 x7 _ z34)) (dI [114] rLt (dI [115] bG (dD (hg:=a6 g36) [3] (cK [aU x5.asE]) (dI (hg:=a6 g36) [4] bG (dI (hg:=a6 g36) [5] bS ?_)))))))))))))
      refine dD (hg:=a6 g36) [119] eE (dI (hg:=a6 g36) [10] bG (dI (hg:=a6 g36) [7] bS (dD (hg:=a6 g36) [122] eE (dI (hg:=a6 g36) [12] bG (dI (hg:=a6 g36) [123,124] qY (dI (hg:=a6 g36) [125] y2 (dI (hg:=a6 g36) [126] xR (dI (hg:=a6 g36) [13] bG (dI (hg:=a6 g36) [127,128] qY (dI (hg:=a6 g36) [129] (jB (aA.cs (aP ((aP x14.asI i26).asR) i29))) (dI (hg:=a6 g36) [121,130] (bC func16 (Q3 v21 (aP ((aP x14.asI i26).asR) i29) z37 z38)) (dI (hg:=a6 g36) [120,131] nU (dI (hg:=a6 g36) [117,118,132] (bC func11 (VC x5 x6 (aE.mk x7.asN (jQ v21 (aP ((aP x14.asI i26).asR) i29))) z8 z39)) ?_)))))))))))))
      refine dI (hg:=a6 g36) [133] XJ (dI [116,134] (A6 g36) (dN ?_))
      refine a7 H (fun h40 H=>?_) (fun h40 H=>?_)
      ·refine gQ 4 ?_;refine cF.ret ?_
       obtain rfl:_=r:=(YL (skL (YL (xQ H))):)
       exact NQ
      exact gE 6
     have H:=wE H g36
     refine dW (dD [3] (cK [aU x5.asE]) (dI [4] bG (dI [110,111] (bC func15 (tY fu x5 x6 _ z32)) (dD [5] (cK [pS x7.asN,pI x7.asH.asJ,pS x7.asH.asD,aX x7.asH.asG]) (dI [112,113] (bC func14 (lV fu x33 x7 _ z34)) (dI [114] rLt (dI [115] bG ?_)))))))
     iterate 18 refine ME g36 ?_
     refine dI [116] (DZ g36) (dN ?_)
     exact gE 7
    exact gE 0
   rintro⟨⟩ H
   exact gE 5
  exact gE 0
 rintro⟨⟩ H
 exact gE 4
end
end Go.Proofs.YtfcoaagbccmahaaGreat.W

namespace Go.Proofs.YtfcoaagbccmahaaGreat.W
set_option maxRecDepth 20000
set_option maxHeartbeats 4000000
open Go.RowKit Go.WalkArith Go.IntWalk
attribute [local irreducible] wt wl lt
def KT(fu:Nat):Prop:= ∀(pc:DS),Ok (CH fu pc) (fun r=>wl r.1≤900)
theorem VL:bL KT:=((bL.ge 2147483648).and dJ).imp fun fu ⟨hfu,dJ⟩ pc=>by
 refine Ok.lt fun d1 h1=>?_
 have:=DS.below_lt pc (n:=3) (by decide)
 have:=(aT:wl ([]:List aE)=0∧_)
 refine Ok.sok (E:=fun(v6,v5)=>wl v6≤300) ?_ ?_
 ·refine Ok.loop0 (fun i3 (v6,v5)=>wl v6≤100*i3∧i3≤3) (by exact bF) (by rintro i3 ⟨v6,v5⟩-hI;(try dsimp only at hI ⊢);omega) ?_;rintro i3 ⟨v6,v5⟩ hl3 hI4
  dsimp only at hI4
  have:a4.size=4:=rfl
  have:c3.size=3:=rfl
  have:cX.size=3:=rfl
  have:=zR a4 c3 cX
  have:=aV a4
  have:=aV c3
  have:=aV cX
  refine Ok.lt fun d9 h5=>Ok.lt fun y11 h6=>?_
  have:=congrArg wt h6
  simp only [aV] at this
  have:y11.size≤4:=by rw [h6];exact DS.pick_size _ (by decide) (by decide)
  have:eQ.size=1:=rfl
  have:t2.size=1:=rfl
  have:=iJ eQ t2
  have:=aV eQ
  have:=aV t2
  refine Ok.lt fun d13 h7=>Ok.lt fun y15 h8=>?_
  have:=congrArg wt h8
  simp only [aV] at this
  have:y15.size≤1:=by rw [h8];exact DS.pick_size _ (by decide) (by decide)
  refine oB (dJ y15) fun x18 h9=>?_
  have:=aZ (v6)
  have:=aE.wt_mk y11 x18
  have:=bU (aE.mk y11 x18)
  refine oG fun z10=>?_
  have:=bN v6 ([(aE.mk y11 x18)]:List aE)
  exact mF
 rintro⟨v6,v5⟩ h2
 dsimp only at h2
 exact oS
end Go.Proofs.YtfcoaagbccmahaaGreat.W

namespace Go.Proofs.YtfcoaagbccmahaaGreat.W
set_option maxRecDepth 20000
set_option maxHeartbeats 4000000
open Go.RowKit Go.WalkArith Go.IntWalk
attribute [local irreducible] wt wl lt
def MV(fu:Nat):Prop:= ∀(pc:DS),Ok (vZ fu pc) (fun r=>wt r.1≤100000)
theorem YH:bL MV:=((((bL.ge 2147483648).and mV).and iK).and cU).imp fun fu ⟨⟨⟨hfu,mV⟩,iK⟩,cU⟩ pc=>by
 have:=aaM 3 (by decide)
 have:=aaM 2 (by decide)
 have:eQ.size=1:=rfl
 have:t2.size=1:=rfl
 have:=iJ eQ t2
 have:=aV eQ
 have:=aV t2
 refine rT (mV pc ([eQ,t2]:LB) 3 bF) fun x2 x3 h1=>?_
 dsimp only at h1
 refine Ok.lt fun d4 h2=>?_;refine oC (fun g3=>?_) fun g3=>?_
 ·refine rT (iK d4 2 bF) fun x8 x9 h4=>?_
  dsimp only at h4
  have:a4.size=4:=rfl
  have:iC.size=2:=rfl
  have:c3.size=3:=rfl
  have:cX.size=3:=rfl
  have:fG.size=4:=rfl
  have:rV.size=2:=rfl
  have:=abX a4 a4 iC c3 cX fG rV
  have:=aV a4
  have:=aV iC
  have:=aV c3
  have:=aV cX
  have:=aV fG
  have:=aV rV
  refine Ok.lt fun d10 h5=>Ok.lt fun y12 h6=>?_
  have:=congrArg wt h6
  simp only [aV] at this
  have:y12.size≤4:=by rw [h6];exact DS.pick_size _ (by decide) (by decide)
  have:=aE.wt_mk y12 x8
  exact oS
 refine oC (fun g7=>?_) fun g7=>?_
 ·have:B6.size=3:=rfl
  have:=(aT:wl ([]:List aA)=0∧_)
  refine oB (cU B6 ([]:List aA) bF) fun x16 h8=>?_
  have:a4.size=4:=rfl
  have:iC.size=2:=rfl
  have:c3.size=3:=rfl
  have:cX.size=3:=rfl
  have:fG.size=4:=rfl
  have:rV.size=2:=rfl
  have:=abX a4 a4 iC c3 cX fG rV
  have:=aV a4
  have:=aV iC
  have:=aV c3
  have:=aV cX
  have:=aV fG
  have:=aV rV
  refine Ok.lt fun d17 h9=>Ok.lt fun y19 h10=>?_
  have:=congrArg wt h10
  simp only [aV] at this
  have:y19.size≤4:=by rw [h10];exact DS.pick_size _ (by decide) (by decide)
  have:=aE.wt_mk y19 x16
  exact oS
 refine oC (fun g11=>?_) fun g11=>?_
 ·have:B6.size=3:=rfl
  have:dK.size=3:=rfl
  have:c9.size=4:=rfl
  have:=zR B6 dK c9
  have:=aV B6
  have:=aV dK
  have:=aV c9
  refine Ok.lt fun d22 h12=>Ok.lt fun y24 h13=>?_
  have:=congrArg wt h13
  simp only [aV] at this
  have:y24.size≤4:=by rw [h13];exact DS.pick_size _ (by decide) (by decide)
  have:=(aT:wl ([]:List aA)=0∧_)
  refine oB (cU y24 ([]:List aA) bF) fun x27 h14=>?_
  have:b0.size=4:=rfl
  have:=bU x27
  refine oB (cU b0 ([x27]:List aA) bF) fun x29 h15=>?_
  have:a4.size=4:=rfl
  have:iC.size=2:=rfl
  have:c3.size=3:=rfl
  have:cX.size=3:=rfl
  have:fG.size=4:=rfl
  have:rV.size=2:=rfl
  have:=abX a4 a4 iC c3 cX fG rV
  have:=aV a4
  have:=aV iC
  have:=aV c3
  have:=aV cX
  have:=aV fG
  have:=aV rV
  refine Ok.lt fun d30 h16=>Ok.lt fun y32 h17=>?_
  have:=congrArg wt h17
  simp only [aV] at this
  have:y32.size≤4:=by rw [h17];exact DS.pick_size _ (by decide) (by decide)
  have:=aE.wt_mk y32 x29
  exact oS
 have:a4.size=4:=rfl
 have:iC.size=2:=rfl
 have:c3.size=3:=rfl
 have:cX.size=3:=rfl
 have:fG.size=4:=rfl
 have:rV.size=2:=rfl
 have:=abX a4 a4 iC c3 cX fG rV
 have:=aV a4
 have:=aV iC
 have:=aV c3
 have:=aV cX
 have:=aV fG
 have:=aV rV
 refine Ok.lt fun d34 h18=>Ok.lt fun y36 h19=>?_
 have:=congrArg wt h19
 simp only [aV] at this
 have:y36.size≤4:=by rw [h19];exact DS.pick_size _ (by decide) (by decide)
 have:=aE.wt_mk y36 x2
 exact oS
end Go.Proofs.YtfcoaagbccmahaaGreat.W

namespace Go.Proofs.YtfcoaagbccmahaaGreat.W
open Go.RowKit Go.WalkArith Go.Proofs
attribute [local irreducible] uJ
theorem agQ{w:aF}(hw:wt w≤13000000){l:List aE}(hl:wl l≤900):QU w l:=⟨hw,by have:=aZ l;omega,fun b hb=>n3.of (by
 have h1:=pZ hb
 have h2:=aE.wt_eq b
 rw [G4]
 omega)⟩
theorem ad1(fu:Nat){d:aI}(hd:wt d≤13000000):AG fu d=some d:=by
 have h1:=aI.wt_eq d
 have h2:=aZ d.asI
 have h3:=aZ d.asP
 unfold AG
 rw [YM (l:=d.asI) fun i hi hn=>?_]
 ·exact rR (by rw [List.length_nil];omega) (by cases d;rfl)
 ·unfold K7
  have h4:=pZ (dO hi)
  have h5:=aC.wt_eq (aP d.asI i)
  have h6:=aZ (aP d.asI i).asR
  refine rR ⟨by omega,fun x hx=>n3.of ?_⟩ (rR (by rw [hn,List.length_singleton];omega) rfl)
  have h7:=pZ hx
  rw [G4]
  omega
set_option maxRecDepth 100000 in
theorem adG:BH.size≤1000:=by decide
theorem aeU{fu:Nat}(hfu:2147483648≤fu)(kW:KS fu)(kL:KT fu)(kG:MV fu)(kP:AR fu)(code:List UInt8)(hb:code.length≤1048576): ∃w l g,nM fu code=some (w,l,g)∧wt w≤13000000∧WOk w∧wl l≤900∧wt g.asH≤1000000∧NI g.asH:=by
 obtain⟨⟨w,d⟩,hr,hw⟩:=kW (DS.start code)
 obtain⟨⟨l,d2⟩,hl,hl2⟩:=kL d
 obtain⟨⟨g,d3⟩,hg,hg2⟩:=kG d2
 replace hg2:wt g≤100000:=hg2
 have hgt:=aE.wt_eq g
 have hA:AJ fu code=some (w,l,g):=by
  unfold AJ
  exact rR hb (wD hr (wD hl (wD hg rfl)))
 unfold nM
 by_cases h1:(DS.start code).below 6=0
 ·obtain⟨⟨w2,n⟩,hp,hp2⟩:=kP BH (Nat.le_trans adG (by decide))
  replace hp2:wt w2≤40*(BH.size+1):=hp2
  have hsz:=adG
  have hs: ∀y∈([sK,yU,nZ]:LB),y.size≤4:=by decide
  have hy:=hs _ (DS.pick_mem ((DS.start code).after 6) (l:= [sK,yU,nZ]) (by decide))
  have hc: ∀y,eJ fu y []=some (.mk 2 y []):=fun y=>rR (by simp) rfl
  by_cases h2:((DS.start code).after 6).pick ([sK,yU,nZ]:LB)=nZ
  ·refine⟨w2,l,_,rR hb (wD hA (YN rfl (GS (decide_eq_true h1) (wD hp (YN rfl (YN rfl (wD (hc _) (GS (decide_eq_true h2) (wD (wD (hc dK) rfl) rfl))))))))),by omega,YU fu _ _ hp,hl2,?_,JQ (by rw [show(aA.mk 2 (((DS.start code).after 6).pick ([sK,yU,nZ]:LB)) []).asD=nZ from h2];rfl) (FZ C4)⟩
   show wt (aA.mk 2 (((DS.start code).after 6).pick ([sK,yU,nZ]:LB)) [aA.mk 2 dK []])≤1000000
   rw [h2]
   decide
  ·refine⟨w2,l,_,rR hb (wD hA (YN rfl (GS (decide_eq_true h1) (wD hp (YN rfl (YN rfl (wD (hc _) (ET (decide_eq_false h2) rfl)))))))),by omega,YU fu _ _ hp,hl2,?_,C4⟩
   show wt (aA.mk 2 (((DS.start code).after 6).pick ([sK,yU,nZ]:LB)) [])≤1000000
   have h3:=aA.wt_eq (.mk 2 (((DS.start code).after 6).pick ([sK,yU,nZ]:LB)) [])
   have h4:wl ([]:List aA)=0:=aT.1
   have h5:(aA.mk 2 (((DS.start code).after 6).pick ([sK,yU,nZ]:LB)) []).asD.size≤4:=hy
   have h6:wl (aA.mk 2 (((DS.start code).after 6).pick ([sK,yU,nZ]:LB)) []).asG=0:=h4
   omega
 ·exact⟨w,l,_,rR hb (wD hA (YN rfl (ET (decide_eq_false h1) rfl))),hw,ae4 fu _ _ hr,hl2,by show wt g.asH≤_;omega,agD fu _ _ hg⟩
theorem ac6(code:List UInt8): ∃fu,JO fu code=some true:=by
 obtain⟨fu,⟨⟨⟨hfu,kW⟩,kL⟩,kG⟩,kP⟩:=(((((bL.ge 2147483648).and VK).and VL).and YH).and oJ).get
 refine⟨fu,?_⟩
 unfold JO YK
 by_cases hb:code.length≤1048576
 ·refine ET (decide_eq_false (by omega)) ?_
  obtain⟨w,l,g,hd,hw,hO,hl,hg,hn⟩:=aeU hfu kW kL kG kP code hb
  have hS:=agQ hw hl
  have hG:O9 w g.asH:=O9.of hg
  have hW:=aeH hO
  have he:U4 w l g=DV w l g:=aaK hW _ _ 32 [] _ hn
  refine wD hd (rR hS (rR hG ?_))
  rw [he]
  refine ET (by simp) ?_
  by_cases h0:DV w l g=0
  ·refine ET (nd0 h0) ?_
   by_cases hk:g.asH.asJ=2
   ·have hF:oO fu w g.asH.asD=some (uJ w g.asH.asD):=by
     unfold oO
     refine wD (F2 fu w _ (aF.small_wt hw (by omega))) (wD (ad1 fu ?_) rfl)
     rcases SD w g.asH.asD with h|⟨p,hp,hd⟩
     ·rw [h];decide
     ·have:=aF.wt_eq w
      have:=pZ hp
      have:=aK.wt_eq p
      have:=pZ hd
      omega
    refine ET (by rw [decide_eq_true hk];rfl) (wD hF ?_)
    show sw (!(uJ w g.asH.asD).2.2) _ _=_
    cases h2:(uJ w g.asH.asD).2.2 with
    |false=>exact GS rfl rfl
    |true=>
     refine ET rfl ?_
     by_cases h3:(uJ w g.asH.asD).1.asP.length=g.asH.asG.length
     ·refine ET (by rw [decide_eq_true (by omega)];rfl) ?_
      obtain⟨V,hV,hgd⟩:=hG
      have hU:=SI hw hV
      have hWU:WQ (Gd (SU w++V)) w:=O6 hw
      have hc:mR w g.asH=true:=by
       unfold mR
       rw [decide_eq_true hk,h2,decide_eq_true h3]
       rfl
      have hlen:g.asH.asG.length≤68719476735:=by
       have h:n3 g.asH:=⟨_,hU,hgd⟩
       cases hq:g.asH with
       |mk k n xs=>rw [hq] at h;exact h.len
      have hR1:=yN (F:=NH fu code (decide (((code.length:Nat):Int)>1048576)) w l g (uJ w g.asH.asD).1 (uJ w g.asH.asD).2.1 true) (n:=(uJ w g.asH.asD).1.asP.length) (M:=68719476736) (g:=fun i=>aN.mk (aP (uJ w g.asH.asD).1.asP i) (aP g.asH.asG i)) (fun j v hj hv=>rR (by omega) (rR hv rfl)) _ 0 [] rfl (by rw [List.length_nil];omega)
      refine soR (s:=KV (uJ w g.asH.asD).1.asP g.asH.asG) hR1 ?_
      refine soR (s:=()) (vN (fun i hi=>?_) _ 0 rfl) rfl
      unfold NJ
      refine soR (s:=()) (vN (fun j hj=>?_) _ 0 rfl) rfl
      unfold NK
      refine wD ((aaS hw (by omega) hS.hl hS.ht).trans (congrArg some (QV hw (by omega) l))) (wD (RG fu _ g) ?_)
      have hci:=dO hi
      have hfj:=dO hj
      by_cases h4:DU (GZ w l) g<0
      ·refine GS (decide_eq_true h4) (rR (ac9 hU (MD h3 ((G9 _).args hgd))) (rR ⟨_,hU,hWU.fl _ _ hci _ hfj⟩ (rR ⟨V,hV,aaE (G9 _) hWU hgd hc hci hfj⟩ (ET (decide_eq_false ?_) rfl))))
       exact abL hO h0 (by omega) h2 hci hfj
      ·exact ET (decide_eq_false h4) rfl
     ·exact GS (by rw [decide_eq_false (by omega)];rfl) rfl
   ·exact GS (by rw [decide_eq_false hk];rfl) (by simp)
  ·exact GS (nd1 h0) (by simp)
 ·exact GS (decide_eq_true (by omega)) rfl
theorem aeM(code:List UInt8):bP Tryz.prog 3 [rU code] (pB true):=let⟨fu,h⟩:=ac6 code;YI fu code true h
end Go.Proofs.YtfcoaagbccmahaaGreat.W
