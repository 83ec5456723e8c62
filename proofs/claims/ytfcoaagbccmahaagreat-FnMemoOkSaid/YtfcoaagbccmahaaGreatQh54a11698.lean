/- Rules. No conditions. -/
import Derived.Test.YtfcoaagbccmahaaGreatQh78131efa
set_option linter.unusedSimpArgs false
set_option linter.unusedVariables false
namespace Go.Proofs.YtfcoaagbccmahaaGreat.W
set_option maxRecDepth 100000
set_option maxHeartbeats 40000000
noncomputable section
open Tryz Go.RowKit Go.Proofs
attribute [local irreducible] lt
abbrev EQ:=aA→Option Int
def EP(m:EQ):Prop:= ∀(pt:aA) (r:Int),m pt=some r→bU prog 109 [(aA.pv pt)] (pI r:PV)
def R6(fu:Nat)(p3:EQ)(pt:aA):Nat→Int→J (LR Int Int):=fun i1 v2=>bd (p3 (aR pt.aFt i1)) fun x6=>some (.next (bB (v2+x6)))
def K0(fu:Nat)(p3:EQ)(pt:aA):J Int:=so (loopN (R6 fu p3 pt) (pt.aFt.length-0) 0 1) fun v2=>some v2
theorem aaU(fu:Nat)(p3:EQ)(pD:EP p3):EP (K0 fu p3):=by
 intro pt r H
 refine qJ func109 H (fun C hC H=>?_)
 refine gQ 2 ?_;refine q1 (fQ (cF pt)) ?_;refine gQ 11 ?_;refine dR.fact (cP 0 2 rfl rfl rfl (aA.tl _)) (fun hl3=>?_)
 try dsimp only at hl3
 refine bV (σ:=Int) (fun i1 v2=>⟨[(1,.ptr 0 0),(2,pI 0),(3,pI v2),(4,pN i1)],⟨[some ⟨30,cF pt⟩],[]⟩⟩) (fun v2=>⟨[(2,pI 0),(3,pI v2)],⟨[some ⟨30,cF pt⟩],[]⟩⟩) (fA H) ?_ ?_
 ·rintro i1 v2 H
  refine gQ 9 ?_;refine cZ H (fun h4 h4l H=>?_) (fun h4 H=>?_)
  ·refine gQ 9 ?_;refine q1 (gZ (aA.cs (aR pt.aFt i1))) (bN H fun x6 z5 H=>(q1 (bJ func109 (pD (aR pt.aFt i1) _ z5)) ?_))
   exact gE 8
  exact gE 0
 rintro v2 H
 exact gE 5
def oM:Nat→aA→J Int
 |0,_=>none
 |fu+1,pt=>K0 fu (oM fu) pt
theorem acZ(fu:Nat):EP (oM fu):=by
 induction fu with
 |zero=>exact(fun pt r H=>by simp only [oM] at H;cases H)
 |succ fu ih=>exact(fun pt r H=>by simp only [oM] at H;exact aaU fu (oM fu) ih pt r H)
theorem agI(fu:Nat):EP (oM fu):=(acZ fu)
abbrev EE:=aA→Option Int
def ED(m:EE):Prop:= ∀(pt:aA) (r:Int),m pt=some r→bU prog 105 [(aA.pv pt)] (pI r:PV)
def RE(fu:Nat)(p4:EE)(pt:aA):Nat→Int→J (LR Int Int):=fun i1 v2=>bd (p4 (aR pt.aFt i1)) fun x6=>some (.next (bB (v2+x6)))
def KH(fu:Nat)(p4:EE)(pt:aA):J Int:=so (loopN (RE fu p4 pt) (pt.aFt.length-0) 0 1) fun v2=>some v2
theorem ZG(fu:Nat)(p4:EE)(pE:ED p4):ED (KH fu p4):=by
 intro pt r H
 refine qJ func105 H (fun C hC H=>?_)
 refine gQ 2 ?_;refine q1 (fQ (cF pt)) ?_;refine gQ 14 ?_;refine gV 7 (aA.tl _) (fun hl3=>?_)
 try dsimp only at hl3
 refine bV (σ:=Int) (fun i1 v2=>⟨[(2,pI 0),(3,pI v2),(7,aV pt.aFt),(8,pN pt.aFt.length),(9,pN i1)],⟨[some ⟨30,cF pt⟩],[]⟩⟩) (fun v2=>⟨[(2,pI 0),(3,pI v2)],⟨[some ⟨30,cF pt⟩],[]⟩⟩) (fA H) ?_ ?_
 ·rintro i1 v2 H
  refine gQ 5 ?_;refine cZ H (fun h4 h4l H=>?_) (fun h4 H=>?_)
  ·refine gQ 6 ?_;refine q1 (gZ (aA.cs (aR pt.aFt i1))) ?_;refine gQ 5 ?_;refine q1 (b4 [pI ((aR pt.aFt i1).aFw),pS ((aR pt.aFt i1).aFs),aV ((aR pt.aFt i1).aFt)]) (bN H fun x6 z5 H=>(q1 (bJ func105 (pE (aR pt.aFt i1) _ z5)) ?_))
   exact gE 7
  exact gE 0
 rintro v2 H
 exact gE 5
def n0:Nat→aA→J Int
 |0,_=>none
 |fu+1,pt=>KH fu (n0 fu) pt
theorem acB(fu:Nat):ED (n0 fu):=by
 induction fu with
 |zero=>exact(fun pt r H=>by simp only [n0] at H;cases H)
 |succ fu ih=>exact(fun pt r H=>by simp only [n0] at H;exact ZG fu (n0 fu) ih pt r H)
theorem afV(fu:Nat):ED (n0 fu):=(acB fu)
abbrev rO:=aH→(List aJ)→aD→(List aA)→Option Int
def I3(m:rO):Prop:= ∀(p9:aH) (p5:Z aJ) (p0:aD) (a3:Z aA) (r:Int),m p9 p5 p0 a3=some r→bU prog 52 [(aH.pv p9),b5 p5,(aD.pv p0),aV a3] (pI r:PV)
def LD(fu:Nat)(p1:rO)(p9:aH)(p5:Z aJ)(p0:aD)(a3:Z aA):J (Int⊕Unit):=sw (decide (p0.aFu.aFw=2)) (bd (CP fu p0.aFu.aFs) fun x3=>sw x3 (some (.inl 0)) (bd (mA fu p5 p0) fun x6=>sw (decide (x6≥0)) (some (.inl 0)) (some (.inr ())))) (bd (mA fu p5 p0) fun x9=>sw (decide (x9≥0)) (some (.inl 0)) (some (.inr ())))
def LE(fu:Nat)(p1:rO)(p9:aH)(p5:Z aJ)(p0:aD)(a3:Z aA):Nat→Unit→J (LR Unit Int):=fun i11 _=>sw (aA.eq (aR a3 i11) p0.aFu) (some (.ret 0)) (some (.next ()))
def V2(fu:Nat)(p1:rO)(p9:aH)(p5:Z aJ)(p0:aD)(a3:Z aA)(x16:aO)(x17:Int)(x18:Bool)(x24:Int):Nat→((Z aK))→J (LR ((Z aK)) Int):=fun i26 v28=>gd (i26<(p0.aFu.aFt).length) (gd ((v28).length+(([(aK.mk (aR x16.aFH i26) (aR p0.aFu.aFt i26))]:Z aK)).length≤68719476736) (some (.next (v28++([(aK.mk (aR x16.aFH i26) (aR p0.aFu.aFt i26))]:Z aK)))))
def V4(fu:Nat)(p1:rO)(p9:aH)(p5:Z aJ)(p0:aD)(a3:Z aA)(x16:aO)(x17:Int)(x18:Bool)(x24:Int)(v28:Z aK)(i35:Nat):Nat→Unit→J (LR Unit (LR Unit Int)):=fun i38 _=>gd (s3 v28) (gd (gO (aR ((aR x16.aFx i35).aFN) i38)) (bd (p1 p9 p5 (aD.mk p0.aFz (mN v28 (aR ((aR x16.aFx i35).aFN) i38))) ((([])++a3)++([p0.aFu]:Z aA))) fun x44=>sw (!decide (x44=0)) (some (.ret (.ret x44))) (some (.next ()))))
def V3(fu:Nat)(p1:rO)(p9:aH)(p5:Z aJ)(p0:aD)(a3:Z aA)(x16:aO)(x17:Int)(x18:Bool)(x24:Int)(v28:Z aK):Nat→Unit→J (LR Unit Int):=fun i35 _=>so (loopN (V4 fu p1 p9 p5 p0 a3 x16 x17 x18 x24 v28 i35) (((aR x16.aFx i35).aFN).length-0) 0 ()) fun _=>some (.next ())
def I2(fu:Nat)(p1:rO)(p9:aH)(p5:Z aJ)(p0:aD)(a3:Z aA):J Int:=so (LD fu p1 p9 p5 p0 a3) fun _=>so (loopN (LE fu p1 p9 p5 p0 a3) (a3.length-0) 0 ()) fun _=>bd (B9 fu p9 p0.aFu.aFs) fun(x16,x17,x18)=>sw (!decide (p0.aFu.aFw=2)) (some 1) (sw (!(x18)) (some 1) (sw (!decide ((x16.aFH.length:Int)=(p0.aFu.aFt.length:Int))) (some 1) (sw (decide ((a3.length:Int)>30)) (some 3) (bd (oM fu p0.aFu) fun x24=>sw (decide (x24>400)) (some 3) (so (loopN (V2 fu p1 p9 p5 p0 a3 x16 x17 x18 x24) (x16.aFH.length-0) 0 ([])) fun v28=>gd (([]:Z aA).length+(a3).length≤68719476736) (gd ((([])++a3).length+(([p0.aFu]:Z aA)).length≤68719476736) (so (loopN (V3 fu p1 p9 p5 p0 a3 x16 x17 x18 x24 v28) (x16.aFx.length-0) 0 ()) fun _=>some 0)))))))
theorem adD(fu:Nat)(p1:rO)(pG:I3 p1):I3 (I2 fu p1):=by
 intro p9 p5 p0 a3 r H
 refine qJ func52 H (fun C hC H=>?_)
 refine gQ 2 ?_;refine q1 (fQ ([aP p9.aFr])) (q1 (fQ (b8 p0)) ?_)
 refine gQ 3 ?_;refine qY (σ:=Unit) (fun _=>⟨[(1,b5 p5),(3,aV a3),(4,.ptr 0 0),(6,.ptr 1 0),(8,pI 0)],⟨[some ⟨26,[aP p9.aFr]⟩,some ⟨32,b8 p0⟩],[]⟩⟩) (fA H) (fun H=>?_) ?_
 ·refine gQ 7 ?_;refine dY 23 H (fun g1 H=>?_) fun g1 H=>?_
  ·refine gQ 3 ?_;refine bN H fun x3 z2 H=>(qg g1 (bJ func108 (P6 fu p0.aFu.aFs _ z2)) ?_)
   refine gQ 2 ?_;refine dY 29 H (fun g4 H=>gE 11) fun g4 H=>?_;refine qg g4 bI (qg g4 (b4 [pS p0.aFz,pI p0.aFu.aFw,pS p0.aFu.aFs,aV p0.aFu.aFt]) (bN H fun x6 z5 H=>(qg g4 (bJ func14 (vC fu p5 p0 _ z5)) ?_)))
   refine gQ 3 ?_;refine bG H (fun h7 H=>gE 4) fun h7 H=>?_;exact gE 1
  refine gQ 7 ?_;refine qg rfl (b4 [pS p0.aFz,pI p0.aFu.aFw,pS p0.aFu.aFs,aV p0.aFu.aFt]) (bN H fun x9 z8 H=>(qg rfl (bJ func14 (vC fu p5 p0 _ z8)) ?_))
  refine gQ 3 ?_;refine bG H (fun h10 H=>gE 4) fun h10 H=>?_;exact gE 1
 rintro⟨⟩ H
 refine gQ 5 ?_;refine gV 3 (aA.tl _) (fun hl12=>?_)
 try dsimp only at hl12
 refine bV (σ:=Unit) (fun i11 _=>⟨[(1,b5 p5),(3,aV a3),(4,.ptr 0 0),(6,.ptr 1 0),(8,pI 0),(9,pN i11)],⟨[some ⟨26,[aP p9.aFr]⟩,some ⟨32,b8 p0⟩],[]⟩⟩) (fun _=>⟨[(1,b5 p5),(3,aV a3),(4,.ptr 0 0),(6,.ptr 1 0),(8,pI 0)],⟨[some ⟨26,[aP p9.aFr]⟩,some ⟨32,b8 p0⟩],[]⟩⟩) (fA H) ?_ ?_
 ·rintro i11 ⟨⟩ H
  refine gQ 8 ?_;refine cZ H (fun h13 h13l H=>?_) (fun h13 H=>?_)
  ·refine gQ 4 ?_;refine dW (dI [3] bI (dI [9] bI (dI [41,42] mU (dI [43] (gZ (aA.cs (aR a3 i11))) (dI [6] bW (dD [45] (b4 [pI p0.aFu.aFw,pS p0.aFu.aFs,aV p0.aFu.aFt]) (dI [44,46] (bJ func38 (FM (aR a3 i11) p0.aFu)) (dN ?_))))))))
   refine bG H (fun h14 H=>gE 4) fun h14 H=>?_;exact gE 6
  exact gE 0
 rintro⟨⟩ H
 refine gQ 2 ?_;refine q1 (b4 [aP p9.aFr]) ?_;refine gQ 3 ?_;refine J9 H fun x16 x17 x18 z15 H=>(q1 (bJ func53 (ac7 fu p9 p0.aFu.aFs _ z15)) ?_)
 refine gQ 17 ?_;refine dY 61 H (fun g19 H=>gE 19) fun g19 H=>?_;refine gQ 4 ?_;refine dY 65 H (fun g20 H=>gE 15) fun g20 H=>?_;refine gQ 10 ?_;refine bG H (fun h21 H=>gE 4) fun h21 H=>?_;refine gQ 8 ?_;refine dY 78 H (fun g22 H=>gE 11) fun g22 H=>?_;refine qg g22 bW (qg g22 (b4 [pI p0.aFu.aFw,pS p0.aFu.aFs,aV p0.aFu.aFt]) (bN H fun x24 z23 H=>(qg g22 (bJ func109 (agI fu p0.aFu _ z23)) ?_)))
 refine gQ 3 ?_;refine bG H (fun h25 H=>gE 4) fun h25 H=>?_;refine gQ 3 ?_;refine q1 (sM ([]:Z aK)) ?_;refine gQ 7 ?_;refine gV 67 (b6 _) (fun hl29=>?_)
 try dsimp only at hl29
 refine bV (σ:=(Z aK)) (fun i26 v28=>⟨[(1,b5 p5),(3,aV a3),(4,.ptr 0 0),(6,.ptr 1 0),(8,pI 0),(10,.ptr 2 0),(13,m8 v28 0),(14,pN i26)],⟨[some ⟨26,[aP p9.aFr]⟩,some ⟨32,b8 p0⟩,some ⟨39,kO x16⟩],[⟨44,4,aK.trs (v28),false⟩]⟩⟩) (fun v28=>⟨[(1,b5 p5),(3,aV a3),(4,.ptr 0 0),(6,.ptr 1 0),(8,pI 0),(10,.ptr 2 0),(13,m8 v28 0)],⟨[some ⟨26,[aP p9.aFr]⟩,some ⟨32,b8 p0⟩,some ⟨39,kO x16⟩],[⟨44,4,aK.trs (v28),false⟩]⟩⟩) (fA H) ?_ ?_
 ·rintro i26 v28 H
  refine gQ 9 ?_;refine cZ H (fun h30 h30l H=>?_) (fun h30 H=>?_)
  ·refine gQ 3 ?_;refine cB H fun z31 H=>(cB H fun z32 H=>(dW (dI [13] bI (dI [10] bW (dD [93] eG (dI [14] bI (dI [94,95] mU (dI [96] wH (dI [6] bW (dI [98] bW (dD [99] eG (dI [14] bI (dI [100,101] mU ?_)))))))))))))
   refine dI [102] (gZ (aA.cs (aR p0.aFu.aFt i26))) (dI [97,103] rQ (dI [104] (iL ([(aK.mk (aR x16.aFH i26) (aR p0.aFu.aFt i26))]:Z aK)) (dE [92,105] (lO z32) (dI [106] bI (dN ?_)))))
   exact gE 5
  exact gE 0
 rintro v28 H
 refine qS (cB H fun z33 H=>(cB H fun z34 H=>(dW (dE [] (sM ([]:Z aA)) (dI [3] bI (dE [107,108] (lO z33) (dI [6] bW (dB [110] 0 2 (BG [pI p0.aFu.aFw,pS p0.aFu.aFs,aV p0.aFu.aFt]) (dI [111] (iL ([p0.aFu]:Z aA)) (dE [109,112] (lO z34) (dI [113] bI (dN ?_))))))))))))
 refine gQ 5 ?_;refine dR.fact (cP 2 2 rfl rfl rfl (aE.tl _)) (fun hl36=>?_)
 try dsimp only at hl36
 refine bV (σ:=Unit) (fun i35 _=>⟨[(1,b5 p5),(4,.ptr 0 0),(6,.ptr 1 0),(8,pI 0),(10,.ptr 2 0),(13,m8 v28 0),(15,jO ((([])++a3)++([p0.aFu]:Z aA)) 1),(16,pN i35)],⟨[some ⟨26,[aP p9.aFr]⟩,some ⟨32,b8 p0⟩,some ⟨39,kO x16⟩],[⟨44,4,aK.trs (v28),false⟩,⟨30,3,aA.trs ((([])++a3)++([p0.aFu]:Z aA)),false⟩]⟩⟩) (fun _=>⟨[(8,pI 0)],⟨[some ⟨26,[aP p9.aFr]⟩,some ⟨32,b8 p0⟩,some ⟨39,kO x16⟩],[⟨44,4,aK.trs (v28),false⟩,⟨30,3,aA.trs ((([])++a3)++([p0.aFu]:Z aA)),false⟩]⟩⟩) (fA H) ?_ ?_
 ·rintro i35 ⟨⟩ H
  refine gQ 9 ?_;refine cZ H (fun h37 h37l H=>?_) (fun h37 H=>?_)
  ·refine gQ 7 ?_;refine bV (σ:=Unit) (fun i38 _=>⟨[(1,b5 p5),(4,.ptr 0 0),(6,.ptr 1 0),(8,pI 0),(10,.ptr 2 0),(13,m8 v28 0),(15,jO ((([])++a3)++([p0.aFu]:Z aA)) 1),(16,pN i35),(17,pN i38),(114,pN i35),(115,.ptr 2 2),(116,eB x16.aFx),(117,pN x16.aFx.length),(118,pB (decide ((i35:Int)<(x16.aFx.length:Int))))],⟨[some ⟨26,[aP p9.aFr]⟩,some ⟨32,b8 p0⟩,some ⟨39,kO x16⟩],[⟨44,4,aK.trs (v28),false⟩,⟨30,3,aA.trs ((([])++a3)++([p0.aFu]:Z aA)),false⟩]⟩⟩) (fun _=>⟨[(1,b5 p5),(4,.ptr 0 0),(6,.ptr 1 0),(8,pI 0),(10,.ptr 2 0),(13,m8 v28 0),(15,jO ((([])++a3)++([p0.aFu]:Z aA)) 1),(16,pN i35),(114,pN i35),(115,.ptr 2 2),(116,eB x16.aFx),(117,pN x16.aFx.length),(118,pB (decide ((i35:Int)<(x16.aFx.length:Int))))],⟨[some ⟨26,[aP p9.aFr]⟩,some ⟨32,b8 p0⟩,some ⟨39,kO x16⟩],[⟨44,4,aK.trs (v28),false⟩,⟨30,3,aA.trs ((([])++a3)++([p0.aFu]:Z aA)),false⟩]⟩⟩) (fA H) ?_ ?_
   ·rintro i38 ⟨⟩ H
    refine gQ 10 ?_;refine acJ 127 (aA.tl _) (fun hl39=>?_)
    try dsimp only at hl39
    refine gQ 3 ?_;refine cZ H (fun h40 h40l H=>?_) (fun h40 H=>?_)
    ·refine gQ 4 ?_;refine cB H fun z41 H=>(cB H fun z42 H=>(bN H fun x44 z43 H=>(dW (dD [4] (b4 [aP p9.aFr]) (dI [1] bI (dI [6] bW (dD [134] eG (dI [13] bI (dI [10] bW (dD [137] eG (dI [16] bI (dI [138,139] mU (dI [140] xE ?_)))))))))))))
     refine dI [141] wH (dI [17] bI (dI [142,143] mU (dI [144] (gZ (aA.cs (aR ((aR x16.aFx i35).aFN) i38))) (dI [136,145] (bJ func110 (aeG v28 (aR ((aR x16.aFx i35).aFN) i38) z41 z42)) (dI [135,146] rQ (dI [15] bI (dI [132,133,147,148] (bJ func52 (pG p9 p5 (aD.mk p0.aFz (mN v28 (aR ((aR x16.aFx i35).aFN) i38))) ((([])++a3)++([p0.aFu]:Z aA)) _ z43)) (dI [149] bI (dN ?_)))))))))
     refine gQ 5 ?_;refine bG H (fun h45 H=>?_) (fun h45 H=>?_)
     ·refine gQ 5 ?_;refine dR.ret ?_
      obtain rfl:_=r:=(lkR (skL (lkR (tO H))):)
      exact SX
     exact gE 6
    exact gE 0
   rintro⟨⟩ H
   exact gE 5
  exact gE 0
 rintro⟨⟩ H
 exact gE 4
def lL:Nat→aH→(Z aJ)→aD→(Z aA)→J Int
 |0,_,_,_,_=>none
 |fu+1,p9,p5,p0,a3=>I2 fu (lL fu) p9 p5 p0 a3
theorem ahB(fu:Nat):I3 (lL fu):=by
 induction fu with
 |zero=>exact(fun p9 p5 p0 a3 r H=>by simp only [lL] at H;cases H)
 |succ fu ih=>exact(fun p9 p5 p0 a3 r H=>by simp only [lL] at H;exact adD fu (lL fu) ih p9 p5 p0 a3 r H)
theorem ak2(fu:Nat):I3 (lL fu):=(ahB fu)
def H9(fu:Nat)(pF:Y):J Bool:=sw (decide (pF=fE)) (some true) (some (decide (pF=eU)))
theorem acG(fu:Nat)(pF:Y)(r:Bool)(H:H9 fu pF=some r):bU prog 100 [pS pF] (pB r):=by
 refine qJ func100 H (fun C hC H=>?_)
 refine gQ 9 ?_;refine dY 5 H (fun g1 H=>gE 5) fun g1 H=>?_;exact gE 5
def OY(fu:Nat)(pu c1:aA):J Bool:=some (aA.eq pu c1)
theorem ajA(fu:Nat)(pu:aA)(c1:aA)(r:Bool)(H:OY fu pu c1=some r):cM prog 104 [(aA.pv pu),.ptr 0 0] ⟨[some ⟨30,cF c1⟩],[]⟩ (fun q t=>q=(pB r)∧t=⟨[some ⟨30,cF c1⟩],[]⟩):=by
 refine qJ func104 H (fun C hC H=>?_)
 refine gQ 2 ?_;refine q1 (fQ (cF pu)) ?_;refine gQ 4 ?_;refine q1 (b4 [pI pu.aFw,pS pu.aFs,aV pu.aFt]) (q1 (b4 [pI c1.aFw,pS c1.aFs,aV c1.aFt]) (q1 (bJ func95 (FD pu c1)) ?_))
 exact gE 2
def rW(fu:Nat)(ps:Z aA)(c1_0:aA):Nat→Unit→J (LR Unit Int):=fun i1 _=>bd (OY fu (aR ps i1) c1_0) fun x5=>sw x5 (some (.ret (i1:Int))) (some (.next ()))
def j0(fu:Nat)(ps:Z aA)(c1_0:aA):J Int:=so (loopN (rW fu ps c1_0) (ps.length-0) 0 ()) fun _=>some (-1)
theorem AV(fu:Nat)(ps:Z aA)(c1_0:aA)(r:Int)(H:j0 fu ps c1_0=some r):cM prog 150 [aV ps,.fn 104 [.ptr 0 0]] ⟨[some ⟨30,cF c1_0⟩],[]⟩ (fun q t=>q=(pI r)∧t=⟨[some ⟨30,cF c1_0⟩],[]⟩):=by
 refine qJ func150 H (fun C hC H=>?_)
 refine gQ 11 ?_;refine gV 0 (aA.tl _) (fun hl2=>?_)
 try dsimp only at hl2
 refine bV (σ:=Unit) (fun i1 _=>⟨[(0,aV ps),(1,.fn 104 [.ptr 0 0]),(4,pI 0),(7,pN ps.length),(8,pN i1)],⟨[some ⟨30,cF c1_0⟩],[]⟩⟩) (fun _=>⟨[(4,pI 0)],⟨[some ⟨30,cF c1_0⟩],[]⟩⟩) (fA H) ?_ ?_
 ·rintro i1 ⟨⟩ H
  refine gQ 5 ?_;refine cZ H (fun h3 h3l H=>?_) (fun h3 H=>?_)
  ·refine gQ 14 ?_;refine q1 (gZ (aA.cs (aR ps i1))) (bN H fun x5 z4 H=>(q1 (vO (pre:=⟨[some ⟨30,cF c1_0⟩],[]⟩) (st':=⟨[some ⟨30,cF c1_0⟩],[]⟩) (ps:= [_]) (cs:= [.ptr 0 0]) (qs:= [(aA.pv (aR ps i1)),.ptr 0 0]) [0] [] rfl rfl rfl func104 (by kernel_rfl) rfl rfl rfl (lM.of ⟨⟨_,rfl,rfl,mG,rfl⟩,trivial⟩ trivial (by decide) (by decide)) mG rfl rfl rfl (ajA fu (aR ps i1) c1_0 _ z4)) (qN ?_)))
   refine bG H (fun h6 H=>gE 5) fun h6 H=>?_;exact gE 5
  exact gE 0
 rintro⟨⟩ H
 exact gE 4
def iQ(fu:Nat)(ps:Z aA)(c1_0:aA):J Bool:=bd (j0 fu ps c1_0) fun x2=>some (decide (x2≥0))
theorem xI(fu:Nat)(ps:Z aA)(c1_0:aA)(r:Bool)(H:iQ fu ps c1_0=some r):cM prog 103 [aV ps,.fn 104 [.ptr 0 0]] ⟨[some ⟨30,cF c1_0⟩],[]⟩ (fun q t=>q=(pB r)∧t=⟨[some ⟨30,cF c1_0⟩],[]⟩):=by
 refine qJ func103 H (fun C hC H=>?_)
 refine gQ 8 ?_;refine bN H fun x2 z1 H=>(q1 (fO [0] [] func150 (AV fu ps c1_0 _ z1)) ?_)
 exact gE 3
def ad1(fu:Nat)(p8:LB)(p7:Z aA):Nat→((Z aK))→J (LR ((Z aK)) ((Z aK))):=fun i1 v3=>gd (i1<(p8).length) (gd (i1<(p7).length) (gd ((v3).length+(([(aK.mk (aR p8 i1) (aR p7 i1))]:Z aK)).length≤68719476736) (some (.next (v3++([(aK.mk (aR p8 i1) (aR p7 i1))]:Z aK))))))
def RH(fu:Nat)(p8:LB)(p7:Z aA):J ((Z aK)):=so (loopN (ad1 fu p8 p7) (min p8.length p7.length-0) 0 ([])) fun v3=>some v3
theorem aq2(fu:Nat)(p8:LB)(p7:Z aA)(r:(Z aK))(H:RH fu p8 p7=some r):bU prog 106 [rS p8,aV p7] (iE r):=by
 refine qJ func106 H (fun C hC H=>?_)
 refine gQ 6 ?_;refine q1 (sM ([]:Z aK)) ?_;refine gQ 9 ?_;refine q1 (rMn) ?_;refine gQ 2 ?_;refine gV 0 (b6 _) (fun hl4=>?_)
 try dsimp only at hl4
 refine bV (σ:=(Z aK)) (fun i1 v3=>⟨[(0,rS p8),(1,aV p7),(4,.nil),(5,m8 v3 0),(12,pN (min p8.length p7.length)),(13,pN i1)],⟨[],[⟨44,4,aK.trs (v3),false⟩]⟩⟩) (fun v3=>⟨[(4,.nil),(5,m8 v3 0)],⟨[],[⟨44,4,aK.trs (v3),false⟩]⟩⟩) (fA H) ?_ ?_
 ·rintro i1 v3 H
  refine gQ 5 ?_;refine cZ H (fun h5 h5l H=>?_) (fun h5 H=>?_)
  ·refine gQ 8 ?_;refine cB H fun z6 H=>(cB H fun z7 H=>(cB H fun z8 H=>(dW (dI [5] bI (dI [0] bI (dI [6] bI (dI [17,18] mU (dI [19] wH (dI [1] bI (dI [6] bI (dI [21,22] mU (dI [23] (gZ (aA.cs (aR p7 i1))) (dI [20,24] rQ ?_)))))))))))))
   refine dI [25] (iL ([(aK.mk (aR p8 i1) (aR p7 i1))]:Z aK)) (dE [16,26] (lO z8) (dI [27] bI (dN ?_)))
   exact gE 4
  exact gE 0
 rintro v3 H
 exact gE 5
abbrev DA:=bR→ByteArray→aA→(List aA)→Option Int
def RR(m:DA):Prop:= ∀(pA:bR) (p5:Y) (p6:aA) (pC:Z aA) (r:Int),m pA p5 p6 pC=some r→cM prog 51 [.ptr 0 0,pS p5,(aA.pv p6),aV pC] ⟨[some ⟨145,[aP pA.aGc.aFr,b5 pA.aFV]⟩],[]⟩ (fun q t=>q=(pI r:PV)∧t=⟨[some ⟨145,[aP pA.aGc.aFr,b5 pA.aFV]⟩],[]⟩)
def TU(fu:Nat)(p2:DA)(pA:bR)(p5:Y)(p6:aA)(pC:Z aA):J (Int⊕Unit):=sw (decide (p6.aFw=2)) (bd (H9 fu p6.aFs) fun x3=>sw x3 (sw (decide ((p6.aFt.length:Int)=0)) (some (.inl 0)) (some (.inr ()))) (some (.inr ()))) (some (.inr ()))
def ad5(fu:Nat)(p2:DA)(pA:bR)(p5:Y)(p6:aA)(pC:Z aA)(x7:Int)(x10:aO)(x11:Int)(x12 x17:Bool)(x21:Int)(x24:Z aK)(i27:Nat):Nat→Unit→J (LR Unit (LR Unit Int)):=fun i31 _=>gd (s3 x24) (gd (gO (aR ((aR x10.aFx i27).aFN) i31)) (bd (p2 pA p5 (mN x24 (aR ((aR x10.aFx i27).aFN) i31)) (pC++([p6]:Z aA))) fun x36=>sw (!decide (x36=0)) (some (.ret (.ret x36))) (some (.next ()))))
def ad4(fu:Nat)(p2:DA)(pA:bR)(p5:Y)(p6:aA)(pC:Z aA)(x7:Int)(x10:aO)(x11:Int)(x12 x17:Bool)(x21:Int)(x24:Z aK):Nat→Unit→J (LR Unit Int):=fun i27 _=>so (loopN (ad5 fu p2 pA p5 p6 pC x7 x10 x11 x12 x17 x21 x24 i27) (((aR x10.aFx i27).aFN).length-0) 0 ()) fun _=>some (.next ())
def RQ(fu:Nat)(p2:DA)(pA:bR)(p5:Y)(p6:aA)(pC:Z aA):J Int:=so (TU fu p2 pA p5 p6 pC) fun _=>bd (nZ fu pA.aFV (aD.mk p5 p6)) fun x7=>sw (decide (x7≥0)) (some 0) (bd (XP fu pA.aGc p6.aFs) fun(x10,x11,x12)=>sw (!decide (p6.aFw=2)) (some 1) (sw (!(x12)) (some 1) (sw (!decide ((x10.aFH.length:Int)=(p6.aFt.length:Int))) (some 1) (bd (iQ fu pC p6) fun x17=>sw x17 (some 0) (sw (decide ((pC.length:Int)>30)) (some 3) (bd (n0 fu p6) fun x21=>sw (decide (x21>400)) (some 3) (bd (RH fu x10.aFH p6.aFt) fun x24=>gd ((pC).length≤68719476735) (gd ((pC).length+(([p6]:Z aA)).length≤68719476736) (so (loopN (ad4 fu p2 pA p5 p6 pC x7 x10 x11 x12 x17 x21 x24) (x10.aFx.length-0) 0 ()) fun _=>some 0)))))))))
theorem ajB(fu:Nat)(p2:DA)(pH:RR p2):RR (RQ fu p2):=by
 intro pA p5 p6 pC r H
 refine qJ func51 H (fun C hC H=>?_)
 refine gQ 2 ?_;refine q1 (fQ (cF p6)) ?_;refine gQ 3 ?_;refine qY (σ:=Unit) (fun _=>⟨[(0,.ptr 0 0),(1,pS p5),(3,aV pC),(6,.ptr 1 0),(8,pI 0)],⟨[some ⟨145,[aP pA.aGc.aFr,b5 pA.aFV]⟩,some ⟨30,cF p6⟩],[]⟩⟩) (fA H) (fun H=>?_) ?_
 ·refine gQ 6 ?_;refine dY 22 H (fun g1 H=>?_) fun g1 H=>?_
  ·refine gQ 2 ?_;refine bN H fun x3 z2 H=>(qg g1 (bJ func100 (acG fu p6.aFs _ z2)) ?_)
   refine gQ 2 ?_;refine dY 27 H (fun g4 H=>?_) fun g4 H=>?_
   ·refine gQ 6 ?_;refine bG H (fun h5 H=>gE 4) fun h5 H=>?_;exact gE 1
   exact gE 8
  exact gE 13
 rintro⟨⟩ H
 refine gQ 2 ?_;refine bN H fun x7 z6 H=>(dW (dI [0] bI (dI [33] wZ (dI [34] bW (dD [35] eG (dI [1] bI (dD [6] (b4 [pI p6.aFw,pS p6.aFs,aV p6.aFt]) (dI [37,38] rQ (dI [36,39] (bJ func101 (C5 fu pA.aFV (aD.mk p5 p6) _ z6)) (dI [40] rGe (dN ?_)))))))))))
 refine bG H (fun h8 H=>gE 4) fun h8 H=>?_;refine gQ 2 ?_;refine J9 H fun x10 x11 x12 z9 H=>(dW (dI [0] bI (dI [43] wZ (dI [44] bW (dB [45] 0 1 (BG [aP pA.aGc.aFr]) (dI [6] bW (dB [47] 0 1 tP (dI [46,48] (bJ func102 (atL fu pA.aGc p6.aFs _ z9)) (dI [49] bI ?_)))))))))
 iterate 3 refine dI [42] rEx ?_
 refine dE [] tAl (iW [9,50] hY (dI [51] bI (dI [52] bI (dN ?_))))
 refine gQ 7 ?_;refine dY 56 H (fun g13 H=>gE 18) fun g13 H=>?_;refine gQ 4 ?_;refine dY 60 H (fun g14 H=>gE 14) fun g14 H=>?_;refine gQ 9 ?_;refine bG H (fun h15 H=>gE 4) fun h15 H=>?_;refine gQ 5 ?_;refine q1 rMf (bN H fun x17 z16 H=>(q1 (fO [1] [] func103 (xI fu pC p6 _ z16)) (qN ?_)))
 refine bG H (fun h18 H=>gE 4) fun h18 H=>?_;refine gQ 8 ?_;refine dY 75 H (fun g19 H=>gE 10) fun g19 H=>?_;refine qg g19 (b4 [pI p6.aFw,pS p6.aFs,aV p6.aFt]) (bN H fun x21 z20 H=>(qg g19 (bJ func105 (afV fu p6 _ z20)) ?_))
 refine gQ 3 ?_;refine bG H (fun h22 H=>gE 4) fun h22 H=>?_;refine gQ 7 ?_;refine bN H fun x24 z23 H=>(q1 (bJ func106 (aq2 fu x10.aFH p6.aFt _ z23)) ?_)
 refine gQ 3 ?_;refine cB H fun z25 H=>(cB H fun z26 H=>(dW (dI [3] bI (dE [85] (WT (B:= []) (R:=fun k=>jO pC k) (ps:= [_]) (qs:= [aV pC]) func107 (fun k k'=>Mv.acc) (aiY pC z25)) (dB [6] 0 1 (BG [pI p6.aFw,pS p6.aFs,aV p6.aFt]) (dI [87] (iL ([p6]:Z aA)) (dE [86,88] (lO z26) (dI [89] bI (dN ?_)))))))))
 refine gQ 8 ?_;refine gV 91 (aE.tl _) (fun hl28=>?_)
 try dsimp only at hl28
 refine bV (σ:=Unit) (fun i27 _=>⟨[(0,.ptr 0 0),(1,pS p5),(8,pI 0),(12,iE x24),(13,jO (pC++([p6]:Z aA)) 0),(91,eB x10.aFx),(92,pN x10.aFx.length),(93,pN i27)],⟨[some ⟨145,[aP pA.aGc.aFr,b5 pA.aFV]⟩,some ⟨30,cF p6⟩,some ⟨39,kO x10⟩],[⟨30,3,aA.trs (pC++([p6]:Z aA)),false⟩]⟩⟩) (fun _=>⟨[(8,pI 0)],⟨[some ⟨145,[aP pA.aGc.aFr,b5 pA.aFV]⟩,some ⟨30,cF p6⟩,some ⟨39,kO x10⟩],[⟨30,3,aA.trs (pC++([p6]:Z aA)),false⟩]⟩⟩) (fA H) ?_ ?_
 ·rintro i27 ⟨⟩ H
  refine gQ 5 ?_;refine cZ H (fun h29 h29l H=>?_) (fun h29 H=>?_)
  ·refine gQ 6 ?_;refine q1 (gZ (aE.cs (aR x10.aFx i27))) ?_;refine gQ 7 ?_;refine acJ 98 (aA.tl _) (fun hl30=>?_)
   try dsimp only at hl30
   refine gQ 3 ?_;refine bV (σ:=Unit) (fun i31 _=>⟨[(0,.ptr 0 0),(1,pS p5),(8,pI 0),(12,iE x24),(13,jO (pC++([p6]:Z aA)) 0),(15,.ptr 3 0),(91,eB x10.aFx),(92,pN x10.aFx.length),(93,pN i27),(94,pB (decide ((i27:Int)<(x10.aFx.length:Int)))),(95,.eptr (aE.cs (aR x10.aFx i27))),(96,(aE.pv (aR x10.aFx i27))),(97,.ptr 3 1),(98,aV ((aR x10.aFx i27).aFN)),(99,pN (((aR x10.aFx i27).aFN).length)),(100,pN i31)],⟨[some ⟨145,[aP pA.aGc.aFr,b5 pA.aFV]⟩,some ⟨30,cF p6⟩,some ⟨39,kO x10⟩,some ⟨46,[pS ((aR x10.aFx i27).aFs),aV ((aR x10.aFx i27).aFN)]⟩],[⟨30,3,aA.trs (pC++([p6]:Z aA)),false⟩]⟩⟩) (fun _=>⟨[(0,.ptr 0 0),(1,pS p5),(8,pI 0),(12,iE x24),(13,jO (pC++([p6]:Z aA)) 0),(15,.ptr 3 0),(91,eB x10.aFx),(92,pN x10.aFx.length),(93,pN i27),(94,pB (decide ((i27:Int)<(x10.aFx.length:Int)))),(95,.eptr (aE.cs (aR x10.aFx i27))),(96,(aE.pv (aR x10.aFx i27))),(97,.ptr 3 1),(98,aV ((aR x10.aFx i27).aFN)),(99,pN (((aR x10.aFx i27).aFN).length))],⟨[some ⟨145,[aP pA.aGc.aFr,b5 pA.aFV]⟩,some ⟨30,cF p6⟩,some ⟨39,kO x10⟩,some ⟨46,[pS ((aR x10.aFx i27).aFs),aV ((aR x10.aFx i27).aFN)]⟩],[⟨30,3,aA.trs (pC++([p6]:Z aA)),false⟩]⟩⟩) (fA H) ?_ ?_
   ·rintro i31 ⟨⟩ H
    refine gQ 5 ?_;refine cZ H (fun h32 h32l H=>?_) (fun h32 H=>?_)
    ·refine gQ 6 ?_;refine q1 (gZ (aA.cs (aR ((aR x10.aFx i27).aFN) i31))) ?_;refine gQ 8 ?_;refine q1 (b4 [pI ((aR ((aR x10.aFx i27).aFN) i31).aFw),pS ((aR ((aR x10.aFx i27).aFN) i31).aFs),aV ((aR ((aR x10.aFx i27).aFN) i31).aFt)]) (cB H fun z33 H=>(cB H fun z34 H=>(q1 (bJ func16 (adX x24 (aR ((aR x10.aFx i27).aFN) i31) z33 z34)) (q1 bI (bN H fun x36 z35 H=>(q1 (fO [0] [] func51 (pH pA p5 (mN x24 (aR ((aR x10.aFx i27).aFN) i31)) (pC++([p6]:Z aA)) _ z35)) ?_))))))
     refine gQ 7 ?_;refine bG H (fun h37 H=>?_) (fun h37 H=>?_)
     ·refine gQ 5 ?_;refine dR.ret ?_
      obtain rfl:_=r:=(lkR (skL (lkR (tO H))):)
      exact SX
     exact gE 5
    exact gE 0
   rintro⟨⟩ H
   exact gE 4
  exact gE 0
 rintro⟨⟩ H
 exact gE 4
def tC:Nat→bR→Y→aA→(Z aA)→J Int
 |0,_,_,_,_=>none
 |fu+1,pA,p5,p6,pC=>RQ fu (tC fu) pA p5 p6 pC
theorem amY(fu:Nat):RR (tC fu):=by
 induction fu with
 |zero=>exact(fun pA p5 p6 pC r H=>by simp only [tC] at H;cases H)
 |succ fu ih=>exact(fun pA p5 p6 pC r H=>by simp only [tC] at H;exact ajB fu (tC fu) ih pA p5 p6 pC r H)
theorem aq7(fu:Nat):RR (tC fu):=(amY fu)
abbrev wC:=aH→(List aJ)→aD→Int→Option (aC×Int)
abbrev yX:=aH→(List aJ)→aD→Int→Option (aC×Int)
def AN(m:wC):Prop:= ∀(p8:aH) (p1:Z aJ) (p5:aD) (pA:Int) (r:aC×Int),m p8 p1 p5 pA=some r→bU prog 62 [(aH.pv p8),b5 p1,(aD.pv p5),pI pA] (.tup [(aC.pv r.1),pI r.2]:PV)
def I4(m:yX):Prop:= ∀(p8:aH) (p1:Z aJ) (p5:aD) (pA:Int) (r:aC×Int),m p8 p1 p5 pA=some r→bU prog 122 [(aH.pv p8),b5 p1,(aD.pv p5),pI pA] (.tup [(aC.pv r.1),pI r.2]:PV)
def E4(fu:Nat)(p2:wC)(p3:yX)(p8:aH)(p1:Z aJ)(p5:aD)(pA:Int):J (aC×Int):=bd (mA fu p1 p5) fun x2=>sw (decide (x2≥0)) (gd (0≤x2∧x2.toNat<(p1).length) (lt (aR p1 (x2.toNat)) fun y5=>bd (kP fu (aC.mk 2 y5.aF7 (aF.mk 0 0) []) y5.aF8) fun x8=>some (x8,0))) (sw (decide (pA≤0)) (some ((aC.mk 0 0 (aF.mk 0 0) []),3)) (bd (sG fu p8 p5.aFz) fun(x11,x12,x13)=>sw (x11.aF1) (bd (lL fu p8 p1 p5 ([])) fun x16=>sw (!decide (x16=0)) (some ((aC.mk 0 0 (aF.mk 0 0) []),x16)) (some ((aC.mk 5 0 (aF.mk 0 0) []),0))) (sw (decide (p5.aFu.aFw=1)) (some ((aC.mk 0 0 (aF.mk 0 0) []),1)) (sw (decide (p5.aFu.aFw=3)) (some ((aC.mk 0 0 (aF.mk 0 0) []),1)) (sw (decide (p5.aFu.aFw=4)) (bd (oJ fu p8 p5.aFu.aFs p5.aFz) fun(x22,x23)=>sw x23 (bd (kP fu (aC.mk 4 0 (aF.mk 0 0) []) x22) fun x26=>some (x26,0)) (bd (p3 p8 p1 p5 pA) fun(x28,x29)=>some (x28,x29))) (bd (p3 p8 p1 p5 pA) fun(x31,x32)=>some (x31,x32)))))))
theorem aa9(fu:Nat)(p2:wC)(p3:yX)(pC:AN p2)(p9:I4 p3):AN (E4 fu p2 p3):=by
 intro p8 p1 p5 pA r H
 refine qJ func62 H (fun C hC H=>?_)
 refine gQ 2 ?_;refine q1 (fQ ([aP p8.aFr])) (q1 (fQ (b8 p5)) ?_)
 refine gQ 6 ?_;refine q1 (b4 [pS p5.aFz,pI p5.aFu.aFw,pS p5.aFu.aFs,aV p5.aFu.aFt]) (bN H fun x2 z1 H=>(q1 (bJ func14 (vC fu p1 p5 _ z1)) ?_))
 refine gQ 8 ?_;refine bG H (fun h3 H=>?_) (fun h3 H=>?_)
 ·refine qS (cB H fun z4 H=>(gM H fun y5 h6 H=>(bN H fun x8 z7 H=>(dW (dI [1] bI (dI [10] bI (dI [22,23] (rIm h6 z4 aw8.h) (dI [24] xE (dI [25] wH (dI [26] rQ (dI [1] bI (dI [10] bI (dI [28,29] (rIm h6 z4 aw8.h) ?_)))))))))))))
  refine dI [30] xE (dI [31] wH (dI [27,32] (bJ func120 (AF fu (aC.mk 2 y5.aF7 (aF.mk 0 0) []) y5.aF8 _ z7)) (iW [8,33] hY (dI [] bI (dN ?_)))))
  exact gE 0
 refine gQ 7 ?_;refine bG H (fun h9 H=>gE 6) fun h9 H=>?_;refine gQ 3 ?_;refine q1 (b4 [aP p8.aFr]) ?_;refine gQ 2 ?_;refine J9 H fun x11 x12 x13 z10 H=>(q1 (bJ func121 (DX fu p8 p5.aFz _ z10)) ?_)
 refine gQ 15 ?_;refine bG H (fun h14 H=>?_) (fun h14 H=>?_)
 ·refine gQ 2 ?_;refine q1 (b4 [aP p8.aFr]) (q1 bI (q1 (b4 [pS p5.aFz,pI p5.aFu.aFw,pS p5.aFu.aFs,aV p5.aFu.aFt]) (q1 (sM ([]:Z aA)) (bN H fun x16 z15 H=>(q1 (bJ func52 (ak2 fu p8 p1 p5 ([]) _ z15)) ?_)))))
  refine gQ 8 ?_;refine bG H (fun h17 H=>gE 7) fun h17 H=>?_;exact gE 7
 refine gQ 9 ?_;refine dY 61 H (fun g18 H=>gE 13) fun g18 H=>?_;refine gQ 6 ?_;refine bG H (fun h19 H=>gE 6) fun h19 H=>?_;refine gQ 9 ?_;refine bG H (fun h20 H=>?_) (fun h20 H=>?_)
 ·refine gQ 2 ?_;refine q1 (b4 [aP p8.aFr]) ?_;refine gQ 5 ?_;refine eX H fun x22 x23 z21 H=>(q1 (bJ func58 (DO fu p8 p5.aFu.aFs p5.aFz _ z21)) ?_)
  refine gQ 10 ?_;refine bG H (fun h24 H=>?_) (fun h24 H=>?_)
  ·refine gQ 4 ?_;refine bN H fun x26 z25 H=>(q1 (bJ func120 (AF fu (aC.mk 4 0 (aF.mk 0 0) []) x22 _ z25)) ?_)
   exact gE 3
  refine gQ 3 ?_;refine q1 (b4 [aP p8.aFr]) (q1 bI (q1 (b4 [pS p5.aFz,pI p5.aFu.aFw,pS p5.aFu.aFs,aV p5.aFu.aFt]) (q1 bI (eX H fun x28 x29 z27 H=>(q1 (bJ func122 (p9 p8 p1 p5 pA _ z27)) ?_)))))
  exact gE 5
 refine gQ 3 ?_;refine q1 (b4 [aP p8.aFr]) (q1 bI (q1 (b4 [pS p5.aFz,pI p5.aFu.aFw,pS p5.aFu.aFs,aV p5.aFu.aFt]) (q1 bI (eX H fun x31 x32 z30 H=>(q1 (bJ func122 (p9 p8 p1 p5 pA _ z30)) ?_)))))
 exact gE 5
def V5(fu:Nat)(p2:wC)(p3:yX)(p8:aH)(p1:Z aJ)(p5:aD)(pA:Int)(x2:aF)(x3:Int)(y6:aN)(y9:aL):Nat→((Z aC))→J (LR ((Z aC)) (aC×Int)):=fun i13 v15=>gd (s3 (kJ y9.aFJ p5.aFu)) (gd (gO ((aR y9.aFL i13).aFu)) (bd (p2 p8 p1 (aD.mk ((aR y9.aFL i13).aFz) (mN (kJ y9.aFJ p5.aFu) ((aR y9.aFL i13).aFu))) (bB (pA-1))) fun(x21,x22)=>sw (!decide (x22=0)) (some (.ret ((aC.mk 0 0 (aF.mk 0 0) []),x22))) (gd ((v15).length+(([x21]:Z aC)).length≤68719476736) (some (.next (v15++([x21]:Z aC)))))))
def P4(fu:Nat)(p2:wC)(p3:yX)(p8:aH)(p1:Z aJ)(p5:aD)(pA:Int):J (aC×Int):=bd (sY fu p8 p5) fun(x2,x3)=>sw (!decide (x3=0)) (some ((aC.mk 0 0 (aF.mk 0 0) []),x3)) (gd (0≤x2.aFF∧(x2.aFF).toNat<(p8.aFr).length) (lt (aR p8.aFr ((x2.aFF).toNat)) fun y6=>gd (0≤x2.aFS∧(x2.aFS).toNat<(y6.aFG).length) (lt (aR y6.aFG ((x2.aFS).toNat)) fun y9=>gd (aX (aA.tr y9.aFJ)≤68719476735) (gd (gO p5.aFu) (so (loopN (V5 fu p2 p3 p8 p1 p5 pA x2 x3 y6 y9) (y9.aFL.length-0) 0 ([])) fun v15=>some ((aC.mk 1 0 x2 v15),0))))))
theorem adE(fu:Nat)(p2:wC)(p3:yX)(pC:AN p2)(p9:I4 p3):I4 (P4 fu p2 p3):=by
 intro p8 p1 p5 pA r H
 refine qJ func122 H (fun C hC H=>?_)
 refine gQ 2 ?_;refine q1 (fQ ([aP p8.aFr])) (q1 (fQ (b8 p5)) ?_)
 refine gQ 5 ?_;refine q1 (b4 [aP p8.aFr]) (q1 (b4 [pS p5.aFz,pI p5.aFu.aFw,pS p5.aFu.aFs,aV p5.aFu.aFt]) (eX H fun x2 x3 z1 H=>(q1 (bJ func160 (PN fu p8 p5 _ z1)) ?_)))
 refine gQ 13 ?_;refine bG H (fun h4 H=>gE 7) fun h4 H=>?_;refine gQ 2 ?_;refine cB H fun z5 H=>(gM H fun y6 h7 H=>(cB H fun z8 H=>(gM H fun y9 h10 H=>(dW (dI [4] bW (dB [29] 0 1 tP (dI [10] bW (dB [31] 0 1 tP (dI [30,32] (rIm h7 z5 aqP.h) (dI [33] xE (dI [34] wH (dI [10] bW (dB [36] 0 1 tP ?_)))))))))))))
 refine dI [35,37] (rIm h10 z8 aiU.h) (dI [38] (gZ (aL.cs y9)) (dE [] tAl (iW [12,39] hY (dN ?_))))
 refine gQ 3 ?_;refine q1 (b4 [pI y9.aFJ.aFw,pS y9.aFJ.aFs,aV y9.aFJ.aFt]) (q1 bW (q1 (b4 [pI p5.aFu.aFw,pS p5.aFu.aFs,aV p5.aFu.aFt]) (cB H fun z11 H=>(cB H fun z12 H=>(q1 (bJ func161 (arM y9.aFJ p5.aFu z11 z12)) ?_)))))
 refine gQ 8 ?_;refine q1 (b4 [pI x2.aFF,pI x2.aFS]) ?_;refine gQ 9 ?_;refine kC (eY (k:=5) (j:=4) 55 5 (by decide) rfl rfl) ?_;refine dR.fact (cP 4 5 rfl rfl rfl (aD.tl _)) (fun hl16=>?_)
 try dsimp only at hl16
 refine bV (σ:=(Z aC)) (fun i13 v15=>⟨[(1,b5 p1),(3,pI pA),(4,.ptr 0 0),(8,.ptr 2 0),(9,pI 0),(12,.ptr 4 0),(13,iE (kJ y9.aFJ p5.aFu)),(15,.ptr 5 0),(16,pN i13)],⟨[some ⟨26,[aP p8.aFr]⟩,some ⟨32,b8 p5⟩,some ⟨55,[pI 0,pI 0,pI 0,pI 0,.nil]⟩,some ⟨52,[pI x2.aFF,pI x2.aFS]⟩,some ⟨163,eO y9⟩,some ⟨55,[pI 1,pI 0,pI x2.aFF,pI x2.aFS,cS v15 0]⟩],[⟨55,5,aC.trs (v15),false⟩]⟩⟩) (fun v15=>⟨[(8,.ptr 2 0),(9,pI 0),(15,.ptr 5 0)],⟨[some ⟨26,[aP p8.aFr]⟩,some ⟨32,b8 p5⟩,some ⟨55,[pI 0,pI 0,pI 0,pI 0,.nil]⟩,some ⟨52,[pI x2.aFF,pI x2.aFS]⟩,some ⟨163,eO y9⟩,some ⟨55,[pI 1,pI 0,pI x2.aFF,pI x2.aFS,cS v15 0]⟩],[⟨55,5,aC.trs (v15),false⟩]⟩⟩) (fA H) ?_ ?_
 ·rintro i13 v15 H
  refine gQ 9 ?_;refine cZ H (fun h17 h17l H=>?_) (fun h17 H=>?_)
  ·refine gQ 4 ?_;refine cB H fun z18 H=>(cB H fun z19 H=>(eX H fun x21 x22 z20 H=>(dW (dB [4] 0 1 (BG [aP p8.aFr]) (dI [1] bI (dI [12] bW (dB [60] 0 1 tP (dI [16] bI (dI [61,62] mU (dI [63] xE (dI [64] wH (dI [13] bI (dI [12] bW ?_)))))))))))))
   refine dB [67] 0 1 tP (dI [16] bI (dI [68,69] mU (dI [70] xE (dI [71] (gZ (aA.cs ((aR y9.aFL i13).aFu))) (dI [66,72] (bJ func110 (aeG (kJ y9.aFJ p5.aFu) ((aR y9.aFL i13).aFu) z18 z19)) (dI [65,73] rQ (dI [3] bI (dI [75] rSw (dI [58,59,74,76] (bJ func62 (pC p8 p1 (aD.mk ((aR y9.aFL i13).aFz) (mN (kJ y9.aFJ p5.aFu) ((aR y9.aFL i13).aFu))) (bB (pA-1)) _ z20)) (dI [77] bI ?_))))))))))
   iterate 2 refine dI [57] rEx ?_
   refine dE [] tAl (iW [17,78] hY (dI [79] bI (dN ?_)))
   refine gQ 6 ?_;refine bG H (fun h23 H=>gE 7) fun h23 H=>?_;refine gQ 4 ?_;refine q1 (b4 [pI x21.aFw,pI x21.aGa,pI x21.aFS.aFF,pI x21.aFS.aFS,bK x21.aFt]) (q1 (iL ([x21]:Z aC)) (cB H fun z24 H=>(q1 (lO z24) ?_)))
   exact gE 8
  exact gE 0
 rintro v15 H
 refine gQ 2 ?_;refine q1 (b4 [pI 1,pI 0,pI x2.aFF,pI x2.aFS,cS v15 0]) ?_;exact gE 3
mutual
def jY:Nat→aH→(Z aJ)→aD→Int→J (aC×Int)
 |0,_,_,_,_=>none
 |fu+1,p8,p1,p5,pA=>E4 fu (jY fu) (rP fu) p8 p1 p5 pA
def rP:Nat→aH→(Z aJ)→aD→Int→J (aC×Int)
 |0,_,_,_,_=>none
 |fu+1,p8,p1,p5,pA=>P4 fu (jY fu) (rP fu) p8 p1 p5 pA
end
theorem adF(fu:Nat):AN (jY fu)∧I4 (rP fu):=by
 induction fu with
 |zero=>exact⟨(fun p8 p1 p5 pA r H=>by simp only [jY] at H;cases H),(fun p8 p1 p5 pA r H=>by simp only [rP] at H;cases H)⟩
 |succ fu ih=>exact⟨(fun p8 p1 p5 pA r H=>by simp only [jY] at H;exact aa9 fu (jY fu) (rP fu) ih.1 ih.2 p8 p1 p5 pA r H),(fun p8 p1 p5 pA r H=>by simp only [rP] at H;exact adE fu (jY fu) (rP fu) ih.1 ih.2 p8 p1 p5 pA r H)⟩
theorem ahC(fu:Nat):AN (jY fu):=(adF fu).1
abbrev yA:=bR→aD→Int→Option (aC×Int)
def L7(m:yA):Prop:= ∀(p7:bR) (p1:aD) (p0:Int) (r:aC×Int),m p7 p1 p0=some r→cM prog 61 [.ptr 0 0,(aD.pv p1),pI p0] ⟨[some ⟨145,[aP p7.aGc.aFr,b5 p7.aFV]⟩],[]⟩ (fun q t=>q=(.tup [(aC.pv r.1),pI r.2]:PV)∧t=⟨[some ⟨145,[aP p7.aGc.aFr,b5 p7.aFV]⟩],[]⟩)
def ZQ(fu:Nat)(p4:yA)(p7:bR)(p1:aD)(p0 x2:Int):J ((aC×Int)⊕(Y×(LB)×Bool×Bool×(Z aG))):=bd (GP fu p7.aGc p1.aFz) fun(x16,x17,x18)=>sw x18 (sw (x16.aF1) (bd (tC fu p7 p1.aFz p1.aFu ([])) fun x22=>sw (!decide (x22=0)) (some (.inl ((aC.mk 0 0 (aF.mk 0 0) []),x22))) (some (.inl ((aC.mk 5 0 (aF.mk 0 0) []),0)))) (some (.inr (x16.aFs,x16.aFD,x16.aF1,x16.aFR,x16.aFQ)))) (some (.inr (x16.aFs,x16.aFD,x16.aF1,x16.aFR,x16.aFQ)))
def O0(fu:Nat)(p4:yA)(p7:bR)(p1:aD)(p0 x2:Int)(v10:Y)(v11:LB)(v12 v13:Bool)(v14:Z aG):J (((aC×Int)⊕Unit)⊕Bool):=sw (decide (p1.aFu.aFw=1)) (some (.inr (decide (p1.aFu.aFw=1)))) (some (.inr (decide (p1.aFu.aFw=3))))
def OZ(fu:Nat)(p4:yA)(p7:bR)(p1:aD)(p0 x2:Int)(v10:Y)(v11:LB)(v12 v13:Bool)(v14:Z aG):J ((aC×Int)⊕Unit):=so (O0 fu p4 p7 p1 p0 x2 v10 v11 v12 v13 v14) fun v24=>sw (v24) (some (.inl ((aC.mk 0 0 (aF.mk 0 0) []),1))) (sw (decide (p1.aFu.aFw=4)) (bd (l8 fu p7.aGc p1.aFu.aFs p1.aFz) fun(x29,x30)=>sw x30 (bd (iY fu (aC.mk 4 0 (aF.mk 0 0) []) x29) fun x33=>some (.inl (x33,0))) (some (.inr ()))) (some (.inr ())))
def ZS(fu:Nat)(p4:yA)(p7:bR)(p1:aD)(p0 x2:Int)(v10:Y)(v11:LB)(v12 v13:Bool)(v14:Z aG)(x35:aF)(x36:Int)(x39:aL)(x40:Bool):Nat→((Z aC))→J (LR ((Z aC)) (aC×Int)):=fun i43 v45=>gd (s3 (kJ x39.aFJ p1.aFu)) (gd (gO ((aR x39.aFL i43).aFu)) (bd (p4 p7 (aD.mk ((aR x39.aFL i43).aFz) (mN (kJ x39.aFJ p1.aFu) ((aR x39.aFL i43).aFu))) (bB (p0+1))) fun(x51,x52)=>sw (!decide (x52=0)) (some (.ret ((aC.mk 0 0 (aF.mk 0 0) []),x52))) (gd ((v45).length+(([x51]:Z aC)).length≤68719476736) (some (.next (v45++([x51]:Z aC)))))))
def L6(fu:Nat)(p4:yA)(p7:bR)(p1:aD)(p0:Int):J (aC×Int):=bd (nZ fu p7.aFV p1) fun x2=>sw (decide (x2≥0)) (gd (0≤x2∧x2.toNat<(p7.aFV).length) (lt (aR p7.aFV (x2.toNat)) fun y5=>bd (iY fu (aC.mk 2 y5.aF7 (aF.mk 0 0) []) y5.aF8) fun x8=>some (x8,0))) (sw (decide (p0≥12)) (some ((aC.mk 0 0 (aF.mk 0 0) []),3)) (so (ZQ fu p4 p7 p1 p0 x2) fun(v10,v11,v12,v13,v14)=>so (OZ fu p4 p7 p1 p0 x2 v10 v11 v12 v13 v14) fun _=>bd (sU fu p7.aGc p1) fun(x35,x36)=>sw (!decide (x36=0)) (some ((aC.mk 0 0 (aF.mk 0 0) []),x36)) (bd (vT fu p7.aGc x35) fun(x39,x40)=>gd (aX (aA.tr x39.aFJ)≤68719476735) (gd (gO p1.aFu) (so (loopN (ZS fu p4 p7 p1 p0 x2 v10 v11 v12 v13 v14 x35 x36 x39 x40) (x39.aFL.length-0) 0 ([])) fun v45=>some ((aC.mk 1 0 x35 v45),0))))))
theorem af0(fu:Nat)(p4:yA)(pD:L7 p4):L7 (L6 fu p4):=by
 intro p7 p1 p0 r H
 refine qJ func61 H (fun C hC H=>?_)
 refine gQ 2 ?_;refine q1 (fQ (b8 p1)) ?_;refine gQ 5 ?_;refine bN H fun x2 z1 H=>(dW (dI [0] bI (dI [27] wZ (dI [28] bW (dD [29] eG (dD [4] (b4 [pS p1.aFz,pI p1.aFu.aFw,pS p1.aFu.aFs,aV p1.aFu.aFt]) (dI [30,31] (bJ func101 (C5 fu p7.aFV p1 _ z1)) (dI [32] bI (dN ?_)))))))))
 refine gQ 5 ?_;refine bG H (fun h3 H=>?_) (fun h3 H=>?_)
 ·refine gQ 7 ?_;refine cB H fun z4 H=>(gM H fun y5 h6 H=>(q1 (rIm h6 z4 aw8.h) (q1 (gZ (aJ.cs y5)) ?_)))
  refine gQ 10 ?_;refine bN H fun x8 z7 H=>(q1 (bJ func114 (zW fu (aC.mk 2 y5.aF7 (aF.mk 0 0) []) y5.aF8 _ z7)) ?_)
  exact gE 3
 refine gQ 7 ?_;refine bG H (fun h9 H=>gE 6) fun h9 H=>?_;refine gQ 2 ?_;refine qY (σ:=Y×(LB)×Bool×Bool×(Z aG)) (fun(v10,v11,v12,v13,v14)=>⟨[(0,.ptr 0 0),(2,pI p0),(4,.ptr 1 0),(6,.ptr 2 0),(7,pI 0)],⟨[some ⟨145,[aP p7.aGc.aFr,b5 p7.aFV]⟩,some ⟨32,b8 p1⟩,some ⟨55,[pI 0,pI 0,pI 0,pI 0,.nil]⟩,some ⟨156,[pS v10,rS v11,pB v12,pB v13,iF v14]⟩],[]⟩⟩) (fA H) (fun H=>?_) ?_
 ·refine qS (J9 H fun x16 x17 x18 z15 H=>(dW (dI [0] bI (dI [52] wZ (dI [53] bW (dB [54] 0 1 (BG [aP p7.aGc.aFr]) (dI [4] bW (dB [56] 0 1 tP (dI [55,57] (bJ func115 (TT fu p7.aGc p1.aFz _ z15)) (dI [58] bI ?_))))))))))
  iterate 3 refine dI [51] rEx ?_
  refine dE [] tAl (iW [10,59] hY (dI [60] bI (dI [61] bI (dN ?_))))
  refine gQ 4 ?_;refine dY 63 H (fun g19 H=>?_) fun g19 H=>?_
  ·refine gQ 4 ?_;refine bG H (fun h20 H=>?_) (fun h20 H=>?_)
   ·refine gQ 7 ?_;refine q1 (b4 [pI p1.aFu.aFw,pS p1.aFu.aFs,aV p1.aFu.aFt]) (bN H fun x22 z21 H=>(q1 (fO [0] [] func51 (aq7 fu p7 p1.aFz p1.aFu ([]) _ z21)) ?_))
    refine gQ 7 ?_;refine bG H (fun h23 H=>gE 7) fun h23 H=>?_;exact gE 7
   exact gE 1
  exact gE 6
 rintro⟨v10,v11,v12,v13,v14⟩ H
 refine qS ?_;refine qY (σ:=Unit) (fun _=>⟨[(0,.ptr 0 0),(2,pI p0),(4,.ptr 1 0),(6,.ptr 2 0),(7,pI 0)],⟨[some ⟨145,[aP p7.aGc.aFr,b5 p7.aFV]⟩,some ⟨32,b8 p1⟩,some ⟨55,[pI 0,pI 0,pI 0,pI 0,.nil]⟩,some ⟨156,[pS v10,rS v11,pB v12,pB v13,iF v14]⟩],[]⟩⟩) (fA H) (fun H=>?_) ?_
 ·refine gQ 8 ?_;refine qY (σ:=Bool) (fun v24=>⟨[(0,.ptr 0 0),(2,pI p0),(4,.ptr 1 0),(6,.ptr 2 0),(7,pI 0),(80,pI p1.aFu.aFw),(81,pB v24)],⟨[some ⟨145,[aP p7.aGc.aFr,b5 p7.aFV]⟩,some ⟨32,b8 p1⟩,some ⟨55,[pI 0,pI 0,pI 0,pI 0,.nil]⟩,some ⟨156,[pS v10,rS v11,pB v12,pB v13,iF v14]⟩],[]⟩⟩) (fA H) (fun H=>?_) ?_
  ·refine gQ 5 ?_;refine bG H (fun h25 H=>gE 1) fun h25 H=>?_;exact gE 4
  rintro v24 H
  refine bG H (fun h26 H=>gE 6) fun h26 H=>?_;refine gQ 5 ?_;refine bG H (fun h27 H=>?_) (fun h27 H=>?_)
  ·refine qS (eX H fun x29 x30 z28 H=>(dW (dI [0] bI (dI [88] wZ (dI [89] bW (dD [90] (b4 [aP p7.aGc.aFr]) (dI [4] bW (dI [92] bW (dD [93] eG (dI [4] bW (dD [95] eG (dI [91,94,96] (bJ func116 (C7 fu p7.aGc p1.aFu.aFs p1.aFz _ z28)) (dI [97] bI ?_)))))))))))))
   iterate 2 refine dI [87] rEx ?_
   refine dI [98] bI (dI [99] bI (dN ?_))
   refine gQ 4 ?_;refine bG H (fun h31 H=>?_) (fun h31 H=>?_)
   ·refine gQ 4 ?_;refine bN H fun x33 z32 H=>(q1 (bJ func114 (zW fu (aC.mk 4 0 (aF.mk 0 0) []) x29 _ z32)) ?_)
    exact gE 3
   exact gE 1
  exact gE 1
 rintro⟨⟩ H
 refine qS (eX H fun x35 x36 z34 H=>(dW (dI [0] bI (dI [105] wZ (dI [106] bW (dB [107] 0 1 (BG [aP p7.aGc.aFr]) (dB [4] 0 1 (BG [pS p1.aFz,pI p1.aFu.aFw,pS p1.aFu.aFs,aV p1.aFu.aFt]) (dI [108,109] (bJ func117 (OU fu p7.aGc p1 _ z34)) (dI [110] bI ?_)))))))))
 iterate 2 refine dI [104] rEx ?_
 refine dE [] tAl (iW [16,111] hY (dI [112] bI (dN ?_)))
 refine gQ 6 ?_;refine bG H (fun h37 H=>gE 7) fun h37 H=>?_;refine gQ 2 ?_;refine eX H fun x39 x40 z38 H=>(dW (dI [0] bI (dI [118] wZ (dI [119] bW (dB [120] 0 1 (BG [aP p7.aGc.aFr]) (dB [16] 0 1 (BG [pI x35.aFF,pI x35.aFS]) (dI [121,122] (bJ func118 (BX fu p7.aGc x35 _ z38)) (dI [123] bI ?_))))))))
 iterate 2 refine dI [117] rEx ?_
 refine dE [] tAl (iW [18,124] hY (dI [125] bI (dN ?_)))
 refine gQ 3 ?_;refine q1 (b4 [pI x39.aFJ.aFw,pS x39.aFJ.aFs,aV x39.aFJ.aFt]) (q1 bW (q1 (b4 [pI p1.aFu.aFw,pS p1.aFu.aFs,aV p1.aFu.aFt]) (cB H fun z41 H=>(cB H fun z42 H=>(q1 (bJ func119 (aqX x39.aFJ p1.aFu z41 z42)) ?_)))))
 refine gQ 8 ?_;refine q1 (b4 [pI x35.aFF,pI x35.aFS]) ?_;refine gQ 12 ?_;refine kC (eY (k:=6) (j:=4) 55 5 (by decide) rfl rfl) ?_;refine gV 137 (aD.tl _) (fun hl46=>?_)
 try dsimp only at hl46
 refine bV (σ:=(Z aC)) (fun i43 v45=>⟨[(0,.ptr 0 0),(2,pI p0),(6,.ptr 2 0),(7,pI 0),(20,iE (kJ x39.aFJ p1.aFu)),(22,.ptr 6 0),(137,b0 x39.aFL),(138,pN x39.aFL.length),(139,pN i43)],⟨[some ⟨145,[aP p7.aGc.aFr,b5 p7.aFV]⟩,some ⟨32,b8 p1⟩,some ⟨55,[pI 0,pI 0,pI 0,pI 0,.nil]⟩,some ⟨156,[pS v10,rS v11,pB v12,pB v13,iF v14]⟩,some ⟨52,[pI x35.aFF,pI x35.aFS]⟩,some ⟨163,eO x39⟩,some ⟨55,[pI 1,pI 0,pI x35.aFF,pI x35.aFS,cS v45 0]⟩],[⟨55,5,aC.trs (v45),false⟩]⟩⟩) (fun v45=>⟨[(6,.ptr 2 0),(7,pI 0),(22,.ptr 6 0)],⟨[some ⟨145,[aP p7.aGc.aFr,b5 p7.aFV]⟩,some ⟨32,b8 p1⟩,some ⟨55,[pI 0,pI 0,pI 0,pI 0,.nil]⟩,some ⟨156,[pS v10,rS v11,pB v12,pB v13,iF v14]⟩,some ⟨52,[pI x35.aFF,pI x35.aFS]⟩,some ⟨163,eO x39⟩,some ⟨55,[pI 1,pI 0,pI x35.aFF,pI x35.aFS,cS v45 0]⟩],[⟨55,5,aC.trs (v45),false⟩]⟩⟩) (fA H) ?_ ?_
 ·rintro i43 v45 H
  refine gQ 5 ?_;refine cZ H (fun h47 h47l H=>?_) (fun h47 H=>?_)
  ·refine gQ 6 ?_;refine q1 (gZ (aD.cs (aR x39.aFL i43))) ?_;refine gQ 4 ?_;refine cB H fun z48 H=>(cB H fun z49 H=>(eX H fun x51 x52 z50 H=>(dWa (dI [0] bI (dI [24] bW (dBz [145] 0 0 tP (dI [20] bI (dI [24] bW (dBz [148] 0 0 (BG [pI (((aR x39.aFL i43).aFu).aFw),pS (((aR x39.aFL i43).aFu).aFs),aV (((aR x39.aFL i43).aFu).aFt)]) (dI [147,149] (bJ func16 (adX (kJ x39.aFJ p1.aFu) ((aR x39.aFL i43).aFu) z48 z49)) (dI [146,150] rQ (dI [2] bI (dI [152] rAw ?_)))))))))))))
   refine dEz [144,151,153] (fun _ z=>by cases z<;>exact fO [0] [] func61 (pD p7 (aD.mk ((aR x39.aFL i43).aFz) (mN (kJ x39.aFJ p1.aFu) ((aR x39.aFL i43).aFu))) (bB (p0+1)) _ z50)) ?_;refine dI [154] bI ?_
   iterate 2 refine dI [143] rEx ?_
   refine dA (fun _ st h=>vAl h aBu.h) (dZ 25 [25,155] hY (dI [156] bI (dN ?_)))
   refine gQ 6 ?_;refine bG H (fun h53 H=>gE 7) fun h53 H=>?_;refine gQ 4 ?_;refine q1 (b4 [pI x51.aFw,pI x51.aGa,pI x51.aFS.aFF,pI x51.aFS.aFS,bK x51.aFt]) (q1 (iL ([x51]:Z aC)) (cB H fun z54 H=>(q1 (lO z54) ?_)))
   exact gE 7
  exact gE 0
 rintro v45 H
 refine gQ 2 ?_;refine q1 (b4 [pI 1,pI 0,pI x35.aFF,pI x35.aFS,cS v45 0]) ?_;exact gE 3
def qD:Nat→bR→aD→Int→J (aC×Int)
 |0,_,_,_=>none
 |fu+1,p7,p1,p0=>L6 fu (qD fu) p7 p1 p0
theorem ajC(fu:Nat):L7 (qD fu):=by
 induction fu with
 |zero=>exact(fun p7 p1 p0 r H=>by simp only [qD] at H;cases H)
 |succ fu ih=>exact(fun p7 p1 p0 r H=>by simp only [qD] at H;exact af0 fu (qD fu) ih p7 p1 p0 r H)
theorem amZ(fu:Nat):L7 (qD fu):=(ajC fu)
def aaS(fu:Nat)(pw:aH)(p6:Z aD)(pg:aD):J (aC×Int):=bd (w5 fu pw p6) fun x2=>bd (jY fu pw x2 pg 12) fun(x4,x5)=>some (x4,x5)
theorem arO(fu:Nat)(pw:aH)(p6:Z aD)(pg:aD)(r:aC×Int)(H:aaS fu pw p6 pg=some r):bU prog 19 [(aH.pv pw),b0 p6,(aD.pv pg)] (.tup [(aC.pv r.1),pI r.2]):=by
 refine qJ func19 H (fun C hC H=>?_)
 refine gQ 2 ?_;refine q1 (fQ ([aP pw.aFr])) (q1 (fQ (b8 pg)) ?_)
 refine gQ 4 ?_;refine bN H fun x2 z1 H=>(eX H fun x4 x5 z3 H=>(dW ?_))
 iterate 2 refine dD [3] (b4 [aP pw.aFr]) ?_
 refine dI [1] bI (dI [9,10] (bJ func15 (W2 fu pw p6 _ z1)) (dD [5] (b4 [pS pg.aFz,pI pg.aFu.aFw,pS pg.aFu.aFs,aV pg.aFu.aFt]) (dI [8,11,12] (bJ func62 (ahC fu pw x2 pg 12 _ z3)) ?_)))
 iterate 2 refine dI [13] rEx ?_
 refine iW [6,14] hY (dI [15] bI (dN ?_))
 exact gE 0
def ZF(fu:Nat)(pw:aH)(p6:Z aD)(pg:aD):J (aC×Int):=gd (NV pw p6) (bd (qD fu (bR.mk pw (M3 pw p6)) pg 0) fun(x3,x4)=>some (x3,x4))
theorem aq0(fu:Nat)(pw:aH)(p6:Z aD)(pg:aD)(r:aC×Int)(H:ZF fu pw p6 pg=some r):bU prog 18 [(aH.pv pw),b0 p6,(aD.pv pg)] (.tup [(aC.pv r.1),pI r.2]):=by
 refine qJ func18 H (fun C hC H=>?_)
 refine gQ 2 ?_;refine q1 (fQ ([aP pw.aFr])) (q1 (fQ (b8 pg)) ?_)
 refine gQ 4 ?_;refine cB H fun z1 H=>(eX H fun x3 x4 z2 H=>(dW (dD [3] (b4 [aP pw.aFr]) (dI [1] bI (dE [8,9] (VE (ps:= [_,_]) rfl rfl func50 (by kernel_rfl) rfl rfl mG rfl rfl (af6 pw p6 z1)) (dB [5] 0 1 (BG [pS pg.aFz,pI pg.aFu.aFw,pS pg.aFu.aFs,aV pg.aFu.aFt]) (dE [10,11] (fO [3] [] func61 (amZ fu (bR.mk pw (M3 pw p6)) pg 0 _ z2)) ?_)))))))
 iterate 2 refine dI [12] rEx ?_
 refine iW [6,13] hY (dI [14] bI (dN ?_))
 exact gE 0
end
end Go.Proofs.YtfcoaagbccmahaaGreat.W
namespace Go.Proofs.YtfcoaagbccmahaaGreat.W
attribute [local irreducible] lt
open Go.RowKit Go.Proofs
def gT(w:aH)(g:aD):Z aF:=(gA w).filter fun o=>s7 w g o
def AU(w:aH)(l:Z aF)(o:aF):Bool:=l.any fun p=>GV (cT w p).aFJ (cT w o).aFJ
def FK(w:aH)(g:aD)(o:aF):aF×Int:=bif ((cT w o).aFX&& !eH g.aFu) then(.mk 0 0,2) else(o,0)
def gY(w:aH)(g:aD):aF×Int:=match(gT w g).find? (fun o=> !AU w (gT w g) o) with
 |some o=>FK w g o
 |none=>(.mk 0 0,1)
theorem F2{w:aH}{g:aD}{o:aF}(h:o∈gT w g):wS w o:=XT (List.mem_filter.1 h).1
theorem aeR{α β:Type}{p:α→Bool}{r:α→β}{l:Z α}{m:J (β⊕Unit)}{f:Unit→J β}(hm:m=some (match l.find? p with|some x=> .inl (r x)|none=> .inr ())){b:β}(hf:f ()=some b):so m f=some (match l.find? p with|some x=>r x|none=>b):=by
 cases hq:l.find? p with
 |none=>
  rw [hq] at hm
  exact soR hm hf
 |some x=>
  rw [hq] at hm
  exact soL hm
theorem ao5{α:Type}(q:α→Bool): ∀(l:Z α) (b:Bool),l.foldl (fun v x=>v&& !q x) b=(b&& !l.any q)
 | [],b=>by simp
 |a::l,b=>by
  rw [List.foldl_cons,ao5 q l,List.any_cons]
  cases b<;>cases q a<;>simp
theorem XN{β:Type}{w:aH}{o:aF}(h:wS w o){f:aN→aL→J β}{z:J β}(k: ∀p,f p (cT w o)=z):gd (0≤o.aFF∧(o.aFF).toNat<(w.aFr).length) (lt (aR w.aFr ((o.aFF).toNat)) (fun y=>gd (0≤o.aFS∧(o.aFS).toNat<(y.aFG).length) (lt (aR y.aFG ((o.aFS).toNat)) (fun z=>f y z))))=z:=by
 obtain⟨p,q,rfl,hp,hq⟩:=h
 exact f7 ⟨by show(0:Int)≤p;omega,by show((p:Nat):Int).toNat<_;omega⟩ (SW rfl (f7 ⟨by show(0:Int)≤q;omega,by show((q:Nat):Int).toNat<(aR w.aFr p).aFG.length;omega⟩ (SW rfl (k _))))
section
variable {fu:Nat} {w:aH} (hw:wt w≤13000000) {g:aD} (hg:gO g.aFu)
include hw hg
theorem arL(hf:13000000<fu):nK fu w g=some (gT w g):=by
 have hl:=YQ hw
 have hr:=RZ (fun o=> !s7 w g o) (gA w) (gA w).length 0 rfl
 rw [List.drop_zero] at hr
 simp only [Bool.not_not] at hr
 have h:=yG (F:=rE fu w g (gA w)) (n:=(gA w).length) (g:=fun i=>bif !s7 w g (aR (gA w) i) then [] else [aR (gA w) i]) (M:=68719476736) (fun i v hi hv=>by
  have hR:=XT (cA hi)
  unfold rE
  generalize aR (gA w) i=o at hR hv ⊢
  refine XN hR fun p=>?_
  have hB:=xQ hw hR
  unfold s7 at hv ⊢
  cases h1:decide ((cT w o).aFz=g.aFz) with
  |false=>exact iK rfl (by rw [Bool.false_and,Bool.not_false,cond_true,List.append_nil])
  |true=>
   cases h2:nM (cT w o).aFJ g.aFu with
   |false=>exact jL rfl (f7 hB (f7 hg (iK rfl (by rw [Bool.and_false,Bool.not_false,cond_true,List.append_nil]))))
   |true=>
    rw [h1,h2] at hv
    exact jL rfl (f7 hB (f7 hg (jL rfl (f7 hv rfl))))) _ 0 [] rfl (by
  rw [Nat.sub_zero,hr,List.length_nil,Nat.zero_add]
  have:=List.length_filter_le (fun o=>s7 w g o) (gA w)
  omega)
 rw [Nat.sub_zero,hr] at h
 unfold nK
 rw [avU fu w (by omega) (aH.sw_ hw hf) (fun i hi=>(aH.len_at hw i hi).2.2)]
 refine(congrArg (fun x=>so x _) h).trans rfl
omit hg in
theorem anG(i:Nat)(p:aN)(o:aF)(ho:wS w o):
 vI fu w g (gT w g) i p (cT w o)=some (.inr (!AU w (gT w g) o)):=by
 unfold vI
 rw [lZ (l:=gT w g) (g:=fun v p=>v&& !GV (cT w p).aFJ (cT w o).aFJ) (fun _ _=>True) (fun j v hj _=>⟨?_,trivial⟩) trivial,ao5,Bool.true_and]
 ·rfl
 ·have hR:=F2 (cA hj)
  unfold DN
  generalize aR (gT w g) j=r at hR ⊢
  have h1:=xQ hw hR
  have h2:=xQ hw ho
  refine XN hR fun p=>?_
  cases v with
  |true=>exact jL rfl (f7 h1 (f7 h2 rfl))
  |false=>exact iK rfl rfl
theorem avW(hf:13000000<fu):sY fu w g=some (gY w g):=by
 unfold sY
 refine iP (arL hw hg hf) ?_
 unfold gY
 refine(aeR (l:=gT w g) (p:=fun o=> !AU w (gT w g) o) (r:=FK w g) (b:=(aF.mk 0 0,1)) ?_ rfl).trans (by cases(gT w g).find? (fun o=> !AU w (gT w g) o)<;>rfl)
 refine n5 (l:=gT w g) (p:=fun o=> !AU w (gT w g) o) (r:=FK w g) (fun i hi=>?_)
 have hR:=F2 (cA hi)
 unfold DM FK
 generalize aR (gT w g) i=o at hR ⊢
 refine XN hR fun p=>?_;refine soR (anG hw i p o hR) ?_
 unfold DL
 cases AU w (gT w g) o with
 |true=>exact soR (s:=(false,false,false)) (iK rfl rfl) (iK rfl rfl)
 |false=>
  cases hd:(cT w o).aFX with
  |false=>exact soR (s:=(false,false,false)) (jL rfl (iK rfl rfl)) (jL rfl rfl)
  |true=>
   cases hgr:eH g.aFu with
   |true=>exact soR (s:=(true,true,false)) (jL rfl (jL rfl (f7 hg (iK rfl rfl)))) (jL rfl rfl)
   |false=>exact soL (jL rfl (jL rfl (f7 hg (jL rfl rfl))))
omit hg in
theorem aqY(l:Z aF)(hl: ∀p∈l,wS w p)(o:aF)(ho:wS w o):cY fu l w (cT w o)=some (AU w l o):=by
 have h1:eL fu l w (cT w o)=some (match l.findIdx? (fun p=>GV (cT w p).aFJ (cT w o).aFJ) with|some i=>((i:Nat):Int)|none=> -1):=by
  unfold eL
  rw [tG (l:=l) (p:=fun p=>GV (cT w p).aFJ (cT w o).aFJ) fun i hi=>by
   have hR:=hl _ (cA hi)
   unfold jT uB
   rw [RJ fu w _ hR]
   refine iP (f7 (xQ hw hR) (f7 (xQ hw ho) rfl)) ?_
   show sw (GV (cT w (aR l i)).aFJ (cT w o).aFJ) _ _=_
   cases GV (cT w (aR l i)).aFJ (cT w o).aFJ<;>rfl]
  cases l.findIdx? fun p=>GV (cT w p).aFJ (cT w o).aFJ<;>rfl
 unfold cY
 exact iP h1 (congrArg some TP)
theorem avE:sU fu w g=some (gY w g):=by
 unfold sU
 refine f7 hw (f7 hg ?_)
 unfold gY
 refine(aeR (l:=gT w g) (p:=fun o=> !AU w (gT w g) o) (r:=FK w g) (b:=(aF.mk 0 0,1)) ?_ rfl).trans (by cases(gT w g).find? (fun o=> !AU w (gT w g) o)<;>rfl)
 rw [show List.filter (fun o=>s7 w g o) (gA w)=gT w g from rfl]
 refine n5 (l:=gT w g) (p:=fun o=> !AU w (gT w g) o) (r:=FK w g) (fun i hi=>?_)
 have hR:=F2 (cA hi)
 unfold C6 FK
 rw [show List.filter (fun o=>s7 w g o) (gA w)=gT w g from rfl]
 generalize aR (gT w g) i=o at hR ⊢
 refine SW rfl ?_
 rw [RJ fu w o hR]
 show bd (cY fu (gT w g) w (cT w o)) _=_
 refine iP (aqY hw _ (fun p hp=>F2 hp) o hR) ?_
 show sw _ _ (sw (cT w o).aFX _ _)=_
 cases AU w (gT w g) o with
 |true=>exact jL rfl rfl
 |false=>
  refine iK rfl ?_
  cases hd:(cT w o).aFX with
  |false=>exact iK rfl rfl
  |true=>
   refine jL rfl (f7 hg ?_)
   cases hgr:eH g.aFu with
   |true=>exact iK rfl rfl
   |false=>exact jL rfl rfl
end
open Go.WalkArith
def afG(Q:aA→Prop)(R:Int→Y→Nat→Prop):Prop:= ∀k n xs,Q (.mk k n xs)↔R k n xs.length∧ ∀x∈xs,Q x
def RU(U:LB)(k:Int)(n:Y)(m:Nat):Prop:=(k=1→n∈U)∧m≤68719476735
theorem H5(U:LB):afG (Gd U) (RU U):=fun k n xs=>by
 rw [Gd,zF]
 unfold RU
 constructor
 ·rintro⟨h1,h2,h3⟩;exact⟨⟨h1,h2⟩,h3⟩
 ·rintro⟨⟨h1,h2⟩,h3⟩;exact⟨h1,h2,h3⟩
section
variable {Q:aA→Prop} {R:Int→Y→Nat→Prop}
theorem afG.args(hQ:afG Q R){t:aA}(h:Q t): ∀x∈t.aFt,Q x:=by
 obtain⟨k,n,xs⟩:=t
 exact((hQ k n xs).1 h).2
def BQ(Q:aA→Prop)(l:Z aK):Prop:= ∀b∈l,Q b.aFu
theorem BQ.nil:BQ Q []:=fun b hb=>by simp at hb
theorem ajM: ∀(ps:Z aA),(∀x∈ps,∀t s s',lF x t s=some s'→BQ Q s→Q t→BQ Q s')→ ∀ts s s',nE ps ts s=some s'→BQ Q s→(∀t∈ts,Q t)→BQ Q s'
 | [],_,ts,s,s',h,hb,_=>by
  rw [nE] at h
  obtain rfl:=Option.some.inj h
  exact hb
 |p::ps,hp,ts,s,s',h,hb,ht=>by
  cases ts with
  |nil=>simp [nE] at h
  |cons t ts=>
   rw [nE] at h
   cases hq:lF p t s with
   |none=>rw [hq] at h;cases h
   |some s1=>
    rw [hq] at h
    exact ajM ps (fun x hx=>hp x (List.mem_cons_of_mem _ hx)) ts s1 s' h (hp p (by simp) t s s1 hq hb (ht t (by simp))) (fun x hx=>ht x (List.mem_cons_of_mem _ hx))
theorem atQ(hQ:afG Q R): ∀(p t:aA) (s s':Z aK),lF p t s=some s'→BQ Q s→Q t→BQ Q s':=by
 refine aA.ind fun k n ps ih t s s' h hb ht=>?_
 rw [lF] at h
 split at h
 ·split at h
  ·split at h
   ·obtain rfl:=Option.some.inj h
    exact hb
   ·cases h
  ·obtain rfl:=Option.some.inj h
   intro b hb'
   rcases List.mem_append.1 hb' with h1|h1
   ·exact hb b h1
   ·obtain rfl:=List.mem_singleton.1 h1
    exact ht
 ·split at h
  ·split at h
   ·split at h
    ·exact ajM ps ih _ _ _ h hb (hQ.args ht)
    ·cases h
   ·cases h
  ·cases h
theorem PF(hQ:afG Q R)(p t:aA)(ht:Q t):BQ Q (kJ p t):=by
 unfold kJ
 cases hq:lF p t [] with
 |none=>exact BQ.nil
 |some s=>exact atQ hQ p t [] s hq BQ.nil ht
theorem aiQ(hQ:afG Q R){l:Z aK}(hl:BQ Q l): ∀t,Q t→Q (mN l t):=by
 refine aA.ind fun k n xs ih h=>?_
 have h1:=(hQ k n xs).1 h
 have h2:Q (.mk k n (J6 l xs)):=by
  rw [hQ,HW,List.length_map]
  refine⟨h1.1,fun y hy=>?_⟩
  obtain⟨x,hx,rfl⟩:=List.mem_map.1 hy
  exact ih x hx (h1.2 x hx)
 rw [mN]
 split
 ·split
  ·rename_i hk
   unfold KQ F1 at hk
   unfold FI F1
   cases hq:l.find? fun b=>decide (b.aF9=n) with
   |none=>rw [hq] at hk;cases hk
   |some b=>exact hl b (List.mem_of_find?_eq_some hq)
  ·exact h2
 ·exact h2
end
mutual
def szT:aA→Int
 | .mk _ _ xs=>szL 1 xs
def szL:Int→Z aA→Int
 |a,[]=>a
 |a,x::l=>szL (bB (a+szT x)) l
end
theorem abT: ∀(l:Z aA) (a:Int),szL a l=l.foldl (fun a x=>bB (a+szT x)) a
 | [],a=>rfl
 |x::l,a=>by rw [szL,abT l,List.foldl_cons]
def YU(vs:LB)(ts:Z aA):Z aK:=(List.range' 0 vs.length).map fun i=>aK.mk (aR vs i) (aR ts i)
theorem afL{Q:aA→Prop}{vs:LB}{ts:Z aA}(hl:vs.length=ts.length)(ht: ∀t∈ts,Q t):BQ Q (YU vs ts):=fun b hb=>by
 obtain⟨i,hi,rfl⟩:=List.mem_map.1 hb
 rw [List.mem_range'_1] at hi
 exact ht _ (cA (by omega))
theorem ao9{U:LB}(hU:U.length≤68719476736){l:Z aK}(h:BQ (Gd U) l):s3 l:=fun b hb=>⟨U,hU,h b hb⟩
def TA(n:Y):Bool:=decide (n=fE)||decide (n=eU)
def nW{α:Type}(f:α→Int):Z α→Int
 | []=>0
 |t::l=>if f t=0 then nW f l else f t
def vQ(w:aH)(t:aA):Bool:=decide (t.aFw=2)&&((M4 w t.aFs).2.2&&decide ((M4 w t.aFs).1.aFH.length=t.aFt.length))
def AT(b:Bool)(t:aA):Bool:=decide (t.aFw=2)&&(TA t.aFs&&(b||decide (t.aFt.length=0)))
def XH(w:aH)(t f:aA):aA:=mN (YU (M4 w t.aFs).1.aFH t.aFt) f
def s5(b:Bool)(w:aH)(l:Z aJ)(tr:Y):Nat→Z aA→aA→Int
 |0,_,_=>3
 |k+1,op,t=>
  bif AT b t then 0 else
  bif decide (wG l (.mk tr t)≥0) then 0 else
  bif !vQ w t then 1 else
  bif op.any (fun u=>aA.eq u t) then 0 else
  bif decide (30<op.length)||decide (szT t>400) then 3 else
  nW (fun c=>nW (fun f=>s5 b w l tr k (op++ [t]) (XH w t f)) (aE.aFN c)) (M4 w t.aFs).1.aFx
def zEv:aC:= .mk 0 0 (.mk 0 0) []
def ZV(out:aC)(n:Int):aC:= .mk 3 n (.mk 0 0) [out]
def ajI(x:aC)(steps:Z Int):aC:=steps.foldl ZV x
def BV(f:aD→aC×Int):Z aD→Z aC→Z aC×Int
 | [],out=>(out,0)
 |b::r,out=>if(f b).2=0 then BV f r (out++ [(f b).1]) else([],(f b).2)
def ayM(l:Z aJ)(g:aD):aC:=ajI (.mk 2 (aR l (wG l g).toNat).aF7 (.mk 0 0) []) (aR l (wG l g).toNat).aF8
def VA(w:aH)(o:aF)(g b:aD):aD:= .mk b.aFz (mN (kJ (cT w o).aFJ g.aFu) b.aFu)
def jS(b:Bool)(w:aH)(l:Z aJ):Nat→aD→aC×Int
 |0,g=>bif decide (wG l g≥0) then(ayM l g,0) else(zEv,3)
 |k+1,g=>
  bif decide (wG l g≥0) then(ayM l g,0) else
  bif (uX w g.aFz).1.aF1 then(if s5 b w l g.aFz 32 [] g.aFu=0 then(.mk 5 0 (.mk 0 0) [],0) else(zEv,s5 b w l g.aFz 32 [] g.aFu)) else
  bif decide (g.aFu.aFw=1)||decide (g.aFu.aFw=3) then(zEv,1) else
  bif decide (g.aFu.aFw=4)&&(lN w 8 g.aFu.aFs g.aFz).2 then(ajI (.mk 4 0 (.mk 0 0) []) (lN w 8 g.aFu.aFs g.aFz).1,0) else
  if(gY w g).2=0 then
   (if(BV (fun x=>jS b w l k (VA w (gY w g).1 g x)) (cT w (gY w g).1).aFL []).2=0 then
    (.mk 1 0 (gY w g).1 (BV (fun x=>jS b w l k (VA w (gY w g).1 g x)) (cT w (gY w g).1).aFL []).1,0)
   else(zEv,(BV (fun x=>jS b w l k (VA w (gY w g).1 g x)) (cT w (gY w g).1).aFL []).2))
  else(zEv,(gY w g).2)
structure WQ (Q:aA→Prop) (w:aH):Prop where
 wh: ∀o,wS w o→ ∀b∈(cT w o).aFL,Q b.aFu
 fl: ∀n,∀c∈(M4 w n).1.aFx,∀f∈c.aFN,Q f
 ac: ∀o,wS w o→Q (cT w o).aFR
def am2(x:aL):LB:=(x.aFL.flatMap fun b=>GW b.aFu)++GW x.aFR
def arF(d:aO):LB:=d.aFx.flatMap fun c=>c.aFN.flatMap GW
def acK(w:aH):LB:=w.aFr.flatMap fun p=>p.aFG.flatMap am2++p.aFB.flatMap arF
theorem C4{α β:Type}[Wt α](f:α→Z β)(h: ∀x,(f x).length≤wt x+1): ∀l:Z α,(l.flatMap f).length≤wl l
 | []=>Nat.zero_le _
 |x::l=>by
  rw [List.flatMap_cons,List.length_append,ahU]
  have:=h x
  have:=C4 f h l
  omega
theorem af7(t:aA):(GW t).length≤wt t+1:=by
 have h:=ajS t
 rw [QQ] at h
 omega
theorem ajO(w:aH):(acK w).length≤wt w:=by
 have hI: ∀x:aL,(am2 x).length≤wt x+1:=fun x=>by
  have h1:=C4 (fun b:aD=>GW b.aFu) (fun b=>by
   have:=af7 b.aFu
   have:=aD.we b
   show(GW b.aFu).length≤_
   omega) x.aFL
  have h2:=af7 x.aFR
  have h3:=aL.we x
  unfold am2
  rw [List.length_append]
  omega
 have hD: ∀d:aO,(arF d).length≤wt d+1:=fun d=>by
  have h1:=C4 (fun c:aE=>c.aFN.flatMap GW) (fun c=>by
   have h2:=C4 GW af7 c.aFN
   have:=aE.we c
   show(c.aFN.flatMap GW).length≤_
   omega) d.aFx
  have:=aO.we d
  unfold arF
  omega
 have h:=C4 (fun p:aN=>p.aFG.flatMap am2++p.aFB.flatMap arF) (fun p=>by
  have h1:=C4 am2 hI p.aFG
  have h2:=C4 arF hD p.aFB
  have:=aN.we p
  show(p.aFG.flatMap am2++p.aFB.flatMap arF).length≤_
  rw [List.length_append]
  omega) w.aFr
 have:=aH.we w
 unfold acK
 omega
theorem apB(w:aH)(n:Y):(M4 w n).1=aO.mk s_ [] []∨ ∃p∈w.aFr,(M4 w n).1∈p.aFB:=by
 unfold M4
 cases hq:(List.range' 0 w.aFr.length).findSome? (dQ w n) with
 |none=>exact .inl rfl
 |some r=>
  obtain⟨i,hi,hq⟩:=List.exists_of_findSome?_eq_some hq
  unfold dQ at hq
  obtain⟨k,hk,hq⟩:=List.exists_of_findSome?_eq_some hq
  rw [List.mem_range'_1] at hi hk
  split at hq
  ·cases hq
   exact .inr ⟨_,cA (by omega:i<w.aFr.length),cA (by omega:k<(aR w.aFr i).aFB.length)⟩
  ·cases hq
theorem ZN{w:aH}{o:aF}(h:wS w o): ∃p∈w.aFr,cT w o∈p.aFG:=by
 obtain⟨i,k,rfl,hi,hk⟩:=h
 exact⟨_,cA hi,cA (l:=(aR w.aFr i).aFG) hk⟩
theorem WQ.of{Q:aA→Prop}{w:aH}(hI: ∀p∈w.aFr,∀x∈p.aFG,(∀b∈x.aFL,Q b.aFu)∧Q x.aFR)(hD: ∀p∈w.aFr,∀d∈p.aFB,∀c∈d.aFx,∀f∈c.aFN,Q f):WQ Q w where
 wh:=fun o ho=>by obtain⟨p,hp,hx⟩:=ZN ho;exact(hI p hp _ hx).1
 fl:=fun n c hc f hf=>by
  rcases apB w n with h|⟨p,hp,hd⟩
  ·rw [h] at hc;simp at hc
  ·exact hD p hp _ hd c hc f hf
 ac:=fun o ho=>by obtain⟨p,hp,hx⟩:=ZN ho;exact(hI p hp _ hx).2
theorem alQ{w:aH}(hw:wt w≤13000000){V:LB}:WQ (Gd (acK w++V)) w:=by
 have key: ∀t:aA,wt t≤13000000→(∀n∈GW t,n∈acK w)→Gd (acK w++V) t:=fun t ht hn=>
  (Gd.own t (by rw [QQ];omega)).mono (fun n h=>List.mem_append_left _ (hn n h)) t
 have hP: ∀p∈w.aFr,wt p≤13000000:=fun p hp=>by
  have:=aH.we w
  have:=FU hp
  omega
 refine WQ.of (fun p hp x hx=>?_) (fun p hp d hd c hc f hf=>?_)
 ·have h1:=hP p hp
  have h2:=aN.we p
  have h3:=FU hx
  have h4:=aL.we x
  have hin: ∀n∈am2 x,n∈acK w:=fun n hn=>List.mem_flatMap.2 ⟨p,hp,List.mem_append_left _ (List.mem_flatMap.2 ⟨x,hx,hn⟩)⟩
  refine⟨fun b hb=>key _ ?_ fun n hn=>hin n (List.mem_append_left _ (List.mem_flatMap.2 ⟨b,hb,hn⟩)),key _ (by omega) fun n hn=>hin n (List.mem_append_right _ hn)⟩
  have h5:=FU hb
  have h6:=aD.we b
  omega
 ·have h1:=hP p hp
  have h2:=aN.we p
  have h3:=FU hd
  have h4:=aO.we d
  have h5:=FU hc
  have h6:=aE.we c
  have h7:=FU hf
  refine key _ (by omega) fun n hn=>List.mem_flatMap.2 ⟨p,hp,List.mem_append_right _ (List.mem_flatMap.2 ⟨d,hd,List.mem_flatMap.2 ⟨c,hc,List.mem_flatMap.2 ⟨f,hf,hn⟩⟩⟩)⟩
theorem aoW{Q:aA→Prop}{R:Int→Y→Nat→Prop}(hQ:afG Q R){w:aH}(hW:WQ Q w){o:aF}(ho:wS w o){g b:aD}(hg:Q g.aFu)(hb:b∈(cT w o).aFL):Q (VA w o g b).aFu:=
 aiQ hQ (PF hQ _ _ hg) _ (hW.wh o ho b hb)
theorem auK{Q:aA→Prop}{R:Int→Y→Nat→Prop}(hQ:afG Q R){w:aH}(hW:WQ Q w){t:aA}(ht:Q t)(hc:vQ w t=true){c:aE}(hm:c∈(M4 w t.aFs).1.aFx){f:aA}(hf:f∈c.aFN):Q (XH w t f):=by
 unfold vQ at hc
 rw [Bool.and_eq_true,Bool.and_eq_true,decide_eq_true_eq,decide_eq_true_eq] at hc
 exact aiQ hQ (afL hc.2.2 (hQ.args ht)) _ (hW.fl _ c hm f hf)
theorem MJ{w:aH}{g:aD}(h:(gY w g).2=0):wS w (gY w g).1:=by
 unfold gY at h ⊢
 cases hq:(gT w g).find? fun o=> !AU w (gT w g) o with
 |none=>rw [hq] at h;cases h
 |some o=>
  rw [hq] at h
  show wS w (FK w g o).1
  replace h:(FK w g o).2=0:=h
  unfold FK at h ⊢
  cases hp:(cT w o).aFX&& !eH g.aFu with
  |true=>rw [hp] at h;cases h
  |false=>exact F2 (List.mem_of_find?_eq_some hq)
open Tryz
theorem R7: ∀t:aA,eK fun fu=>oM fu t=some (szT t):=by
 refine aA.ind fun k n xs ih=>?_;refine bY ((jI ih).imp fun fu hf=>?_)
 simp only [oM,K0,aA.aFt.eq_1]
 rw [lZ (l:=xs) (g:=fun a x=>bB (a+szT x)) (fun _ _=>True) (fun i s hi _=>⟨?_,trivial⟩) trivial,szT,abT]
 ·rfl
 ·rw [R6]
  exact iP (hf _ (cA hi)) rfl
theorem RF: ∀t:aA,eK fun fu=>n0 fu t=some (szT t):=by
 refine aA.ind fun k n xs ih=>?_;refine bY ((jI ih).imp fun fu hf=>?_)
 simp only [n0,KH,aA.aFt.eq_1]
 rw [lZ (l:=xs) (g:=fun a x=>bB (a+szT x)) (fun _ _=>True) (fun i s hi _=>⟨?_,trivial⟩) trivial,szT,abT]
 ·rfl
 ·rw [RE]
  exact iP (hf _ (cA hi)) rfl
mutual
def CW:aC→Prop
 | .mk _ _ _ xs=>xs.length≤68719476735∧ah6 xs
def ah6:Z aC→Prop
 | []=>True
 |x::l=>CW x∧ah6 l
end
theorem adV: ∀ {l:Z aC},ah6 l↔ ∀x∈l,CW x
 | []=>by simp [ah6]
 |a::l=>by rw [ah6,adV (l:=l)];simp
theorem QR{k n:Int}{o:aF}{xs:Z aC}:CW (.mk k n o xs)↔xs.length≤68719476735∧ ∀x∈xs,CW x:=by rw [CW,adV]
theorem l7{k n:Int}{o:aF}:CW (.mk k n o []):=QR.2 ⟨by simp,by simp⟩
theorem LY: ∀ {l:Z Int} {e:aC},CW e→CW (ajI e l)
 | [],e,h=>h
 |n::l,e,h=>LY (l:=l) (e:=ZV e n) (QR.2 ⟨by simp,fun x hx=>by rw [List.mem_singleton.1 hx];exact h⟩)
theorem IF{α β:Type}[Inhabited α]{f:Nat→Z α→J (LR (Z α) β)}{l:Z α}(hs: ∀i,i<l.length→(l.take i).length=i→f i (l.take i)=some (.next (l.take i++ [aR l i]))):loopN f (l.length-0) 0 []=some (.inr l):=by
 have key: ∀k i,l.length-i=k→i≤l.length→loopN f k i (l.take i)=some (.inr l):=by
  intro k
  induction k with
  |zero=>
   intro i hk hi
   rw [loopN,List.take_of_length_le (by omega)]
  |succ k ih=>
   intro i hk hi
   have h:i<l.length:=by omega
   rw [loopN,hs i h (by rw [List.length_take];omega),← LI h]
   exact ih (i+1) (by omega) (by omega)
 exact key _ 0 (by omega) (Nat.zero_le _)
theorem aaB{fu:Nat}{xs:Z aC}(hl:xs.length≤68719476735)(hf: ∀x∈xs,lK fu x=some x):kL (fu+1) xs=some xs:=by
 simp only [kL,I0]
 rw [IF (l:=xs) fun i hi hn=>?_]
 ·rfl
 ·rw [N6]
  exact iP (hf _ (cA hi)) (f7 (by rw [hn];simp;omega) rfl)
theorem GY: ∀e:aC,CW e→eK fun fu=>lK fu e=some e:=by
 refine aC.ind fun k n o xs ih h=>?_
 rw [QR] at h
 refine bY (bY ((jI fun x hx=>ih x hx (h.2 x hx)).imp fun fu hf=>?_))
 simp only [lK,P0]
 exact iP (aaB h.1 hf) rfl
theorem aaA{xs:Z aC}(hl:xs.length≤68719476735)(h: ∀x∈xs,CW x):eK fun fu=>kL fu xs=some xs:=
 bY ((jI fun x hx=>GY x (h x hx)).imp fun fu hf=>aaB hl hf)
theorem Y6{fu:Nat}{xs:Z aC}(hl:xs.length≤68719476735)(hf: ∀x∈xs,eZ fu x=some x):fU (fu+1) xs=some xs:=by
 simp only [fU,xX]
 refine f7 (by omega) ?_
 rw [IF (l:=xs) fun i hi hn=>?_]
 ·exact f7 rfl rfl
 ·rw [EG]
  exact iP (hf _ (cA hi)) (f7 hn.symm rfl)
theorem GJ: ∀e:aC,CW e→eK fun fu=>eZ fu e=some e:=by
 refine aC.ind fun k n o xs ih h=>?_
 rw [QR] at h
 refine bY (bY ((jI fun x hx=>ih x hx (h.2 x hx)).imp fun fu hf=>?_))
 simp only [eZ,AY]
 exact iP (Y6 h.1 hf) rfl
theorem amU{xs:Z aC}(hl:xs.length≤68719476735)(h: ∀x∈xs,CW x):eK fun fu=>fU fu xs=some xs:=
 bY ((jI fun x hx=>GJ x (h x hx)).imp fun fu hf=>Y6 hl hf)
def F3(e:aC):Int×Int×Int×Int×Z aC:=(e.aFw,e.aGa,e.aFS.aFF,e.aFS.aFS,e.aFt)
theorem QS(e:aC):aC.mk (F3 e).1 (F3 e).2.1 (.mk (F3 e).2.2.1 (F3 e).2.2.2.1) (F3 e).2.2.2.2=e:=by
 obtain⟨k,n,⟨p,a⟩,xs⟩:=e
 rfl
theorem aeA{β:Type}{f:Nat→(Int×Int×Int×Int×Z aC)→J (LR (Int×Int×Int×Int×Z aC) β)}{l:Z Int}(hs: ∀i e,i<l.length→f i (F3 e)=some (.next (F3 (ZV e (aR l i)))))(e:aC):loopN f (l.length-0) 0 (F3 e)=some (.inr (F3 (ajI e l))):=by
 have key: ∀k i e,l.length-i=k→i≤l.length→loopN f k i (F3 e)=some (.inr (F3 (ajI e (l.drop i)))):=by
  intro k
  induction k with
  |zero=>
   intro i e hk hi
   rw [loopN,List.drop_of_length_le (by omega)]
   rfl
  |succ k ih=>
   intro i e hk hi
   have h:i<l.length:=by omega
   rw [loopN,hs i e h,s8 h]
   exact ih (i+1) _ (by omega) (by omega)
 have:=key _ 0 e rfl (Nat.zero_le _)
 rwa [List.drop_zero] at this
theorem aaJ{fu:Nat}{e:aC}(h:lK fu e=some e)(l:Z Int):kP fu e l=some (ajI e l):=by
 unfold kP
 refine iP h ?_
 rw [show(e.aFw,e.aGa,e.aFS.aFF,e.aFS.aFS,e.aFt)=F3 e from rfl,aeA (l:=l) fun i e' hi=>by rw [AE,QS];rfl]
 exact congrArg some (QS _)
theorem Y9{fu:Nat}{e:aC}(h:eZ fu e=some e)(l:Z Int):iY fu e l=some (ajI e l):=by
 unfold iY
 refine iP h ?_
 rw [show(e.aFw,e.aGa,e.aFS.aFF,e.aFS.aFS,e.aFt)=F3 e from rfl,aeA (l:=l) fun i e' hi=>by rw [zV,QS];rfl]
 exact congrArg some (QS _)
mutual
def xH:aC→aC→Bool
 | .mk k n o xs,y=>decide (k=y.aFw)&&(decide (n=y.aGa)&&((decide (o.aFF=y.aFS.aFF)&&decide (o.aFS=y.aFS.aFS))&&C3 xs y.aFt))
def C3:Z aC→Z aC→Bool
 | [],ys=>ys.isEmpty
 |x::xs,ys=>match ys with
  | []=>false
  |y::ys=>xH x y&&C3 xs ys
end
theorem TF: ∀ {l r:Z aC},C3 l r=true→l.length=r.length
 | [],[],_=>rfl
 | [],_::_,h=>by simp [C3] at h
 |_::_,[],h=>by simp [C3] at h
 |a::l,b::r,h=>by
  simp only [C3,Bool.and_eq_true] at h
  simp [TF h.2]
theorem VN: ∀ {l r:Z aC},l.length=r.length→C3 l r=(List.range l.length).all fun i=>xH (aR l i) (aR r i)
 | [],[],_=>rfl
 | [],_::_,h=>by simp at h
 |_::_,[],h=>by simp at h
 |a::l,b::r,h=>by
  rw [C3,List.length_cons,List.range_succ_eq_map,List.all_cons,List.all_map,VN (l:=l) (r:=r) (by simpa using h)]
  rfl
theorem YZ: ∀(l:Z aC),(∀x∈l,xH x x=true)→C3 l l=true
 | [],_=>rfl
 |a::l,h=>by rw [C3,h a (by simp),YZ l fun x hx=>h x (List.mem_cons_of_mem _ hx)];rfl
theorem adU: ∀e:aC,xH e e=true:=by
 refine aC.ind fun k n o xs ih=>?_
 rw [xH,aC.aFt.eq_1,YZ xs ih]
 simp
theorem aiV{β:Type}{F:Nat→Unit→J (LR Unit Bool)}{xs ys:Z aC}(hl:xs.length=ys.length)(hs: ∀i,i<xs.length→F i ()=some (if xH (aR xs i) (aR ys i) then .next () else .ret false)):so (loopN F (xs.length-0) 0 ()) (fun _=>some true)=some (C3 xs ys):=by
 have:=EI (l:=List.range xs.length) (f:=F) (p:=fun i=>xH (aR xs i) (aR ys i)) (r:=false) (s:=()) fun i hi=>by
  have hi':i<xs.length:=by simpa using hi
  rw [LT hi',hs i hi']
  cases xH (aR xs i) (aR ys i)<;>rfl
 rw [List.length_range] at this
 rw [this,VN hl]
 cases(List.range xs.length).all fun i=>xH (aR xs i) (aR ys i)<;>rfl
theorem at6: ∀a b:aC,eK fun fu=>fW fu a b=some (xH a b):=by
 refine aC.ind fun k n o xs ih b=>?_;refine bY (bY ((eK.below (k:=xs.length) (P:=fun i fu=>fW fu (aR xs i) (aR b.aFt i)=some (xH (aR xs i) (aR b.aFt i))) fun i hi=>ih _ (cA hi) _).imp fun fu hf=>?_))
 have hS:o7 (fu+1) xs b.aFt=some (C3 xs b.aFt):=by
  simp only [o7,P3]
  by_cases hl:xs.length=b.aFt.length
  ·refine iK (by simp [hl]) (aiV (β:=Bool) hl fun i hi=>?_)
   rw [V1]
   refine f7 (by omega) (iP (hf i hi) ?_)
   cases xH (aR xs i) (aR b.aFt i)<;>rfl
  ·cases hq:C3 xs b.aFt with
   |true=>exact absurd (TF hq) hl
   |false=>exact jL (by simp;omega) rfl
 rw [fW,xH]
 unfold yM
 show sw (decide (k=b.aFw)) (sw (decide (n=b.aGa)) (sw (decide (o.aFF=b.aFS.aFF)&&decide (o.aFS=b.aFS.aFS)) (bd (o7 (fu+1) xs b.aFt) _) _) _) _=_
 by_cases h1:k=b.aFw
 ·rw [decide_eq_true h1,Bool.true_and]
  refine jL rfl ?_
  by_cases h2:n=b.aGa
  ·rw [decide_eq_true h2,Bool.true_and]
   refine jL rfl ?_
   by_cases h3:o.aFF=b.aFS.aFF∧o.aFS=b.aFS.aFS
   ·rw [decide_eq_true h3.1,decide_eq_true h3.2,Bool.true_and,Bool.true_and]
    exact jL rfl (iP hS rfl)
   ·have h4:(decide (o.aFF=b.aFS.aFF)&&decide (o.aFS=b.aFS.aFS))=false:=by
     rw [Bool.and_eq_false_iff,decide_eq_false_iff_not,decide_eq_false_iff_not]
     exact Classical.not_and_iff_not_or_not.1 h3
    rw [h4,Bool.false_and]
    exact iK rfl rfl
  ·rw [decide_eq_false h2,Bool.false_and]
   exact iK rfl rfl
 ·rw [decide_eq_false h1,Bool.false_and]
  exact iK rfl rfl
structure asS (l:List aC):Prop where
 n:l.length≤68719476735
 v: ∀x∈l,CW x
theorem aj0(a b:aC):bU prog 20 [(aC.pv a),(aC.pv b)] (.t (.leaf (.bool (xH a b)))):=by
 obtain⟨fu,h⟩:=(at6 a b).get
 exact R1 fu a b _ h
theorem aeH(e:aC)(h:CW e):bU prog 129 [(aC.pv e)] (aC.pv e):=by
 obtain⟨fu,h⟩:=(GY e h).get
 exact V0 fu e _ h
theorem aqW(e:aC)(h:CW e):bU prog 80 [(aC.pv e)] (aC.pv e):=by
 obtain⟨fu,h⟩:=(GJ e h).get
 exact GM fu e _ h
theorem ai2(l:Z aC)(h:asS l):bU prog 77 [bK l] (.lit 5 (aC.trs l)):=by
 obtain⟨fu,h⟩:=(amU h.n h.v).get
 exact RI fu l _ h
attribute [local irreducible] M4
theorem aaD(fu:Nat)(a b:aD):w6 fu a b=some (aD.eq a b):=by
 obtain⟨n,x⟩:=a
 obtain⟨m,y⟩:=b
 unfold w6
 rw [aD.eq,LU]
 show sw (decide (n=m)) (some (aA.eq x y)) (some false)=_
 cases decide (n=m)<;>rfl
theorem Evt_succ'{P:Nat→Prop}(h:eK P):eK fun n=>P (n+1):=by
 obtain⟨a,h⟩:=h
 exact⟨a,fun n hn=>h (n+1) (by omega)⟩
theorem UE(fu:Nat)(l:Z aJ)(g:aD):mA fu l g=some (wG l g):=by
 unfold mA wG
 rw [tG (p:=fun a=>aD.eq a.aFZ g) (fun i hi=>by
  unfold DG
  refine SW rfl ?_
  rw [aaD]
  show sw (aD.eq (aR l i).aFZ g) _ _=_
  cases aD.eq (aR l i).aFZ g<;>rfl)]
 cases l.findIdx? fun a=>aD.eq a.aFZ g<;>rfl
theorem XM{l:Z aJ}{g:aD}(h:wG l g≥0):(wG l g).toNat<l.length:=by
 unfold wG at h ⊢
 cases hq:l.findIdx? fun a=>aD.eq a.aFZ g with
 |none=>rw [hq] at h;exact absurd h (by decide)
 |some i=>
  rw [List.findIdx?_eq_some_iff_getElem] at hq
  exact hq.1
theorem QP{α β:Type}[Inhabited α]{f:α→Int}{l:Z α}{F:Nat→Unit→J (LR Unit β)}(g:Int→β)(hs: ∀i,i<l.length→F i ()=some (if f (aR l i)=0 then .next () else .ret (g (f (aR l i))))):loopN F (l.length-0) 0 ()=some (if nW f l=0 then .inr () else .inl (g (nW f l))):=by
 have key: ∀k i,l.length-i=k→loopN F k i ()=some (if nW f (l.drop i)=0 then .inr () else .inl (g (nW f (l.drop i)))):=by
  intro k
  induction k with
  |zero=>
   intro i hk
   rw [loopN,List.drop_of_length_le (by omega)]
   rfl
  |succ k ih=>
   intro i hk
   have h:i<l.length:=by omega
   rw [loopN,hs i h,s8 h,nW]
   by_cases h0:f (aR l i)=0
   ·rw [if_pos h0,if_pos h0]
    exact ih (i+1) (by omega)
   ·rw [if_neg h0,if_neg h0,if_neg h0]
 have:=key _ 0 rfl
 rwa [List.drop_zero] at this
theorem auI{x:Int}:so (some (if x=0 then(.inr ():Int⊕Unit) else .inl x)) (fun _=>some 0)=some x:=by
 by_cases h:x=0
 ·rw [if_pos h,h];rfl
 ·rw [if_neg h];rfl
theorem apR{x:Int}:so (some (if x=0 then(.inr ():(LR Unit Int)⊕Unit) else .inl (.ret x))) (fun _=>some (.next ()))=some (if x=0 then(.next ():LR Unit Int) else .ret x):=by
 by_cases h:x=0
 ·rw [if_pos h,if_pos h];rfl
 ·rw [if_neg h,if_neg h];rfl
theorem auN{x:Int}:sw (!decide (x=0)) (some (.ret (.ret x))) (some (.next ()))=some (if x=0 then(.next ():LR Unit (LR Unit Int)) else .ret (.ret x)):=by
 by_cases h:x=0
 ·rw [if_pos h];exact iK (by simp [h]) rfl
 ·rw [if_neg h];exact jL (by simp [h]) rfl
theorem sw3{α:Type}{b1 b2 b3 c:Bool}{x y z:α}(h:(b1&&(b2&&b3))=c)(k:(bif !c then x else y)=z):sw (!b1) x (sw (!b2) x (sw (!b3) x y))=z:=by
 subst h
 rw [← k]
 cases b1<;>cases b2<;>cases b3<;>rfl
theorem afM(w:aH)(t:aA):(decide ((t.aFw:Int)=2)&&((M4 w t.aFs).2.2&&decide ((((M4 w t.aFs).1.aFH.length:Nat):Int)=((t.aFt.length:Nat):Int))))=vQ w t:=
 congrArg (fun b=>decide (t.aFw=2)&&((M4 w t.aFs).2.2&&b)) (decide_eq_decide.2 Int.ofNat_inj)
theorem adS{β:Type}{vs:LB}{ts:Z aA}(hv:vs.length≤68719476736){F:Nat→Z aK→J (LR (Z aK) β)}(hs: ∀i v,i<vs.length→v.length+1≤68719476736→F i v=some (.next (v++ [aK.mk (aR vs i) (aR ts i)]))):loopN F (vs.length-0) 0 []=some (.inr (YU vs ts)):=by
 have h:=GU (F:=F) (g:=fun i=>aK.mk (aR vs i) (aR ts i)) (n:=vs.length) (M:=68719476736) hs (vs.length-0) 0 [] rfl (by rw [List.length_nil];omega)
 rw [List.nil_append] at h
 exact h
theorem aqU(fu:Nat){vs:LB}{ts:Z aA}(hl:vs.length=ts.length)(hv:vs.length≤68719476736):RH fu vs ts=some (YU vs ts):=by
 unfold RH
 rw [show min vs.length ts.length=vs.length by omega,adS (ts:=ts) hv fun i v hi hn=>by
  unfold ad1
  exact f7 hi (f7 (by omega) (f7 (by simpa using hn) rfl))]
 rfl
theorem ai4(fu:Nat)(l:Z aA)(t:aA):iQ fu l t=some (l.any fun u=>aA.eq u t):=by
 have h1:j0 fu l t=some (match l.findIdx? (fun u=>aA.eq u t) with|some i=>((i:Nat):Int)|none=> -1):=by
  unfold j0
  rw [tG (l:=l) (p:=fun u=>aA.eq u t) fun i hi=>by
   unfold rW OY
   show sw (aA.eq (aR l i) t) _ _=_
   cases aA.eq (aR l i) t<;>rfl]
  cases l.findIdx? fun u=>aA.eq u t<;>rfl
 unfold iQ
 exact iP h1 (congrArg some TP)
theorem ai1(fu:Nat)(r:DA)(q:bR)(tr:Y)(t:aA)(op:Z aA):TU fu r q tr t op=some (bif AT false t then .inl 0 else .inr ()):=by
 unfold TU H9 AT TA
 rw [show decide ((((t.aFt.length:Nat):Int):Int)=0)=decide (t.aFt.length=0) from decide_eq_decide.2 (by omega)]
 cases decide (t.aFw=2)<;>cases decide (t.aFs=fE)<;>cases decide (t.aFs=eU)<;>cases decide (t.aFt.length=0)<;>rfl
theorem ajZ(fu:Nat)(r:rO)(w:aH)(l:Z aJ)(g:aD)(op:Z aA):LD fu r w l g op=some (bif AT true g.aFu then .inl 0 else bif decide (wG l g≥0) then .inl 0 else .inr ()):=by
 unfold LD CP AT TA
 rw [UE]
 cases decide (g.aFu.aFw=2)<;>cases decide (g.aFu.aFs=fE)<;>cases decide (g.aFu.aFs=eU)<;>cases h:decide (wG l g≥0)<;>simp [sw,bd,h]
section
variable {U:LB} (hU:U.length≤68719476736) {w:aH} (hw:wt w≤13000000) (hW:WQ (Gd U) w) (l:Z aJ) (tr:Y)
include hU hw hW
theorem alO{n:Y}:(M4 w n).1.aFH.length≤68719476736:=by
 have _:=hU;have _:=hW
 rcases apB w n with h|⟨p,hp,hd⟩
 ·rw [h];simp
 ·have:=aH.we w
  have:=FU hp
  have:=aN.we p
  have:=FU hd
  have:=aO.we (M4 w n).1
  have:=bE (M4 w n).1.aFH
  omega
theorem auL{M:Nat→aA→J Int}{f:aA→Int}{t:aA}(ht:Gd U t)(h: ∀x,Gd U x→eK fun fu=>M fu x=some (f x)):eK fun fu=>vQ w t=true→ ∀c∈(M4 w t.aFs).1.aFx,∀x∈c.aFN,M fu (XH w t x)=some (f (XH w t x)):=by
 have _:=hU;have _:=hw
 by_cases hc:vQ w t=true
 ·exact(jI (l:=(M4 w t.aFs).1.aFx) (P:=fun c fu=> ∀x∈c.aFN,M fu (XH w t x)=some (f (XH w t x))) fun c hm=>jI fun x hx=>h _ (auK (H5 U) hW ht hc hm hx)).imp fun fu h _=>h
 ·exact .all fun fu hk=>absurd hk hc
theorem atI: ∀(k:Nat) (op:Z aA) (t:aA),op.length+k=31→Gd U t→eK fun fu=>tC fu (bR.mk w l) tr t op=some (s5 false w l tr (k+1) op t):=by
 intro k
 induction k with
 |zero=>
  intro op t hk ht
  refine bY ((RF t).imp fun fu hs=>?_)
  rw [tC,s5]
  unfold RQ
  rw [ai1]
  cases h1:AT false t with
  |true=>rfl
  |false=>
   refine soR rfl (iP (L3 fu l _) ?_)
   cases h2:decide (wG l (.mk tr t)≥0) with
   |true=>exact jL rfl rfl
   |false=>
    refine iK rfl (iP (ai7 fu w t.aFs) (sw3 (c:=vQ w t) (afM w t) ?_))
    cases h3:vQ w t with
    |false=>rfl
    |true=>
     refine iP (ai4 fu op t) ?_
     cases h4:op.any fun u=>aA.eq u t with
     |true=>rfl
     |false=>
      rw [decide_eq_true (show 30<op.length by omega)]
      exact iK rfl (jL (decide_eq_true (by omega)) rfl)
 |succ k ih=>
  intro op t hk ht
  have hsub:=auL (w:=w) hU hw hW (M:=fun fu x=>tC fu (bR.mk w l) tr x (op++ [t])) (f:=fun x=>s5 false w l tr (k+1) (op++ [t]) x) ht fun x hx=>ih (op++ [t]) x (by rw [List.length_append,List.length_singleton];omega) hx
  refine bY (((RF t).and hsub).imp fun fu hf=>?_)
  obtain⟨hs,hf⟩:=hf
  rw [tC,s5]
  unfold RQ
  rw [ai1]
  cases h1:AT false t with
  |true=>rfl
  |false=>
   refine soR rfl (iP (L3 fu l _) ?_)
   cases h2:decide (wG l (.mk tr t)≥0) with
   |true=>exact jL rfl rfl
   |false=>
    refine iK rfl (iP (ai7 fu w t.aFs) (sw3 (c:=vQ w t) (afM w t) ?_))
    cases h3:vQ w t with
    |false=>rfl
    |true=>
     refine iP (ai4 fu op t) ?_
     cases h4:op.any fun u=>aA.eq u t with
     |true=>rfl
     |false=>
      rw [decide_eq_false (show ¬30<op.length by omega)]
      refine iK rfl (iK (decide_eq_false (by omega)) (iP hs ?_))
      cases h5:decide (szT t>400) with
      |true=>exact jL rfl rfl
      |false=>
       have hl:(M4 w t.aFs).1.aFH.length=t.aFt.length:=by
        have:=h3
        unfold vQ at this
        rw [Bool.and_eq_true,Bool.and_eq_true,decide_eq_true_eq,decide_eq_true_eq] at this
        exact this.2.2
       refine iK rfl (iP (aqU fu hl (alO hU hw hW)) (f7 (by omega) (f7 (by rw [List.length_singleton];omega) ?_)))
       have hb:s3 (YU (M4 w t.aFs).1.aFH t.aFt):=ao9 hU (afL hl ((H5 U).args ht))
       rw [QP (l:=(M4 w t.aFs).1.aFx) (f:=fun c=>nW (fun x=>s5 false w l tr (k+1) (op++ [t]) (XH w t x)) c.aFN) (fun x=>x) fun i hi=>?_]
       ·exact auI
       ·unfold ad4
        have hc:=cA hi
        have hf2:=hf h3 _ hc
        have hg2:=fun x hx=>hW.fl t.aFs _ hc x hx
        generalize hgc:aR (M4 w t.aFs).1.aFx i=c at hf2 hg2 ⊢
        rw [QP (l:=c.aFN) (f:=fun x=>s5 false w l tr (k+1) (op++ [t]) (XH w t x)) (fun x=> .ret x) fun j hj=>?_]
        ·exact apR
        ·unfold ad5
         rw [hgc]
         refine f7 hb (f7 ⟨U,hU,hg2 _ (cA hj)⟩ (iP (hf2 _ (cA hj)) auN))
theorem at5: ∀(k:Nat) (op:Z aA) (t:aA),op.length+k=31→Gd U t→(∀u∈op,vQ w u=true)→eK fun fu=>lL fu w l (.mk tr t) op=some (s5 true w l tr (k+1) op t):=by
 intro k
 induction k with
 |zero=>
  intro op t hk ht ho
  refine bY (((R7 t).and (bP 13000001)).imp fun fu hs=>?_)
  rw [lL,s5]
  unfold I2
  rw [ajZ]
  cases h1:AT true t with
  |true=>simp only [aD.aFu.eq_1,h1];rfl
  |false=>
   simp only [aD.aFu.eq_1,h1]
   cases h2:decide (wG l (.mk tr t)≥0) with
   |true=>rfl
   |false=>
    refine soR rfl ?_
    rw [n5 (l:=op) (p:=fun u=>aA.eq u t) (r:=fun _=>0) (fun i hi=>by unfold LE;show sw (aA.eq (aR op i) t) _ _=_;cases aA.eq (aR op i) t<;>rfl)]
    cases h4:op.find? fun u=>aA.eq u t with
    |some u=>
     have hm:=List.mem_of_find?_eq_some h4
     have he:=(aA.eq_iff _ _).1 (List.find?_some (p:=fun u=>aA.eq u t) h4)
     have hc:=ho u hm
     rw [he] at hc
     rw [hc,List.any_eq_true.2 ⟨u,hm,List.find?_some (p:=fun u=>aA.eq u t) h4⟩]
     rfl
    |none=>
     rw [show op.any (fun u=>aA.eq u t)=false from List.any_eq_false.2 fun u hu=>List.find?_eq_none.1 h4 u hu]
     refine soR rfl (iP (aaC fu w t.aFs (aH.sw_ hw (by omega))) (sw3 (c:=vQ w t) (afM w t) ?_))
     cases h3:vQ w t with
     |false=>rfl
     |true=>
      rw [decide_eq_true (show 30<op.length by omega)]
      exact jL (decide_eq_true (by omega)) rfl
 |succ k ih=>
  intro op t hk ht ho
  have hsub:eK fun fu=>vQ w t=true→ ∀c∈(M4 w t.aFs).1.aFx,∀x∈c.aFN,lL fu w l (.mk tr (XH w t x)) (op++ [t])=some (s5 true w l tr (k+1) (op++ [t]) (XH w t x)):=by
   by_cases hc:vQ w t=true
   ·refine auL (w:=w) hU hw hW (M:=fun fu x=>lL fu w l (.mk tr x) (op++ [t])) (f:=fun x=>s5 true w l tr (k+1) (op++ [t]) x) ht fun x hx=>ih (op++ [t]) x (by rw [List.length_append,List.length_singleton];omega) hx fun u hu=>?_
    rcases List.mem_append.1 hu with h|h
    ·exact ho u h
    ·rw [List.mem_singleton.1 h];exact hc
   ·exact .all fun fu h=>absurd h hc
  refine bY ((((R7 t).and (bP 13000001)).and hsub).imp fun fu hf=>?_)
  obtain⟨⟨hs,hfu⟩,hf⟩:=hf
  rw [lL,s5]
  unfold I2
  rw [ajZ]
  cases h1:AT true t with
  |true=>simp only [aD.aFu.eq_1,h1];rfl
  |false=>
   simp only [aD.aFu.eq_1,h1]
   cases h2:decide (wG l (.mk tr t)≥0) with
   |true=>rfl
   |false=>
    refine soR rfl ?_
    rw [n5 (l:=op) (p:=fun u=>aA.eq u t) (r:=fun _=>0) (fun i hi=>by unfold LE;show sw (aA.eq (aR op i) t) _ _=_;cases aA.eq (aR op i) t<;>rfl)]
    cases h4:op.find? fun u=>aA.eq u t with
    |some u=>
     have hm:=List.mem_of_find?_eq_some h4
     have he:=(aA.eq_iff _ _).1 (List.find?_some (p:=fun u=>aA.eq u t) h4)
     have hc:=ho u hm
     rw [he] at hc
     rw [hc,List.any_eq_true.2 ⟨u,hm,List.find?_some (p:=fun u=>aA.eq u t) h4⟩]
     rfl
    |none=>
     rw [show op.any (fun u=>aA.eq u t)=false from List.any_eq_false.2 fun u hu=>List.find?_eq_none.1 h4 u hu]
     refine soR rfl (iP (aaC fu w t.aFs (aH.sw_ hw (by omega))) (sw3 (c:=vQ w t) (afM w t) ?_))
     cases h3:vQ w t with
     |false=>rfl
     |true=>
      rw [decide_eq_false (show ¬30<op.length by omega)]
      refine iK (decide_eq_false (by omega)) (iP hs ?_)
      cases h5:decide (szT t>400) with
      |true=>exact jL rfl rfl
      |false=>
       have hl:(M4 w t.aFs).1.aFH.length=t.aFt.length:=by
        have:=h3
        unfold vQ at this
        rw [Bool.and_eq_true,Bool.and_eq_true,decide_eq_true_eq,decide_eq_true_eq] at this
        exact this.2.2
       have hb:s3 (YU (M4 w t.aFs).1.aFH t.aFt):=ao9 hU (afL hl ((H5 U).args ht))
       refine iK rfl (soR (s:=YU (M4 w t.aFs).1.aFH t.aFt) (adS (ts:=t.aFt) (alO hU hw hW) fun i v hi hn=>?_) (f7 (by rw [List.length_nil];omega) (f7 (by simp only [List.nil_append,List.length_singleton];omega) ?_)))
       ·unfold V2
        exact f7 (by show i<t.aFt.length;omega) (f7 (by simpa using hn) rfl)
       ·rw [QP (l:=(M4 w t.aFs).1.aFx) (f:=fun c=>nW (fun x=>s5 true w l tr (k+1) (op++ [t]) (XH w t x)) c.aFN) (fun x=>x) fun i hi=>?_]
        ·exact auI
        ·unfold V3
         have hc:=cA hi
         have hf2:=hf h3 _ hc
         have hg2:=fun x hx=>hW.fl t.aFs _ hc x hx
         generalize hgc:aR (M4 w t.aFs).1.aFx i=c at hf2 hg2 ⊢
         rw [QP (l:=c.aFN) (f:=fun x=>s5 true w l tr (k+1) (op++ [t]) (XH w t x)) (fun x=> .ret x) fun j hj=>?_]
         ·exact apR
         ·unfold V4
          rw [hgc]
          refine f7 hb (f7 ⟨U,hU,hg2 _ (cA hj)⟩ (iP (hf2 _ (cA hj)) auN))
end
attribute [local irreducible] uX
theorem aiO{f:aD→aC×Int}: ∀(l:Z aD) (out:Z aC),(BV f l out).2=0→(BV f l out).1.length=out.length+l.length
 | [],out,h=>by simp [BV]
 |b::r,out,h=>by
  rw [BV] at h ⊢
  by_cases h0:(f b).2=0
  ·rw [if_pos h0] at h ⊢
   rw [aiO r _ h,List.length_append,List.length_singleton,List.length_cons]
   omega
  ·rw [if_neg h0] at h
   exact absurd h h0
theorem aiN{f:aD→aC×Int}{P:aC→Prop}: ∀(l:Z aD) (out:Z aC),(∀b∈l,(f b).2=0→P (f b).1)→(∀e∈out,P e)→ ∀e∈(BV f l out).1,P e
 | [],out,_,h=>h
 |b::r,out,hf,h=>by
  rw [BV]
  by_cases h0:(f b).2=0
  ·rw [if_pos h0]
   exact aiN r _ (fun x hx=>hf x (List.mem_cons_of_mem _ hx)) fun e he=>by
    rcases List.mem_append.1 he with h1|h1
    ·exact h e h1
    ·rw [List.mem_singleton.1 h1];exact hf b (by simp) h0
  ·rw [if_neg h0]
   intro e he
   simp at he
theorem aiP{f:aD→aC×Int}{l:Z aD}{F:Nat→Z aC→J (LR (Z aC) (aC×Int))}(hl:l.length≤68719476736)(hs: ∀i v,i<l.length→v.length=i→F i v=some (if(f (aR l i)).2=0 then .next (v++ [(f (aR l i)).1]) else .ret (zEv,(f (aR l i)).2))):loopN F (l.length-0) 0 []=some (if(BV f l []).2=0 then .inr (BV f l []).1 else .inl (zEv,(BV f l []).2)):=by
 have key: ∀k i v,l.length-i=k→i≤l.length→v.length=i→loopN F k i v=some (if(BV f (l.drop i) v).2=0 then .inr (BV f (l.drop i) v).1 else .inl (zEv,(BV f (l.drop i) v).2)):=by
  intro k
  induction k with
  |zero=>
   intro i v hk hi hv
   rw [loopN,List.drop_of_length_le (by omega)]
   rfl
  |succ k ih=>
   intro i v hk hi hv
   have h:i<l.length:=by omega
   rw [loopN,hs i v h hv,s8 h,BV]
   by_cases h0:(f (aR l i)).2=0
   ·rw [if_pos h0,if_pos h0]
    exact ih (i+1) _ (by omega) (by omega) (by rw [List.length_append,List.length_singleton];omega)
   ·rw [if_neg h0,if_neg h0,if_neg h0]
 have:=key _ 0 [] rfl (Nat.zero_le _) rfl
 rwa [List.drop_zero] at this
theorem auM{v:Z aC}{x:aC}{c:Int}{i:Nat}(hn:v.length=i)(hi:i+1≤68719476736):sw (!decide (c=0)) (some (.ret (zEv,c))) (gd (v.length+([x]:Z aC).length≤68719476736) (some (.next (v++ [x]))))=some (if c=0 then(.next (v++ [x]):LR (Z aC) (aC×Int)) else .ret (zEv,c)):=by
 by_cases h:c=0
 ·rw [if_pos h];exact iK (by simp [h]) (f7 (by rw [List.length_singleton];omega) rfl)
 ·rw [if_neg h];exact jL (by simp [h]) rfl
theorem auH{r:Z aC×Int}{o:aF}:so (some (if r.2=0 then(.inr r.1:(aC×Int)⊕Z aC) else .inl (zEv,r.2))) (fun v=>some (aC.mk 1 0 o v,0))=some (if r.2=0 then(aC.mk 1 0 o r.1,0) else(zEv,r.2)):=by
 by_cases h:r.2=0
 ·rw [if_pos h,if_pos h];rfl
 ·rw [if_neg h,if_neg h];rfl
theorem nd0{c:Int}(h:c=0):(!decide (c=0))=false:=by rw [decide_eq_true h];rfl
theorem nd1{c:Int}(h: ¬c=0):(!decide (c=0))=true:=by rw [decide_eq_false h];rfl
theorem alN{w:aH}{n:Y}(h:(uX w n).1.aF1=true):(uX w n).2.2=true:=by
 unfold uX at h ⊢
 cases hq:(List.range' 0 w.aFr.length).findSome? (tQ w n) with
 |none=>rw [hq] at h;cases h
 |some r=>
  obtain⟨i,hi,hq⟩:=List.exists_of_findSome?_eq_some hq
  unfold tQ at hq
  obtain⟨k,hk,hq⟩:=List.exists_of_findSome?_eq_some hq
  split at hq
  ·cases hq;rfl
  ·cases hq
theorem HK{b:Bool}{w:aH}(hw:wt w≤13000000)(l:Z aJ): ∀k g,CW (jS b w l k g).1
 |0,g=>by
  rw [jS]
  cases decide (wG l g≥0)
  ·exact l7
  ·exact LY l7
 |k+1,g=>by
  rw [jS]
  cases decide (wG l g≥0)
  ·rw [cond_false]
   cases(uX w g.aFz).1.aF1
   ·rw [cond_false]
    cases decide (g.aFu.aFw=1)||decide (g.aFu.aFw=3)
    ·rw [cond_false]
     cases decide (g.aFu.aFw=4)&&(lN w 8 g.aFu.aFs g.aFz).2
     ·rw [cond_false]
      split
      ·rename_i hs
       split
       ·rename_i ha
        have hR:=MJ hs
        have h1:=XQ hw hR
        have h2:=aL.we (cT w (gY w g).1)
        have h3:=bE (cT w (gY w g).1).aFL
        have h4:=aiO _ _ ha
        refine QR.2 ⟨by rw [h4,List.length_nil];omega,aiN _ _ (fun x hx _=>HK hw l k _) (by simp)⟩
       ·exact l7
      ·exact l7
     ·exact LY l7
    ·exact l7
   ·rw [cond_true]
    split<;>exact l7
  ·exact LY l7
section
variable {U:LB} (hU:U.length≤68719476736) {w:aH} (hw:wt w≤13000000) (hW:WQ (Gd U) w) (l:Z aJ)
include hU hw hW
theorem aqZ: ∀(k:Nat) (n:Int),n+k=12→0≤n→ ∀g:aD,Gd U g.aFu→eK fun fu=>qD fu (bR.mk w l) g n=some (jS false w l k g):=by
 intro k
 induction k with
 |zero=>
  intro n hk hn g hg
  refine bY ((GJ (.mk 2 (aR l (wG l g).toNat).aF7 (.mk 0 0) []) l7).imp fun fu hs=>?_)
  rw [qD,jS]
  unfold L6
  refine iP (L3 fu l g) ?_
  cases h2:decide (wG l g≥0) with
  |true=>exact jL rfl (f7 ⟨of_decide_eq_true h2,XM (of_decide_eq_true h2)⟩ (SW rfl (iP (Y9 hs _) rfl)))
  |false=>exact iK rfl (jL (decide_eq_true (by omega)) rfl)
 |succ k ih=>
  intro n hk hn g hg
  have hg':gO g.aFu:=⟨U,hU,hg⟩
  have hsub:eK fun fu=>(gY w g).2=0→ ∀b∈(cT w (gY w g).1).aFL,qD fu (bR.mk w l) (VA w (gY w g).1 g b) (n+1)=some (jS false w l k (VA w (gY w g).1 g b)):=by
   by_cases hs:(gY w g).2=0
   ·exact(jI fun b hb=>ih (n+1) (by omega) (by omega) _ (aoW (H5 U) hW (MJ hs) hg hb)).imp fun fu h _=>h
   ·exact .all fun fu h=>absurd h hs
  refine bY (((((GJ (.mk 2 (aR l (wG l g).toNat).aF7 (.mk 0 0) []) l7).and (GJ (.mk 4 0 (.mk 0 0) []) l7)).and (atI hU hw hW l g.aFz 31 [] g.aFu rfl hg)).and (hsub.and (bP 100))).imp fun fu hf=>?_)
  obtain⟨⟨⟨hs,hs4⟩,hau⟩,hf,hfu⟩:=hf
  rw [qD,jS]
  unfold L6
  refine iP (L3 fu l g) ?_
  cases h2:decide (wG l g≥0) with
  |true=>exact jL rfl (f7 ⟨of_decide_eq_true h2,XM (of_decide_eq_true h2)⟩ (SW rfl (iP (Y9 hs _) rfl)))
  |false=>
   refine iK rfl (iK (decide_eq_false (by omega)) ?_)
   unfold ZQ
   cases h3:(uX w g.aFz).1.aF1 with
   |true=>
    rw [cond_false,cond_true]
    by_cases h4:s5 false w l g.aFz 32 [] g.aFu=0
    ·rw [if_pos h4]
     exact soL (iP (GQ fu w g.aFz) (jL (alN h3) (jL h3 (iP hau (iK (nd0 h4) rfl)))))
    ·rw [if_neg h4]
     exact soL (iP (GQ fu w g.aFz) (jL (alN h3) (jL h3 (iP hau (jL (nd1 h4) rfl)))))
   |false=>
    rw [cond_false,cond_false]
    refine soR (s:=((uX w g.aFz).1.aFs,(uX w g.aFz).1.aFD,(uX w g.aFz).1.aF1,(uX w g.aFz).1.aFR,(uX w g.aFz).1.aFQ)) (iP (GQ fu w g.aFz) ?_) ?_
    ·show sw (uX w g.aFz).2.2 (sw (uX w g.aFz).1.aF1 _ _) _=_
     cases(uX w g.aFz).2.2 with
     |true=>exact jL rfl (iK h3 rfl)
     |false=>exact iK rfl rfl
    ·show so (OZ fu _ (bR.mk w l) g n (wG l g) _ _ _ _ _) _=_
     unfold OZ
     have hC3: ∀r a1 a2 a3 a4 a5,O0 fu r (bR.mk w l) g n (wG l g) a1 a2 a3 a4 a5=some (.inr (decide (g.aFu.aFw=1)||decide (g.aFu.aFw=3))):=fun r a1 a2 a3 a4 a5=>by
      unfold O0
      cases decide (g.aFu.aFw=1)<;>rfl
     rw [hC3]
     cases h4:decide (g.aFu.aFw=1)||decide (g.aFu.aFw=3) with
     |true=>rfl
     |false=>
      rw [cond_false]
      have hP:=ai5 fu hfu w g.aFu.aFs g.aFz
      have hC2: ∀(X:Unit→J (aC×Int)) (R:aC×Int),X ()=some R→so (so (some (.inr false:((aC×Int)⊕Unit)⊕Bool)) (fun v24=>sw v24 (some (.inl ((aC.mk 0 0 (aF.mk 0 0) [],1):aC×Int))) (sw (decide ((g.aFu.aFw:Int)=4)) (bd (l8 fu w g.aFu.aFs g.aFz) (fun(x29,x30)=>sw (x30) (bd (iY fu (aC.mk 4 0 (aF.mk 0 0) []) x29) (fun x33=>some (.inl (x33,0)))) (some (.inr ())))) (some (.inr ()))))) X=some (bif decide (g.aFu.aFw=4)&&(lN w 8 g.aFu.aFs g.aFz).2 then(ajI (.mk 4 0 (.mk 0 0) []) (lN w 8 g.aFu.aFs g.aFz).1,0) else R):=fun X R hX=>by
       cases h5:decide (g.aFu.aFw=4) with
       |false=>exact hX
       |true=>
        rw [hP]
        show so (sw (lN w 8 g.aFu.aFs g.aFz).2 (bd (iY fu _ (lN w 8 g.aFu.aFs g.aFz).1) _) _) _=_
        cases h6:(lN w 8 g.aFu.aFs g.aFz).2 with
        |false=>exact hX
        |true=>exact soL (jL rfl (iP (Y9 hs4 _) rfl))
      refine hC2 _ _ (iP (avE hw hg') ?_)
      by_cases h7:(gY w g).2=0
      ·rw [if_pos h7]
       have hR:=MJ h7
       have hf:=hf h7
       refine iK (nd0 h7) (iP (RJ fu w (gY w g).1 hR) (f7 (xQ hw hR) (f7 hg' ?_)))
       have h1:=XQ hw hR
       have h2:=aL.we (cT w (gY w g).1)
       have h3:=bE (cT w (gY w g).1).aFL
       rw [aiP (l:=(cT w (gY w g).1).aFL) (f:=fun x=>jS false w l k (VA w (gY w g).1 g x)) (by omega) fun i v hi hv=>?_]
       ·exact auH
       ·unfold ZS
        have hm:=cA hi
        refine f7 (ao9 hU (PF (H5 U) _ _ hg)) (f7 ⟨U,hU,hW.wh _ hR _ hm⟩ ?_)
        rw [SR (by omega) (by omega)]
        exact iP (hf _ hm) (auM hv (by omega))
      ·rw [if_neg h7]
       exact jL (nd1 h7) rfl
theorem arN: ∀(k:Nat),k≤12→ ∀g:aD,Gd U g.aFu→eK fun fu=>jY fu w l g (k:Int)=some (jS true w l k g):=by
 intro k
 induction k with
 |zero=>
  intro hk g hg
  refine bY ((GY (.mk 2 (aR l (wG l g).toNat).aF7 (.mk 0 0) []) l7).imp fun fu hs=>?_)
  rw [jY,jS]
  unfold E4
  refine iP (UE fu l g) ?_
  cases h2:decide (wG l g≥0) with
  |true=>exact jL rfl (f7 ⟨of_decide_eq_true h2,XM (of_decide_eq_true h2)⟩ (SW rfl (iP (aaJ hs _) rfl)))
  |false=>exact iK rfl (jL (decide_eq_true (by omega)) rfl)
 |succ k ih=>
  intro hk g hg
  have hg':gO g.aFu:=⟨U,hU,hg⟩
  have hsub:eK fun fu=>(gY w g).2=0→ ∀b∈(cT w (gY w g).1).aFL,jY fu w l (VA w (gY w g).1 g b) (k:Int)=some (jS true w l k (VA w (gY w g).1 g b)):=by
   by_cases hs:(gY w g).2=0
   ·exact(jI fun b hb=>ih (by omega) _ (aoW (H5 U) hW (MJ hs) hg hb)).imp fun fu h _=>h
   ·exact .all fun fu h=>absurd h hs
  refine bY (bY ((hsub.and (bP 27000000)).imp2 (Evt_succ' (((GY (.mk 2 (aR l (wG l g).toNat).aF7 (.mk 0 0) []) l7).and (GY (.mk 4 0 (.mk 0 0) []) l7)).and (at5 hU hw hW l g.aFz 31 [] g.aFu rfl hg (by simp)))) fun fu hf hf1=>?_))
  obtain⟨hf,hfu⟩:=hf
  obtain⟨⟨hs,hs4⟩,hau⟩:=hf1
  have hau':lL (fu+1) w l g []=some (s5 true w l g.aFz 32 [] g.aFu):=by cases g;exact hau
  have hI:rP (fu+1) w l g ((k+1:Nat):Int)=some (if(gY w g).2=0 then(if(BV (fun x=>jS true w l k (VA w (gY w g).1 g x)) (cT w (gY w g).1).aFL []).2=0 then(aC.mk 1 0 (gY w g).1 (BV (fun x=>jS true w l k (VA w (gY w g).1 g x)) (cT w (gY w g).1).aFL []).1,0) else(zEv,(BV (fun x=>jS true w l k (VA w (gY w g).1 g x)) (cT w (gY w g).1).aFL []).2)) else(zEv,(gY w g).2)):=by
   rw [rP]
   unfold P4
   refine iP (avW hw hg' (by omega)) ?_
   by_cases h7:(gY w g).2=0
   ·rw [if_pos h7]
    have hR:=MJ h7
    have hf:=hf h7
    refine iK (nd0 h7) (XN hR fun p=>f7 (xQ hw hR) (f7 hg' ?_))
    have h1:=XQ hw hR
    have h2:=aL.we (cT w (gY w g).1)
    have h3:=bE (cT w (gY w g).1).aFL
    rw [aiP (l:=(cT w (gY w g).1).aFL) (f:=fun x=>jS true w l k (VA w (gY w g).1 g x)) (by omega) fun i v hi hv=>?_]
    ·exact auH
    ·unfold V5
     have hm:=cA hi
     refine f7 (ao9 hU (PF (H5 U) _ _ hg)) (f7 ⟨U,hU,hW.wh _ hR _ hm⟩ ?_)
     rw [show bB (((k+1:Nat):Int)-1)=(k:Int) by rw [SR (by omega) (by omega)];omega]
     exact iP (hf _ hm) (auM hv (by omega))
   ·rw [if_neg h7]
    exact jL (nd1 h7) rfl
  rw [jY,jS]
  unfold E4
  refine iP (UE _ l g) ?_
  cases h2:decide (wG l g≥0) with
  |true=>exact jL rfl (f7 ⟨of_decide_eq_true h2,XM (of_decide_eq_true h2)⟩ (SW rfl (iP (aaJ hs _) rfl)))
  |false=>
   refine iK rfl (iK (decide_eq_false (by omega)) (iP (EO _ w g.aFz (aH.sw_ hw (by omega))) ?_))
   show sw (uX w g.aFz).1.aF1 _ _=_
   cases h3:(uX w g.aFz).1.aF1 with
   |true=>
    rw [cond_false,cond_true]
    by_cases h4:s5 true w l g.aFz 32 [] g.aFu=0
    ·rw [if_pos h4]
     exact jL rfl (iP hau' (iK (nd0 h4) rfl))
    ·rw [if_neg h4]
     exact jL rfl (iP hau' (jL (nd1 h4) rfl))
   |false=>
    rw [cond_false,cond_false]
    refine iK rfl ?_
    cases h4:decide (g.aFu.aFw=1) with
    |true=>rfl
    |false=>
     cases h5:decide (g.aFu.aFw=3) with
     |true=>rfl
     |false=>
      refine iK rfl (iK rfl ?_)
      show _=some (bif _ then _ else _)
      cases h6:decide (g.aFu.aFw=4) with
      |false=>exact iK rfl (iP hI rfl)
      |true=>
       refine jL rfl (iP (aj3 hw (by omega) g.aFu.aFs g.aFz) ?_)
       show sw (lN w 8 g.aFu.aFs g.aFz).2 (bd (kP _ _ (lN w 8 g.aFu.aFs g.aFz).1) _) _=_
       cases h8:(lN w 8 g.aFu.aFs g.aFz).2 with
       |false=>exact iK rfl (iP hI rfl)
       |true=>exact jL rfl (iP (aaJ hs4 _) rfl)
end
section
variable {w:aH} (hw:wt w≤13000000) {l:Z aD} (hl:l.length≤1000) (hb: ∀b∈l,gO b.aFu) {g:aD} (hg:wt g.aFu≤13000000)
include hw hl hb hg
theorem apE:(acK w++GW g.aFu).length≤68719476736∧Gd (acK w++GW g.aFu) g.aFu:=by
 have _:=hl;have _:=hb
 have h1:=ajO w
 have h2:=af7 g.aFu
 refine⟨by rw [List.length_append];omega,(Gd.own _ (by rw [QQ];omega)).mono (fun n h=>List.mem_append_right _ h) _⟩
theorem amV:eK fun fu=>ZF fu w l g=some (jS false w (M3 w l) 12 g):=by
 obtain⟨h1,h2⟩:=apE hw hl hb hg
 refine(aqZ h1 hw (alQ hw) (M3 w l) 12 0 rfl (Int.le_refl _) g h2).imp fun fu h=>?_
 unfold ZF
 exact f7 ⟨hw,hl,hb⟩ (iP h rfl)
theorem anH:eK fun fu=>aaS fu w l g=some (jS true w (M3 w l) 12 g):=by
 obtain⟨h1,h2⟩:=apE hw hl hb hg
 refine((arN h1 hw (alQ hw) (M3 w l) 12 (Nat.le_refl _) g h2).and (bP 27000000)).imp fun fu h=>?_
 unfold aaS
 exact iP ((avV hw h.2 hl hb).trans (congrArg some (aqL hw h.2 l))) (iP h.1 rfl)
end
def iX(w:aH)(l:Z aD)(g:aD):aC×Int:=jS false w (M3 w l) 12 g
def cK(w:aH)(l:Z aD)(g:aD):aC×Int:=jS true w (M3 w l) 12 g
theorem ad0(w:aH)(l:Z aD)(g:aD)(h:NV w l)(hg:wt g.aFu≤13000000):bU Tryz.prog 18 [(aH.pv w),b0 l,(aD.pv g)] (.tup [(aC.pv (iX w l g).1),pI (iX w l g).2]):=by
 obtain⟨fu,hf⟩:=(amV h.hw h.hl h.ht hg).get
 exact aq0 fu w l g _ hf
theorem MH(w:aH)(l:Z aD)(g:aD)(h:NV w l)(hg:wt g.aFu≤13000000):bU Tryz.prog 19 [(aH.pv w),b0 l,(aD.pv g)] (.tup [(aC.pv (cK w l g).1),pI (cK w l g).2]):=by
 obtain⟨fu,hf⟩:=(anH h.hw h.hl h.ht hg).get
 exact arO fu w l g _ hf
end Go.Proofs.YtfcoaagbccmahaaGreat.W
namespace Go.Proofs.YtfcoaagbccmahaaGreat.W
open Go.RowKit Go.WalkArith Go.IntWalk Go.WideShapes Go.Proofs
attribute [local irreducible] lt
structure XI (m:aU):Prop where
 g:m.aFA.length≤68719476735
 t: ∀b∈m.aFA,gO b.aFu
 c:m.aFI.length≤68719476735
 e:m.aFC.length≤68719476735
 v: ∀x∈m.aFC,CW x
theorem ajN(b:aD):aD.mk b.aFz b.aFu=b:=by cases b;rfl
theorem Z9(fu:Nat){l:Z aD}(hl:l.length≤68719476735)(ht: ∀b∈l,gO b.aFu):IW fu l=some l:=by
 unfold IW
 rw [IF (l:=l) fun i hi hn=>?_]
 ·rfl
 ·unfold N3
  rw [ajN]
  exact f7 (ht _ (cA hi)) (f7 (by rw [hn,List.length_singleton];omega) rfl)
set_option maxRecDepth 100000 in
theorem ajG(m:aU)(h:XI m)(hn:decide ((aU.aFI m).length=0)=false):asR Tryz.prog 128 [(aU.pv m)] ⟨32,4,aD.trs (aU.aFA m),false⟩ ⟨3,1,c7 (aU.aFI m),false⟩ ⟨55,5,aC.trs (aU.aFC m),false⟩:=by
 obtain⟨fu,hE⟩:=(aaA h.e h.v).get
 have hG:=Z9 fu h.g h.t
 have hne:c7 m.aFI≠ []:=by
  have:=of_decide_eq_false hn
  intro e
  exact this (by rw [← fF,e];rfl)
 unfold asR adJ
 refine qI Tryz.func128 (fun C hC=>?_)
 refine gQ 2 ?_;refine q1 (fQ (eM m)) ?_;refine gQ 3 ?_;refine dW (dI [1] bW (dD [3] eG (dE [4] (WT (B:= []) (R:=fun k=>fZ m.aFA k) (ps:= [_]) (qs:= [b0 m.aFA]) Tryz.func167 (fun k k'=>Mv.acc) (N4 fu m.aFA _ hG)) (dI [] (xD ([]:Z Int)) (dI [1] bW (dB [7] 0 1 tP ?_))))))
 refine dE [6,8] (JX rfl rfl rfl rfl rfl (fun e he=>(by obtain⟨x,_,rfl⟩:=List.mem_map.1 he;rfl)) hne (by decide) au9.h azE.h (by decide) (by rw [fF];have:=h.c;omega)) ?_;refine dI [1] bW (dB [10] 0 2 tP (dE [11] (WT (B:= []) (R:=fun k=>cS m.aFC k) (ps:= [_]) (qs:= [bK m.aFC]) Tryz.func168 (fun k k'=>Mv.acc) (N7 fu m.aFC _ hE)) (dI [5,9,12] rQ (iW [2,13] hY (dN ?_)))))
 refine gQ 0 ?_;refine dR.ret ?_;refine SX (st':=⟨[],[⟨32,4,aD.trs m.aFA,false⟩,⟨3,1,c7 m.aFI,false⟩,⟨55,5,aC.trs m.aFC,false⟩]⟩) ⟨[0,1,2],rfl,fun i row hi=>?_,fun i j hi hj e=>?_⟩ ⟨⟨_,_,_,rfl,rfl,SH.h,rfl,rfl⟩,trivial⟩
 ·rcases i with _|_|_|i<;>simp at hi<;>subst hi<;>rfl
 ·rcases i with _|_|_|i<;>rcases j with _|_|_|j<;>simp at hi hj e<;>first|rfl|omega
set_option maxRecDepth 100000 in
theorem ajF(m:aU)(h:XI m)(hn:decide ((aU.aFI m).length=0)=true):asQ Tryz.prog 128 [(aU.pv m)] ⟨32,4,aD.trs (aU.aFA m),false⟩ 1 (c7 (aU.aFI m)) ⟨55,5,aC.trs (aU.aFC m),false⟩:=by
 obtain⟨fu,hE⟩:=(aaA h.e h.v).get
 have hG:=Z9 fu h.g h.t
 obtain⟨g,c,ev⟩:=m
 obtain rfl:c= []:=List.eq_nil_of_length_eq_zero (of_decide_eq_true hn)
 unfold asQ adJ
 refine qI Tryz.func128 (fun C hC=>?_)
 refine gQ 2 ?_;refine q1 (fQ (eM (aU.mk g [] ev))) ?_;refine gQ 3 ?_;refine dW (dI [1] bW (dD [3] eG (dE [4] (WT (B:= []) (R:=fun k=>fZ g k) (ps:= [_]) (qs:= [b0 g]) Tryz.func167 (fun k k'=>Mv.acc) (N4 fu g _ hG)) (dI [] (xD ([]:Z Int)) (dI [1] bW (dB [7] 0 1 tP ?_))))))
 refine dI [6,8] (X2 rfl rfl rfl rfl rfl au9.h) ?_;refine dI [1] bW (dB [10] 0 1 tP (dE [11] (WT (B:= []) (R:=fun k=>cS ev k) (ps:= [_]) (qs:= [bK ev]) Tryz.func168 (fun k k'=>Mv.acc) (N7 fu ev _ hE)) (dI [5,9,12] rQ (iW [2,13] hY (dN ?_)))))
 refine gQ 0 ?_;refine dR.ret ?_;refine SX (st':=⟨[],[⟨32,4,aD.trs g,false⟩,⟨55,5,aC.trs ev,false⟩]⟩) ⟨[0,1],rfl,fun i row hi=>?_,fun i j hi hj e=>?_⟩ ⟨⟨_,_,_,rfl,rfl,SH.h,rfl,rfl⟩,trivial⟩
 ·rcases i with _|_|i<;>simp at hi<;>subst hi<;>rfl
 ·rcases i with _|_|i<;>rcases j with _|_|j<;>simp at hi hj e<;>first|rfl|omega
end Go.Proofs.YtfcoaagbccmahaaGreat.W
namespace Go.Proofs.YtfcoaagbccmahaaGreat
open Go.RowKit Go.WalkArith Go.IntWalk Go.WideShapes
section
variable {st:dL} {m:kQ} {w w':World} {x:dO} {b k:Nat}
end
section
variable {P:Program} {C:qT} {n:Nat} {s:AS} {o:Oper}
end
end Go.Proofs.YtfcoaagbccmahaaGreat
namespace Go.Proofs.YtfcoaagbccmahaaGreat.W
open Go.RowKit Go.WalkArith Go.Proofs
attribute [local irreducible] lt
theorem atJ: ∀a b:aC,eK fun fu=>fT fu a b=some (xH a b):=by
 refine aC.ind fun k n o xs ih b=>?_;refine bY (bY ((eK.below (k:=xs.length) (P:=fun i fu=>fT fu (aR xs i) (aR b.aFt i)=some (xH (aR xs i) (aR b.aFt i))) fun i hi=>ih _ (cA hi) _).imp fun fu hf=>?_))
 have hS:bZ (fu+1) xs b.aFt=some (C3 xs b.aFt):=by
  simp only [bZ,iR]
  by_cases hl:xs.length=b.aFt.length
  ·refine iK (by simp [hl]) (aiV (β:=Bool) hl fun i hi=>?_)
   rw [lX]
   refine f7 (by omega) (iP (hf i hi) ?_)
   cases xH (aR xs i) (aR b.aFt i)<;>rfl
  ·cases hq:C3 xs b.aFt with
   |true=>exact absurd (TF hq) hl
   |false=>exact jL (by simp;omega) rfl
 rw [fT,xH]
 unfold xV
 show sw (decide (k=b.aFw)) (sw (decide (n=b.aGa)) (sw (decide (o.aFF=b.aFS.aFF)&&decide (o.aFS=b.aFS.aFS)) (bd (bZ (fu+1) xs b.aFt) _) _) _) _=_
 by_cases h1:k=b.aFw
 ·rw [decide_eq_true h1,Bool.true_and]
  refine jL rfl ?_
  by_cases h2:n=b.aGa
  ·rw [decide_eq_true h2,Bool.true_and]
   refine jL rfl ?_
   by_cases h3:o.aFF=b.aFS.aFF∧o.aFS=b.aFS.aFS
   ·rw [decide_eq_true h3.1,decide_eq_true h3.2,Bool.true_and,Bool.true_and]
    exact jL rfl (iP hS rfl)
   ·have h4:(decide (o.aFF=b.aFS.aFF)&&decide (o.aFS=b.aFS.aFS))=false:=by
     rw [Bool.and_eq_false_iff,decide_eq_false_iff_not,decide_eq_false_iff_not]
     exact Classical.not_and_iff_not_or_not.1 h3
    rw [h4,Bool.false_and]
    exact iK rfl rfl
  ·rw [decide_eq_false h2,Bool.false_and]
   exact iK rfl rfl
 ·rw [decide_eq_false h1,Bool.false_and]
  exact iK rfl rfl
theorem atK(a b:aC):bU Tryz.prog 81 [(aC.pv a),(aC.pv b)] (.t (.leaf (.bool (xH a b)))):=by
 obtain⟨fu,h⟩:=(atJ a b).get
 exact RB fu a b _ h
end Go.Proofs.YtfcoaagbccmahaaGreat.W
namespace Go.Proofs.YtfcoaagbccmahaaGreat.W
set_option maxRecDepth 100000
set_option maxHeartbeats 40000000
noncomputable section
open Tryz Go.RowKit Go.Proofs
attribute [local irreducible] lt
def I5(fu:Nat)(pc d1:DS):Nat→((Z aD)×DS)→J (LR ((Z aD)×DS) ((Z aD)×DS)):=fun i3 (v6,v5)=>sw (decide ((v6.length:Int)>0)) (lt (v5.after 3) fun d10=>sw (decide (v5.below 3=0)) (lt (d10.after v6.length) fun d13=>gd (d10.below v6.length<(v6).length) (gd ((v6).length+(([(aR v6 (d10.below v6.length))]:Z aD)).length≤68719476736) (some (.next ((v6++([(aR v6 (d10.below v6.length))]:Z aD)),d13))))) (bd (o8 fu d10) fun(x18,x19)=>gd ((v6).length+(([x18]:Z aD)).length≤68719476736) (some (.next ((v6++([x18]:Z aD)),x19))))) (bd (o8 fu v5) fun(x22,x23)=>gd ((v6).length+(([x22]:Z aD)).length≤68719476736) (some (.next ((v6++([x22]:Z aD)),x23))))
def wD(fu:Nat)(pc:DS):J ((Z aD)×DS):=lt (pc.after 6) fun d1=>so (loopN (I5 fu pc d1) (pc.below 6-0) 0 (([]),d1)) fun(v6,v5)=>some (v6,v5)
theorem ahD(fu:Nat)(pc:DS)(r:(Z aD)×DS)(H:wD fu pc=some r):cM prog 70 [.ptr 0 0] ⟨[some ⟨133,dC pc⟩],[]⟩ (fun q t=>q=(b0 r.1)∧t=⟨[some ⟨133,dC r.2⟩],[]⟩):=by
 refine qJ func70 H (fun C hC H=>?_)
 refine gQ 6 ?_;refine q1 (sM ([]:Z aD)) ?_;refine gQ 5 ?_;refine gM H fun d1 h2 H=>(q1 (fO [0] [] func73 (FJ h2 (fL pc 6))) ?_)
 refine gQ 7 ?_
 have hb7:=DS.below_lt (d:=pc) (n:=6) (by decide)
 refine bV (σ:=(Z aD)×DS) (fun i3 (v6,v5)=>⟨[(0,.ptr 0 0),(2,.nil),(3,fZ v6 0),(4,pN (pc.below 6)),(5,pN i3)],⟨[some ⟨133,dC v5⟩],[⟨32,4,aD.trs (v6),false⟩]⟩⟩) (fun(v6,v5)=>⟨[(2,.nil),(3,fZ v6 0)],⟨[some ⟨133,dC v5⟩],[⟨32,4,aD.trs (v6),false⟩]⟩⟩) (fA H) ?_ ?_
 ·rintro i3 ⟨v6,v5⟩ H
  refine gQ 7 ?_;refine cZ H (fun h8 h8l H=>?_) (fun h8 H=>?_)
  ·have h8n:i3<pc.below 6:=by have:=of_decide_eq_true h8;omega
   refine gQ 9 ?_;refine AL.weak (s':=⟨[(0,.ptr 0 0),(2,.nil),(3,fZ v6 0),(4,pN (pc.below 6)),(5,pN i3),(9,pN i3),(10,pN (pc.below 6)),(11,pB (decide ((i3:Int)<(pc.below 6:Int)))),(14,fZ v6 0),(15,pN v6.length),(16,pB (decide ((v6.length:Int)>0))),(17,pB (decide ((v6.length:Int)>0)))],⟨[some ⟨133,dC v5⟩],[⟨32,4,aD.trs (v6),false⟩]⟩⟩) FT ?_;refine dY 17 H (fun g9 H=>?_) fun g9 H=>?_
   ·refine qg g9 bI (gM H fun d10 h11 H=>(qg g9 (fO [0] [] func45 (FJ h11 (n6 v5 3))) ?_))
    refine gQ 2 ?_;refine bG H (fun h12 H=>?_) (fun h12 H=>?_)
    ·refine gQ 6 ?_;refine gM H fun d13 h14 H=>(q1 (fO [0] [] func73 (FJ h14 (fL d10 v6.length))) (cB H fun z15 H=>(q1 mU (q1 (gZ (aD.cs (aR v6 (d10.below v6.length)))) (q1 (iL ([(aR v6 (d10.below v6.length))]:Z aD)) (cB H fun z16 H=>(q1 (lO z16) ?_)))))))
     exact gE 7
    refine gQ 3 ?_;refine eX H fun x18 x19 z17 H=>(q1 (fO [0] [] func74 (EZ fu d10 _ z17)) (q1 (iL ([x18]:Z aD)) (cB H fun z20 H=>(q1 (lO z20) ?_))))
    exact gE 7
   refine gQ 8 ?_;refine eX H fun x22 x23 z21 H=>(q1 (fO [0] [] func74 (EZ fu v5 _ z21)) (q1 (iL ([x22]:Z aD)) (cB H fun z24 H=>(q1 (lO z24) ?_))))
   exact gE 7
  exact gE 0
 rintro⟨v6,v5⟩ H
 exact gE 5
def KI(fu:Nat)(pl:Z aD):Nat→((Z aD))→J (LR ((Z aD)) ((Z aD))):=fun i2 v3=>gd (gO ((aR pl i2).aFu)) (gd (i2=(v3).length) (some (.next (v3++([(aD.mk ((aR pl i2).aFz) ((aR pl i2).aFu))]:Z aD)))))
def zG(fu:Nat)(pl:Z aD):J ((Z aD)):=gd (pl.length≤68719476736) (so (loopN (KI fu pl) (pl.length-0) 0 ([])) fun v3=>gd ((v3).length=pl.length) (some v3))
theorem ZH(fu:Nat)(pl:Z aD)(r:(Z aD))(H:zG fu pl=some r):bU prog 75 [b0 pl] (.lit 4 (aD.trs (r))):=by
 refine qJ func75 H (fun C hC H=>?_)
 refine gQ 8 ?_;refine cB H fun z1 H=>(q1 (cX.makeSlice (N:=pl.length) rfl rfl rfl rfl aqQ.h ax4.h (by decide) (Nat.le_trans (Nat.mul_le_mul_left _ z1) (by decide)) (Nat.le_trans z1 (by decide))) ?_)
 refine gQ 9 ?_;refine gV 0 (aD.tl _) (fun hl4=>?_)
 try dsimp only at hl4
 refine bV (σ:=(Z aD)) (fun i2 v3=>⟨[(2,.nil),(3,.full 4 (pl.length) 0),(9,b0 pl),(10,pN pl.length),(11,pN i2)],⟨[],[⟨32,4,aD.trs (v3),true⟩]⟩⟩) (fun v3=>⟨[(2,.nil),(3,.full 4 (pl.length) 0)],⟨[],[⟨32,4,aD.trs (v3),true⟩]⟩⟩) (fA H) ?_ ?_
 ·rintro i2 v3 H
  refine gQ 5 ?_;refine cZ H (fun h5 h5l H=>?_) (fun h5 H=>?_)
  ·refine gQ 7 ?_;refine q1 (gZ (aD.cs (aR pl i2))) ?_;refine gQ 4 ?_;refine cB H fun z6 H=>(cB H fun z7 H=>(dW (dI [3] bI (dI [4] bI (dI [5] bW (dD [18] eG (dI [5] bW (dD [20] (b4 [pI (((aR pl i2).aFu).aFw),pS (((aR pl i2).aFu).aFs),aV (((aR pl i2).aFu).aFt)]) (dI [21] (bJ func79 (tT ((aR pl i2).aFu) z6)) (dI [19,22] rQ (dI [16,17] (zB (k:=i2) rfl rfl rfl rfl h5l aqQ.h) ?_)))))))))))
   refine iW [24,23,16] (zD (e:=aD.cs (aD.mk ((aR pl i2).aFz) ((aR pl i2).aFu))) (es2:=aD.trs (v3++([(aD.mk ((aR pl i2).aFz) ((aR pl i2).aFu))]:Z aD))) 16 rfl rfl rfl rfl rfl rfl mG rfl rfl aBq.h (by rw [aD.tl];exact z7) h5l (by rw [aD.tm,aD.tm,List.map_append];simp [aD.tc])) ?_;refine dN ?_;exact gE 4
  exact gE 0
 rintro v3 H
 refine gQ 3 ?_;refine cB H fun z8 H=>?_;refine AL.weak (YP (i:=26) rfl rfl (by rw [aD.tl];exact z8)) ?_;exact gE 2
def AX(fu:Nat)(pb c1:aD):J Bool:=bd (wO fu pb c1) fun x2=>some x2
theorem TL(fu:Nat)(pb:aD)(c1:aD)(r:Bool)(H:AX fu pb c1=some r):cM prog 83 [(aD.pv pb),.ptr 0 0] ⟨[some ⟨32,b8 c1⟩],[]⟩ (fun q t=>q=(pB r)∧t=⟨[some ⟨32,b8 c1⟩],[]⟩):=by
 refine qJ func83 H (fun C hC H=>?_)
 refine gQ 2 ?_;refine q1 (fQ (b8 pb)) ?_;refine gQ 4 ?_;refine q1 (b4 [pS pb.aFz,pI pb.aFu.aFw,pS pb.aFu.aFs,aV pb.aFu.aFt]) (q1 (b4 [pS c1.aFz,pI c1.aFu.aFw,pS c1.aFu.aFs,aV c1.aFu.aFt]) (bN H fun x2 z1 H=>(q1 (bJ func84 (NY fu pb c1 _ z1)) ?_)))
 exact gE 2
def nC(fu:Nat)(ps:Z aD)(c1_0:aD):Nat→Unit→J (LR Unit Int):=fun i1 _=>bd (AX fu (aR ps i1) c1_0) fun x5=>sw x5 (some (.ret (i1:Int))) (some (.next ()))
def kD(fu:Nat)(ps:Z aD)(c1_0:aD):J Int:=so (loopN (nC fu ps c1_0) (ps.length-0) 0 ()) fun _=>some (-1)
theorem uZ(fu:Nat)(ps:Z aD)(c1_0:aD)(r:Int)(H:kD fu ps c1_0=some r):cM prog 82 [b0 ps,.fn 83 [.ptr 0 0]] ⟨[some ⟨32,b8 c1_0⟩],[]⟩ (fun q t=>q=(pI r)∧t=⟨[some ⟨32,b8 c1_0⟩],[]⟩):=by
 refine qJ func82 H (fun C hC H=>?_)
 refine gQ 11 ?_;refine gV 0 (aD.tl _) (fun hl2=>?_)
 try dsimp only at hl2
 refine bV (σ:=Unit) (fun i1 _=>⟨[(0,b0 ps),(1,.fn 83 [.ptr 0 0]),(4,pI 0),(7,pN ps.length),(8,pN i1)],⟨[some ⟨32,b8 c1_0⟩],[]⟩⟩) (fun _=>⟨[(4,pI 0)],⟨[some ⟨32,b8 c1_0⟩],[]⟩⟩) (fA H) ?_ ?_
 ·rintro i1 ⟨⟩ H
  refine gQ 5 ?_;refine cZ H (fun h3 h3l H=>?_) (fun h3 H=>?_)
  ·refine gQ 14 ?_;refine q1 (gZ (aD.cs (aR ps i1))) (bN H fun x5 z4 H=>(q1 (vO (pre:=⟨[some ⟨32,b8 c1_0⟩],[]⟩) (st':=⟨[some ⟨32,b8 c1_0⟩],[]⟩) (ps:= [_]) (cs:= [.ptr 0 0]) (qs:= [(aD.pv (aR ps i1)),.ptr 0 0]) [0] [] rfl rfl rfl func83 (by kernel_rfl) rfl rfl rfl (lM.of ⟨⟨_,rfl,rfl,mG,rfl⟩,trivial⟩ trivial (by decide) (by decide)) mG rfl rfl rfl (TL fu (aR ps i1) c1_0 _ z4)) (qN ?_)))
   refine bG H (fun h6 H=>gE 5) fun h6 H=>?_;exact gE 5
  exact gE 0
 rintro⟨⟩ H
 exact gE 4
def mR(fu:Nat)(pm:aU)(pg:aD):J Int:=bd (kD fu pm.aFA pg) fun x2=>some x2
theorem wN(fu:Nat)(pm:aU)(pg:aD)(r:Int)(H:mR fu pm pg=some r):bU prog 32 [(aU.pv pm),(aD.pv pg)] (pI r):=by
 refine qJ func32 H (fun C hC H=>?_)
 refine gQ 2 ?_;refine q1 (fQ (eM pm)) (q1 (fQ (b8 pg)) ?_)
 refine gQ 6 ?_;refine q1 rMf (bN H fun x2 z1 H=>(q1 (fO [1] [] func82 (uZ fu pm.aFA pg _ z1)) ?_))
 exact gE 2
def wQ(fu:Nat)(pw:aH)(pm:aU)(pg:aD):J (aU×aC×Int):=bd (zG fu pm.aFA) fun x2=>gd ((pm.aFI).length≤68719476735) (gd (asS pm.aFC) (gd (NV pw ([])) (gd (wt (aD.aFu pg)≤13000000) (gd (gO pg.aFu) (sw (eH pg.aFu) (bd (mR fu pm pg) fun x10=>sw (decide (x10<0)) (gd (x2.length+(([pg]:Z aD)).length≤68719476736) (gd ((pm.aFI).length+(([((iX pw ([]) pg).2)]:Z Int)).length≤68719476736) (gd (CW ((iX pw ([]) pg).1)) (gd ((pm.aFC).length+(([((iX pw ([]) pg).1)]:Z aC)).length≤68719476736) (some ((aU.mk (x2++([pg]:Z aD)) (pm.aFI++([((iX pw ([]) pg).2)]:Z Int)) (pm.aFC++([((iX pw ([]) pg).1)]:Z aC))),((iX pw ([]) pg).1),((iX pw ([]) pg).2))))))) (some ((aU.mk x2 pm.aFI pm.aFC),((iX pw ([]) pg).1),((iX pw ([]) pg).2)))) (some ((aU.mk x2 pm.aFI pm.aFC),((iX pw ([]) pg).1),((iX pw ([]) pg).2))))))))
theorem WX(fu:Nat)(pw:aH)(pm:aU)(pg:aD)(r:aU×aC×Int)(H:wQ fu pw pm pg=some r):bU prog 29 [(aH.pv pw),(aU.pv pm),(aD.pv pg)] (.tup [(aU.pv r.1),(aC.pv r.2.1),pI r.2.2]):=by
 refine qJ func29 H (fun C hC H=>?_)
 refine gQ 2 ?_;refine q1 (fQ ([aP pw.aFr])) (q1 (fQ (eM pm)) (q1 (fQ (b8 pg)) ?_))
 refine gQ 5 ?_;refine bN H fun x2 z1 H=>(cB H fun z3 H=>(cB H fun z4 H=>(dWa (dI [4] bW (dBz [12] 0 0 tP (dI [13] (rCl func75 (ZH fu pm.aFA _ z1)) (dI [4] bW (dBz [15] 0 0 tP ?_))))))))
 refine dEz [16] (fun _ z=>by cases z<;>exact WT (B:= []) (R:=fun k=>aI pm.aFI k) (ps:= [_]) (qs:= [rI pm.aFI]) func76 (fun k k'=>Mv.acc) (afP pm.aFI z3) rfl rfl rfl rfl rfl rfl) ?_;refine dI [4] bW (dBz [18] 0 1 tP (dI [19] (rCl func77 (ai2 pm.aFC z4)) (dI [14,17,20] rQ (dA (fun _ st h=>vAl h aBv.h) (dZ 9 [9,21] hY (dN ?_))))))
 refine gQ 2 ?_;refine q1 (b4 [aP pw.aFr]) (q1 (b4 [pS pg.aFz,pI pg.aFu.aFw,pS pg.aFu.aFs,aV pg.aFu.aFt]) (cB H fun z5 H=>(cB H fun z6 H=>(q1 (bJ func18 (ad0 pw ([]) pg z5 z6)) ?_))))
 refine gQ 11 ?_;refine q1 (b4 [pI pg.aFu.aFw,pS pg.aFu.aFs,aV pg.aFu.aFt]) (cB H fun z7 H=>(q1 (bJ func78 (H7 pg.aFu z7)) (q1 bI ?_)))
 refine AL.weak (s':=⟨[(4,.ptr 1 0),(5,.ptr 2 0),(6,.ptr 3 0),(7,.ptr 4 0),(8,pI 0),(9,.ptr 5 0),(10,.ptr 6 0),(11,pI ((iX pw ([]) pg).2)),(31,pB (eH pg.aFu))],⟨[some ⟨26,[aP pw.aFr]⟩,some ⟨68,eM pm⟩,some ⟨32,b8 pg⟩,some ⟨68,[.nil,.nil,.nil]⟩,some ⟨55,[pI 0,pI 0,pI 0,pI 0,.nil]⟩,some ⟨68,[.lit 4 (aD.trs (x2)),aI pm.aFI 0,.lit 5 (aC.trs (pm.aFC))]⟩,some ⟨55,cR ((iX pw ([]) pg).1)⟩],[⟨3,1,c7 (pm.aFI),false⟩]⟩⟩) FT ?_;refine dY 31 H (fun g8 H=>?_) fun g8 H=>?_
 ·refine qg g8 (b4 [b0 pm.aFA,rI pm.aFI,bK pm.aFC]) (qg g8 (b4 [pS pg.aFz,pI pg.aFu.aFw,pS pg.aFu.aFs,aV pg.aFu.aFt]) (bN H fun x10 z9 H=>(qg g8 (bJ func32 (wN fu pm pg _ z9)) ?_)))
  refine gQ 3 ?_;refine bG H (fun h11 H=>?_) (fun h11 H=>?_)
  ·refine qS (cB H fun z12 H=>(dW (dI [9] bW (dD [37] eG (dI [5] bW (dD [39] eG (dI [5] bW (dD [41] (b4 [pI pg.aFu.aFw,pS pg.aFu.aFs,aV pg.aFu.aFt]) (dI [42] (bJ func79 (tT pg.aFu z7)) (dI [40,43] rQ (dI [44] (iL ([pg]:Z aD)) ?_)))))))))))
   refine dI [38,45] (mQ (es1:=aD.trs (x2)) (es2:=aD.trs (([pg]:Z aD))) (es3:=aD.trs (x2++([pg]:Z aD))) rfl rfl rfl rfl rfl (fun e he=>by rw [aD.tm] at he;obtain⟨x,_,rfl⟩:=List.mem_map.1 he;rw [aD.tc];rfl) (fun e he=>by rw [aD.tm] at he;obtain⟨x,_,rfl⟩:=List.mem_map.1 he;rw [aD.tc];rfl) (by rw [aD.tm];exact List.cons_ne_nil _ _) (by decide) aqQ.h ax4.h (by decide) (by rw [aD.tl,aD.tl];exact zK z12 (by decide)) (by rw [aD.tm,aD.tm,aD.tm,List.map_append])) ?_;refine dI [9] bW (iW [47,46] hY (dN ?_))
   refine gQ 5 ?_;refine q1 (iL ([((iX pw ([]) pg).2)]:Z Int)) (cB H fun z13 H=>(q1 (lO z13) ?_))
   refine gQ 3 ?_;refine cB H fun z14 H=>(cB H fun z15 H=>(dW (dI [9] bW (dD [54] eG (dD [10] (b4 [pI (((iX pw ([]) pg).1).aFw),pI (((iX pw ([]) pg).1).aGa),pI (((iX pw ([]) pg).1).aFS.aFF),pI (((iX pw ([]) pg).1).aFS.aFS),bK (((iX pw ([]) pg).1).aFt)]) (dI [56] (bJ func80 (aqW ((iX pw ([]) pg).1) z14)) (dI [57] (iL ([((iX pw ([]) pg).1)]:Z aC)) ?_)))))))
   refine dI [55,58] (mQ (es1:=aC.trs (pm.aFC)) (es2:=aC.trs (([((iX pw ([]) pg).1)]:Z aC))) (es3:=aC.trs (pm.aFC++([((iX pw ([]) pg).1)]:Z aC))) rfl rfl rfl rfl rfl (fun e he=>by rw [aC.tm] at he;obtain⟨x,_,rfl⟩:=List.mem_map.1 he;rw [aC.tc];rfl) (fun e he=>by rw [aC.tm] at he;obtain⟨x,_,rfl⟩:=List.mem_map.1 he;rw [aC.tc];rfl) (by rw [aC.tm];exact List.cons_ne_nil _ _) (by decide) au8.h azD.h (by decide) (by rw [aC.tl,aC.tl];exact zK z15 (by decide)) (by rw [aC.tm,aC.tm,aC.tm,List.map_append])) ?_;refine dI [9] bW (iW [60,59] hY (dN (qS (dW (dD [9] (b4 [b0 (x2++([pg]:Z aD)),aI (pm.aFI++([((iX pw ([]) pg).2)]:Z Int)) 0,bK (pm.aFC++([((iX pw ([]) pg).1)]:Z aC))]) (dB [10] 0 1 (BG [pI (((iX pw ([]) pg).1).aFw),pI (((iX pw ([]) pg).1).aGa),pI (((iX pw ([]) pg).1).aFS.aFF),pI (((iX pw ([]) pg).1).aFS.aFS),bK (((iX pw ([]) pg).1).aFt)]) (dI [11] bI (iW [6,61] hY (iW [7,62] hY (dI [63] bI (dN (dR.ret ?_))))))))))))
   cases tO H
   exact qe3 (hr:=⟨⟨_,_,_,rfl,rfl,XE.h,rfl,rfl⟩,⟨_,_,_,rfl,rfl,agJ.h,rfl,rfl⟩,rfl,trivial⟩)
  refine gQ 2 ?_;refine dW (dD [9] (b4 [.lit 4 (aD.trs (x2)),aI pm.aFI 0,.lit 5 (aC.trs (pm.aFC))]) (dB [10] 0 1 (BG [pI (((iX pw ([]) pg).1).aFw),pI (((iX pw ([]) pg).1).aGa),pI (((iX pw ([]) pg).1).aFS.aFF),pI (((iX pw ([]) pg).1).aFS.aFS),bK (((iX pw ([]) pg).1).aFt)]) (dI [11] bI (iW [6,61] hY (iW [7,62] hY (dI [63] bI (dN (dR.ret ?_))))))))
  cases tO H
  exact qe3 (hr:=⟨⟨_,_,_,rfl,rfl,XE.h,rfl,rfl⟩,⟨_,_,_,rfl,rfl,agJ.h,rfl,rfl⟩,rfl,trivial⟩)
 refine gQ 9 ?_;refine dW (dD [9] (b4 [.lit 4 (aD.trs (x2)),aI pm.aFI 0,.lit 5 (aC.trs (pm.aFC))]) (dB [10] 0 1 (BG [pI (((iX pw ([]) pg).1).aFw),pI (((iX pw ([]) pg).1).aGa),pI (((iX pw ([]) pg).1).aFS.aFF),pI (((iX pw ([]) pg).1).aFS.aFS),bK (((iX pw ([]) pg).1).aFt)]) (dI [11] bI (iW [6,61] hY (iW [7,62] hY (dI [63] bI (dN (dR.ret ?_))))))))
 cases tO H
 exact qe3 (hr:=⟨⟨_,_,_,rfl,rfl,XE.h,rfl,rfl⟩,⟨_,_,_,rfl,rfl,agJ.h,rfl,rfl⟩,rfl,trivial⟩)
def KX(fu:Nat)(pm:aU)(pg:aD):Nat→Unit→J (LR Unit Int):=fun i1 _=>bd (w6 fu (aR pm.aFA i1) pg) fun x5=>sw x5 (some (.ret (i1:Int))) (some (.next ()))
def lQ(fu:Nat)(pm:aU)(pg:aD):J Int:=so (loopN (KX fu pm pg) (pm.aFA.length-0) 0 ()) fun _=>some (-1)
theorem l3(fu:Nat)(pm:aU)(pg:aD)(r:Int)(H:lQ fu pm pg=some r):bU prog 33 [(aU.pv pm),(aD.pv pg)] (pI r):=by
 refine qJ func33 H (fun C hC H=>?_)
 refine gQ 2 ?_;refine q1 (fQ (eM pm)) (q1 (fQ (b8 pg)) ?_)
 refine gQ 7 ?_;refine dR.fact (cP 0 0 rfl rfl rfl (aD.tl _)) (fun hl2=>?_)
 try dsimp only at hl2
 refine bV (σ:=Unit) (fun i1 _=>⟨[(2,.ptr 0 0),(3,.ptr 1 0),(4,pI 0),(5,pN i1)],⟨[some ⟨68,eM pm⟩,some ⟨32,b8 pg⟩],[]⟩⟩) (fun _=>⟨[(4,pI 0)],⟨[some ⟨68,eM pm⟩,some ⟨32,b8 pg⟩],[]⟩⟩) (fA H) ?_ ?_
 ·rintro i1 ⟨⟩ H
  refine gQ 9 ?_;refine cZ H (fun h3 h3l H=>?_) (fun h3 H=>?_)
  ·refine gQ 4 ?_;refine bN H fun x5 z4 H=>(dW (dI [2] bW (dD [13] eG (dI [5] bI (dI [14,15] mU (dI [16] (gZ (aD.cs (aR pm.aFA i1))) (dD [3] (b4 [pS pg.aFz,pI pg.aFu.aFw,pS pg.aFu.aFs,aV pg.aFu.aFt]) (dI [17,18] (bJ func55 (N0 fu (aR pm.aFA i1) pg _ z4)) (dN ?_)))))))))
   refine bG H (fun h6 H=>gE 5) fun h6 H=>?_;exact gE 6
  exact gE 0
 rintro⟨⟩ H
 exact gE 4
def G0(fu:Nat)(p1:aH)(p0:aU):Nat→Unit→J (LR Unit Bool):=fun i3 _=>gd (NV p1 ([])) (gd (wt (aD.aFu (aR p0.aFA i3))≤13000000) (bd (lQ fu p0 (aR p0.aFA i3)) fun x9=>sw (!decide (x9=(i3:Int))) (some (.ret false)) (gd (gO ((aR p0.aFA i3).aFu)) (sw (!(eH ((aR p0.aFA i3).aFu))) (some (.ret false)) (gd (i3<(p0.aFI).length) (sw (!decide (((cK p1 ([]) (aR p0.aFA i3)).2:Int)=aR p0.aFI i3)) (some (.ret false)) (gd (i3<(p0.aFC).length) (sw (!(xH ((cK p1 ([]) (aR p0.aFA i3)).1) (aR p0.aFC i3))) (some (.ret false)) (some (.next ()))))))))))
def uU(fu:Nat)(p1:aH)(p0:aU):J Bool:=sw (!decide ((p0.aFI.length:Int)=(p0.aFA.length:Int))) (some false) (sw (!decide ((p0.aFC.length:Int)=(p0.aFA.length:Int))) (some false) (so (loopN (G0 fu p1 p0) (p0.aFA.length-0) 0 ()) fun _=>some true))
theorem UH(fu:Nat)(p1:aH)(p0:aU)(r:Bool)(H:uU fu p1 p0=some r):bU prog 30 [(aH.pv p1),(aU.pv p0)] (pB r):=by
 refine qJ func30 H (fun C hC H=>?_)
 refine gQ 2 ?_;refine q1 (fQ ([aP p1.aFr])) (q1 (fQ (eM p0)) ?_)
 refine gQ 13 ?_;refine AL.weak (s':=⟨[(2,.ptr 0 0),(3,.ptr 1 0),(4,pB false),(15,pB (!decide ((p0.aFI.length:Int)=(p0.aFA.length:Int))))],⟨[some ⟨26,[aP p1.aFr]⟩,some ⟨68,eM p0⟩],[]⟩⟩) FT ?_;refine dY 15 H (fun g1 H=>gE 14) fun g1 H=>?_;refine gQ 9 ?_;refine bG H (fun h2 H=>gE 4) fun h2 H=>?_;refine gQ 6 ?_;refine dR.fact (cP 1 0 rfl rfl rfl (aD.tl _)) (fun hl4=>?_)
 try dsimp only at hl4
 refine bV (σ:=Unit) (fun i3 _=>⟨[(2,.ptr 0 0),(3,.ptr 1 0),(4,pB false),(5,pN i3)],⟨[some ⟨26,[aP p1.aFr]⟩,some ⟨68,eM p0⟩],[]⟩⟩) (fun _=>⟨[(4,pB false)],⟨[some ⟨26,[aP p1.aFr]⟩,some ⟨68,eM p0⟩],[]⟩⟩) (fA H) ?_ ?_
 ·rintro i3 ⟨⟩ H
  refine gQ 9 ?_;refine cZ H (fun h5 h5l H=>?_) (fun h5 H=>?_)
  ·refine gQ 4 ?_;refine cB H fun z6 H=>(cB H fun z7 H=>(dW (dB [2] 0 1 (BG [aP p1.aFr]) (dI [3] bW (dB [33] 0 1 tP (dI [5] bI (dI [34,35] mU (dI [36] (gZ (aD.cs (aR p0.aFA i3))) (dI [32,37] (bJ func19 (MH p1 ([]) (aR p0.aFA i3) z6 z7)) (dI [38] bI ?_))))))))))
   iterate 2 refine dI [31] rEx ?_
   refine dE [] tAl (iW [6,39] hY (dI [40] bI (dN (qS (bN H fun x9 z8 H=>?_)))))
   rcases nA (!decide (x9=(i3:Int))) with g10|g10
   ·have H:=sS H g10
    refine dW (dD [3] (b4 [b0 p0.aFA,rI p0.aFI,bK p0.aFC]) (dI [3] bW (dD [42] eG (dI [5] bI (dI [43,44] mU (dI [45] (gZ (aD.cs (aR p0.aFA i3))) (dI [41,46] (bJ func33 (l3 fu p0 (aR p0.aFA i3) _ z8)) (dI [5] bI (dI [47,48] rNe (dI [49] bI ?_))))))))))
    iterate 8 refine JV g10 ?_
    refine dI [50] (CJ g10) (dI [59] bI ?_)
    iterate 7 refine JV rfl ?_
    refine dI [60] (CJ rfl) (dI [68] bI ?_)
    iterate 8 refine JV rfl ?_
    refine dI [69] (CJ rfl) (dN ?_)
    exact gE 5
   have H:=sR H g10
   refine cB H fun z11 H=>?_
   rcases nA (!(eH ((aR p0.aFA i3).aFu))) with g12|g12
   ·have H:=sS H g12
    refine dW (dD [3] (b4 [b0 p0.aFA,rI p0.aFI,bK p0.aFC]) (dI [3] bW (dD [42] eG (dI [5] bI (dI [43,44] mU (dI [45] (gZ (aD.cs (aR p0.aFA i3))) (dI [41,46] (bJ func33 (l3 fu p0 (aR p0.aFA i3) _ z8)) (dI [5] bI (dI [47,48] rNe (dI [49] bI (dI (hg:=bD g10) [3] bW (dD (hg:=bD g10) [51] eG (dI (hg:=bD g10) [5] bI ?_)))))))))))))
    refine dI (hg:=bD g10) [52,53] mU (dI (hg:=bD g10) [54] xE (dI (hg:=bD g10) [55] (gZ (aA.cs ((aR p0.aFA i3).aFu))) (dI (hg:=bD g10) [56] (bJ func34 (oE ((aR p0.aFA i3).aFu) z11)) (dI (hg:=bD g10) [57] JP (dI [50,58] (D3 g10) (dI [59] bI ?_))))))
    iterate 7 refine JV g12 ?_
    refine dI [60] (CJ g12) (dI [68] bI ?_)
    iterate 8 refine JV rfl ?_
    refine dI [69] (CJ rfl) (dN ?_)
    exact gE 5
   have H:=sR H g12
   refine cB H fun z13 H=>?_
   rcases nA (!decide (((cK p1 ([]) (aR p0.aFA i3)).2:Int)=aR p0.aFI i3)) with g14|g14
   ·have H:=sS H g14
    refine dW (dD [3] (b4 [b0 p0.aFA,rI p0.aFI,bK p0.aFC]) (dI [3] bW (dD [42] eG (dI [5] bI (dI [43,44] mU (dI [45] (gZ (aD.cs (aR p0.aFA i3))) (dI [41,46] (bJ func33 (l3 fu p0 (aR p0.aFA i3) _ z8)) (dI [5] bI (dI [47,48] rNe (dI [49] bI (dI (hg:=bD g10) [3] bW (dD (hg:=bD g10) [51] eG (dI (hg:=bD g10) [5] bI ?_)))))))))))))
    refine dI (hg:=bD g10) [52,53] mU (dI (hg:=bD g10) [54] xE (dI (hg:=bD g10) [55] (gZ (aA.cs ((aR p0.aFA i3).aFu))) (dI (hg:=bD g10) [56] (bJ func34 (oE ((aR p0.aFA i3).aFu) z11)) (dI (hg:=bD g10) [57] JP (dI [50,58] (D3 g10) (dI [59] bI (dI (hg:=bD g12) [7] bI (dI (hg:=bD g12) [3] bW (dD (hg:=bD g12) [62] eG (dI (hg:=bD g12) [5] bI (dI (hg:=bD g12) [63,64] mU (dI (hg:=bD g12) [65] wH (dI (hg:=bD g12) [61,66] rNe ?_)))))))))))))
    refine dI [60,67] (D3 g12) (dI [68] bI ?_)
    iterate 8 refine JV g14 ?_
    refine dI [69] (CJ g14) (dN ?_)
    exact gE 5
   have H:=sR H g14
   refine cB H fun z15 H=>(dW (dD [3] (b4 [b0 p0.aFA,rI p0.aFI,bK p0.aFC]) (dI [3] bW (dD [42] eG (dI [5] bI (dI [43,44] mU (dI [45] (gZ (aD.cs (aR p0.aFA i3))) (dI [41,46] (bJ func33 (l3 fu p0 (aR p0.aFA i3) _ z8)) (dI [5] bI (dI [47,48] rNe (dI [49] bI (dI (hg:=bD g10) [3] bW (dD (hg:=bD g10) [51] eG ?_)))))))))))))
   refine dI (hg:=bD g10) [5] bI (dI (hg:=bD g10) [52,53] mU (dI (hg:=bD g10) [54] xE (dI (hg:=bD g10) [55] (gZ (aA.cs ((aR p0.aFA i3).aFu))) (dI (hg:=bD g10) [56] (bJ func34 (oE ((aR p0.aFA i3).aFu) z11)) (dI (hg:=bD g10) [57] JP (dI [50,58] (D3 g10) (dI [59] bI (dI (hg:=bD g12) [7] bI (dI (hg:=bD g12) [3] bW (dD (hg:=bD g12) [62] eG (dI (hg:=bD g12) [5] bI (dI (hg:=bD g12) [63,64] mU (dI (hg:=bD g12) [65] wH ?_)))))))))))))
   refine dI (hg:=bD g12) [61,66] rNe (dI [60,67] (D3 g12) (dI [68] bI (dD (hg:=bD g14) [6] (b4 [pI (((cK p1 ([]) (aR p0.aFA i3)).1).aFw),pI (((cK p1 ([]) (aR p0.aFA i3)).1).aGa),pI (((cK p1 ([]) (aR p0.aFA i3)).1).aFS.aFF),pI (((cK p1 ([]) (aR p0.aFA i3)).1).aFS.aFS),bK (((cK p1 ([]) (aR p0.aFA i3)).1).aFt)]) (dI (hg:=bD g14) [3] bW (dD (hg:=bD g14) [71] eG (dI (hg:=bD g14) [5] bI (dI (hg:=bD g14) [72,73] mU (dI (hg:=bD g14) [74] (gZ (aC.cs (aR p0.aFC i3))) (dI (hg:=bD g14) [70,75] (bJ func20 (aj0 ((cK p1 ([]) (aR p0.aFA i3)).1) (aR p0.aFC i3))) (dI (hg:=bD g14) [76] JP (dI [69,77] (D3 g14) (dN ?_))))))))))))
   refine bG H (fun h16 H=>gE 4) fun h16 H=>?_;exact gE 6
  exact gE 0
 rintro⟨⟩ H
 exact gE 4
def GK(fu:Nat)(p1:aH)(p0:aU):Nat→Unit→J (LR Unit Bool):=fun i3 _=>bd (mR fu p0 (aR p0.aFA i3)) fun x7=>sw (!decide (x7=(i3:Int))) (some (.ret false)) (gd (gO ((aR p0.aFA i3).aFu)) (sw (!(eH ((aR p0.aFA i3).aFu))) (some (.ret false)) (gd (NV p1 ([])) (gd (wt (aD.aFu (aR p0.aFA i3))≤13000000) (gd (i3<(p0.aFI).length) (sw (!decide (((iX p1 ([]) (aR p0.aFA i3)).2:Int)=aR p0.aFI i3)) (some (.ret false)) (gd (i3<(p0.aFC).length) (sw (!(xH ((iX p1 ([]) (aR p0.aFA i3)).1) (aR p0.aFC i3))) (some (.ret false)) (some (.next ()))))))))))
def uR(fu:Nat)(p1:aH)(p0:aU):J Bool:=sw (!decide ((p0.aFI.length:Int)=(p0.aFA.length:Int))) (some false) (sw (!decide ((p0.aFC.length:Int)=(p0.aFA.length:Int))) (some false) (so (loopN (GK fu p1 p0) (p0.aFA.length-0) 0 ()) fun _=>some true))
theorem TM(fu:Nat)(p1:aH)(p0:aU)(r:Bool)(H:uR fu p1 p0=some r):bU prog 31 [(aH.pv p1),(aU.pv p0)] (pB r):=by
 refine qJ func31 H (fun C hC H=>?_)
 refine gQ 2 ?_;refine q1 (fQ ([aP p1.aFr])) (q1 (fQ (eM p0)) ?_)
 refine gQ 13 ?_;refine AL.weak (s':=⟨[(2,.ptr 0 0),(3,.ptr 1 0),(4,pB false),(16,pB (!decide ((p0.aFI.length:Int)=(p0.aFA.length:Int))))],⟨[some ⟨26,[aP p1.aFr]⟩,some ⟨68,eM p0⟩],[]⟩⟩) FT ?_;refine dY 16 H (fun g1 H=>gE 14) fun g1 H=>?_;refine gQ 9 ?_;refine bG H (fun h2 H=>gE 4) fun h2 H=>?_;refine gQ 9 ?_;refine dR.fact (cP 1 0 rfl rfl rfl (aD.tl _)) (fun hl4=>?_)
 try dsimp only at hl4
 refine bV (σ:=Unit) (fun i3 _=>⟨[(2,.ptr 0 0),(3,.ptr 1 0),(4,pB false),(26,b0 p0.aFA),(27,pN p0.aFA.length),(28,pN i3)],⟨[some ⟨26,[aP p1.aFr]⟩,some ⟨68,eM p0⟩],[]⟩⟩) (fun _=>⟨[(4,pB false)],⟨[some ⟨26,[aP p1.aFr]⟩,some ⟨68,eM p0⟩],[]⟩⟩) (fA H) ?_ ?_
 ·rintro i3 ⟨⟩ H
  refine gQ 5 ?_;refine cZ H (fun h5 h5l H=>?_) (fun h5 H=>?_)
  ·refine gQ 7 ?_;refine q1 (gZ (aD.cs (aR p0.aFA i3))) ?_;refine gQ 7 ?_;refine q1 (b4 [b0 p0.aFA,rI p0.aFI,bK p0.aFC]) (q1 (b4 [pS ((aR p0.aFA i3).aFz),pI ((aR p0.aFA i3).aFu.aFw),pS ((aR p0.aFA i3).aFu.aFs),aV ((aR p0.aFA i3).aFu.aFt)]) (bN H fun x7 z6 H=>(q1 (bJ func32 (wN fu p0 (aR p0.aFA i3) _ z6)) ?_)))
   refine gQ 3 ?_;refine AL.weak (s':=⟨[(2,.ptr 0 0),(3,.ptr 1 0),(4,pB false),(5,pN i3),(6,.ptr 2 0),(26,b0 p0.aFA),(27,pN p0.aFA.length),(28,pN i3),(29,pB (decide ((i3:Int)<(p0.aFA.length:Int)))),(30,pN i3),(31,.eptr (aD.cs (aR p0.aFA i3))),(32,(aD.pv (aR p0.aFA i3))),(33,(aU.pv p0)),(34,(aD.pv (aR p0.aFA i3))),(35,pI x7),(36,pN i3),(37,pB (!decide (x7=(i3:Int)))),(38,pB (!decide (x7=(i3:Int))))],⟨[some ⟨26,[aP p1.aFr]⟩,some ⟨68,eM p0⟩,some ⟨32,b8 (aR p0.aFA i3)⟩],[]⟩⟩) FT ?_;refine dY 38 H (fun g8 H=>gE 11) fun g8 H=>?_;refine qg g8 bW (qg g8 (b4 [pI (((aR p0.aFA i3).aFu).aFw),pS (((aR p0.aFA i3).aFu).aFs),aV (((aR p0.aFA i3).aFu).aFt)]) (cB H fun z9 H=>(qg g8 (bJ func78 (H7 ((aR p0.aFA i3).aFu) z9)) ?_)))
   refine gQ 3 ?_;refine bG H (fun h10 H=>gE 4) fun h10 H=>?_;refine gQ 3 ?_;refine q1 (b4 [aP p1.aFr]) (q1 (b4 [pS ((aR p0.aFA i3).aFz),pI ((aR p0.aFA i3).aFu.aFw),pS ((aR p0.aFA i3).aFu.aFs),aV ((aR p0.aFA i3).aFu.aFt)]) (cB H fun z11 H=>(cB H fun z12 H=>(q1 (bJ func18 (ad0 p1 ([]) (aR p0.aFA i3) z11 z12)) ?_))))
   refine gQ 8 ?_;refine cB H fun z13 H=>?_
   rcases nA (!decide (((iX p1 ([]) (aR p0.aFA i3)).2:Int)=aR p0.aFI i3)) with g14|g14
   ·have H:=sS H g14
    refine dW (dI [8] bI (dI [3] bW (dD [51] eG (dI [5] bI (dI [52,53] mU (dI [54] wH (dI [50,55] rNe (dI [56] bI ?_))))))))
    iterate 8 refine JV g14 ?_
    refine dI [57] (CJ g14) (dN ?_)
    exact gE 5
   have H:=sR H g14
   refine cB H fun z15 H=>(dW (dI [8] bI (dI [3] bW (dD [51] eG (dI [5] bI (dI [52,53] mU (dI [54] wH (dI [50,55] rNe (dI [56] bI (dD (hg:=bD g14) [7] (b4 [pI (((iX p1 ([]) (aR p0.aFA i3)).1).aFw),pI (((iX p1 ([]) (aR p0.aFA i3)).1).aGa),pI (((iX p1 ([]) (aR p0.aFA i3)).1).aFS.aFF),pI (((iX p1 ([]) (aR p0.aFA i3)).1).aFS.aFS),bK (((iX p1 ([]) (aR p0.aFA i3)).1).aFt)]) (dI (hg:=bD g14) [3] bW (dD (hg:=bD g14) [59] eG (dI (hg:=bD g14) [5] bI ?_)))))))))))))
   refine dI (hg:=bD g14) [60,61] mU (dI (hg:=bD g14) [62] (gZ (aC.cs (aR p0.aFC i3))) (dI (hg:=bD g14) [58,63] (bJ func81 (atK ((iX p1 ([]) (aR p0.aFA i3)).1) (aR p0.aFC i3))) (dI (hg:=bD g14) [64] JP (dI [57,65] (D3 g14) (dN ?_)))))
   refine bG H (fun h16 H=>gE 4) fun h16 H=>?_;exact gE 5
  exact gE 0
 rintro⟨⟩ H
 exact gE 4
def nF(fu:Nat)(pw:aH)(pm:aU)(pg:aD):J (aU×aC×Int):=gd (XI pm) (sw (decide ((aU.aFI pm).length=0)) (gd (NV pw ([])) (gd (wt (aD.aFu pg)≤13000000) (gd (gO pg.aFu) (sw (eH pg.aFu) (bd (lQ fu pm pg) fun x8=>sw (decide (x8<0)) (gd (((aU.aFA pm)).length+(([pg]:Z aD)).length≤68719476736) (gd (((aU.aFI pm)).length+(([((cK pw ([]) pg).2)]:Z Int)).length≤68719476736) (gd (CW ((cK pw ([]) pg).1)) (gd (((aU.aFC pm)).length+(([((cK pw ([]) pg).1)]:Z aC)).length≤68719476736) (some ((aU.mk ((aU.aFA pm)++([pg]:Z aD)) ((aU.aFI pm)++([((cK pw ([]) pg).2)]:Z Int)) ((aU.aFC pm)++([((cK pw ([]) pg).1)]:Z aC))),((cK pw ([]) pg).1),((cK pw ([]) pg).2))))))) (some ((aU.mk (aU.aFA pm) (aU.aFI pm) (aU.aFC pm)),((cK pw ([]) pg).1),((cK pw ([]) pg).2)))) (some ((aU.mk (aU.aFA pm) (aU.aFI pm) (aU.aFC pm)),((cK pw ([]) pg).1),((cK pw ([]) pg).2))))))) (gd (NV pw ([])) (gd (wt (aD.aFu pg)≤13000000) (gd (gO pg.aFu) (sw (eH pg.aFu) (bd (lQ fu pm pg) fun x19=>sw (decide (x19<0)) (gd (((aU.aFA pm)).length+(([pg]:Z aD)).length≤68719476736) (gd (((aU.aFI pm)).length+(([((cK pw ([]) pg).2)]:Z Int)).length≤68719476736) (gd (CW ((cK pw ([]) pg).1)) (gd (((aU.aFC pm)).length+(([((cK pw ([]) pg).1)]:Z aC)).length≤68719476736) (some ((aU.mk ((aU.aFA pm)++([pg]:Z aD)) ((aU.aFI pm)++([((cK pw ([]) pg).2)]:Z Int)) ((aU.aFC pm)++([((cK pw ([]) pg).1)]:Z aC))),((cK pw ([]) pg).1),((cK pw ([]) pg).2))))))) (some ((aU.mk (aU.aFA pm) (aU.aFI pm) (aU.aFC pm)),((cK pw ([]) pg).1),((cK pw ([]) pg).2)))) (some ((aU.mk (aU.aFA pm) (aU.aFI pm) (aU.aFC pm)),((cK pw ([]) pg).1),((cK pw ([]) pg).2))))))))
def auW(r:aU×aC×Int)(q:PV)(t:dL):Prop:= ∃i j k:Nat,
 (q= .tup [.agg [fZ r.1.aFA i,aI r.1.aFI j,cS r.1.aFC k],aC.pv r.2.1,pI r.2.2]∧t.rows[i]?=some ⟨32,4,aD.trs r.1.aFA,false⟩∧t.rows[j]?=some ⟨3,1,c7 r.1.aFI,false⟩∧t.rows[k]?=some ⟨55,5,aC.trs r.1.aFC,false⟩∧i≠j∧i≠k∧j≠k)∨
 (r.1.aFI= []∧q= .tup [.agg [fZ r.1.aFA i,.lit 1 (c7 r.1.aFI),cS r.1.aFC k],aC.pv r.2.1,pI r.2.2])
theorem G4(fu:Nat)(pw:aH)(pm:aU)(pg:aD)(r:aU×aC×Int)(H:nF fu pw pm pg=some r):cM Tryz.prog 71 [(aH.pv pw),(aU.pv pm),(aD.pv pg)] ⟨[],[]⟩ (auW r):=by
 have H:=hd0 H
 refine qI Tryz.func71 (fun C hC=>?_)
 refine gQ 2 ?_;refine q1 (fQ ([aP pw.aFr])) (q1 (fQ (eM pm)) (q1 (fQ (b8 pg)) ?_))
 refine gQ 6 ?_;refine q1 (b4 [b0 pm.aFA,rI pm.aFI,bK pm.aFC]) (cB H fun z1 H=>?_)
 rcases nA (decide ((aU.aFI pm).length=0)) with g2|g2
 ·have H:=sS H g2
  obtain⟨G,X,E⟩:=pm
  obtain rfl:X= []:=List.eq_nil_of_length_eq_zero (of_decide_eq_true g2)
  refine q1 (ae1 (ps:= [_]) rfl rfl Tryz.func128 (by kernel_rfl) rfl rfl mG rfl (ajF (aU.mk G [] E) z1 g2)) ?_;refine gQ 5 ?_;refine q1 (b4 [aP pw.aFr]) (q1 (b4 [pS pg.aFz,pI pg.aFu.aFw,pS pg.aFu.aFs,aV pg.aFu.aFt]) (cB H fun z3 H=>(cB H fun z4 H=>(q1 (bJ Tryz.func19 (MH pw ([]) pg z3 z4)) ?_))))
  refine gQ 11 ?_;refine q1 (b4 [pI pg.aFu.aFw,pS pg.aFu.aFs,aV pg.aFu.aFt]) (cB H fun z5 H=>(q1 (bJ Tryz.func34 (oE pg.aFu z5)) (q1 bI ?_)))
  refine AL.weak (s':=⟨[(4,.ptr 1 0),(5,.ptr 2 0),(6,.ptr 3 0),(7,.ptr 4 0),(8,pI 0),(9,.ptr 5 0),(10,.ptr 6 0),(11,pI ((cK pw ([]) pg).2)),(23,pB (eH pg.aFu))],⟨[some ⟨26,[aP pw.aFr]⟩,some ⟨68,eM (aU.mk G [] E)⟩,some ⟨32,b8 pg⟩,some ⟨68,[.nil,.nil,.nil]⟩,some ⟨55,[pI 0,pI 0,pI 0,pI 0,.nil]⟩,some ⟨68,[fZ (aU.aFA (aU.mk G [] E)) 0,.lit 1 (c7 ((aU.aFI (aU.mk G [] E)))),cS (aU.aFC (aU.mk G [] E)) 1]⟩,some ⟨55,cR ((cK pw ([]) pg).1)⟩],[⟨32,4,aD.trs ((aU.aFA (aU.mk G [] E))),false⟩,⟨55,5,aC.trs ((aU.aFC (aU.mk G [] E))),false⟩]⟩⟩) FT ?_;refine dY 23 H (fun g6 H=>?_) fun g6 H=>?_
  ·refine qg g6 (b4 [b0 (aU.mk G [] E).aFA,rI (aU.mk G [] E).aFI,bK (aU.mk G [] E).aFC]) (qg g6 (b4 [pS pg.aFz,pI pg.aFu.aFw,pS pg.aFu.aFs,aV pg.aFu.aFt]) (bN H fun x8 z7 H=>(qg g6 (bJ Tryz.func33 (l3 fu (aU.mk G [] E) pg _ z7)) ?_)))
   refine gQ 3 ?_;refine bG H (fun h9 H=>?_) (fun h9 H=>?_)
   ·refine qS (cB H fun z10 H=>(dW (dI [9] bW (dD [29] eG (dI [5] bW (dD [31] eG (dI [5] bW (dD [33] (b4 [pI pg.aFu.aFw,pS pg.aFu.aFs,aV pg.aFu.aFt]) (dI [34] (bJ Tryz.func56 (vM pg.aFu z5)) (dI [32,35] rQ (dI [36] (iL ([pg]:Z aD)) (dE [30,37] (lO z10) (dI [9] bW ?_)))))))))))))
    refine iW [39,38] hY (dN ?_)
    refine gQ 5 ?_;refine q1 (iL ([((cK pw ([]) pg).2)]:Z Int)) (cB H fun z11 H=>?_)
    refine q1 (JX (es2:=c7 ([((cK pw ([]) pg).2)]:Z Int)) rfl rfl rfl rfl rfl (ZO _) (by exact List.cons_ne_nil _ _) (by decide) au9.h azE.h (by decide) (by show 1*_≤_;decide)) ?_;refine gQ 3 ?_;refine cB H fun z12 H=>(cB H fun z13 H=>(dW (dI [9] bW (dD [46] eG (dD [10] (b4 [pI (((cK pw ([]) pg).1).aFw),pI (((cK pw ([]) pg).1).aGa),pI (((cK pw ([]) pg).1).aFS.aFF),pI (((cK pw ([]) pg).1).aFS.aFS),bK (((cK pw ([]) pg).1).aFt)]) (dI [48] (bJ Tryz.func129 (aeH ((cK pw ([]) pg).1) z12)) (dI [49] (iL ([((cK pw ([]) pg).1)]:Z aC)) (dE [47,50] (lO z13) (dI [9] bW (iW [52,51] hY (dN (qS (dW ?_)))))))))))))
    refine dD [9] (b4 [fZ ((aU.aFA (aU.mk G [] E))++([pg]:Z aD)) 0,aI ((aU.aFI (aU.mk G [] E))++([((cK pw ([]) pg).2)]:Z Int)) 2,cS ((aU.aFC (aU.mk G [] E))++([((cK pw ([]) pg).1)]:Z aC)) 1]) (dB [10] 0 1 (BG [pI (((cK pw ([]) pg).1).aFw),pI (((cK pw ([]) pg).1).aGa),pI (((cK pw ([]) pg).1).aFS.aFF),pI (((cK pw ([]) pg).1).aFS.aFS),bK (((cK pw ([]) pg).1).aFt)]) (dI [11] bI (iW [6,53] hY (iW [7,54] hY (dI [55] bI (dN (dR.ret ?_)))))))
    obtain rfl:_=r:=(tO H:)
    exact qe3 (q:= .tup [.agg [fZ (aU.aFA (aU.mk G [] E)++ [pg]) 0,aI (aU.aFI (aU.mk G [] E)++ [(cK pw [] pg).2]) 2,cS (aU.aFC (aU.mk G [] E)++ [(cK pw [] pg).1]) 1],aC.pv (cK pw [] pg).1,pI (cK pw [] pg).2]) (st':=⟨[],[⟨32,4,aD.trs (aU.aFA (aU.mk G [] E)++ [pg]),false⟩,⟨55,5,aC.trs (aU.aFC (aU.mk G [] E)++ [(cK pw [] pg).1]),false⟩,⟨3,1,c7 (aU.aFI (aU.mk G [] E)++ [(cK pw [] pg).2]),false⟩]⟩) ⟨0,2,1,.inl ⟨rfl,rfl,rfl,rfl,by decide,by decide,by decide⟩⟩ (hr:=⟨⟨_,_,_,rfl,rfl,XE.h,rfl,rfl⟩,⟨_,_,_,rfl,rfl,agJ.h,rfl,rfl⟩,rfl,trivial⟩)
   refine gQ 2 ?_;refine dW (dD [9] (b4 [fZ (aU.aFA (aU.mk G [] E)) 0,.lit 1 (c7 ((aU.aFI (aU.mk G [] E)))),cS (aU.aFC (aU.mk G [] E)) 1]) (dB [10] 0 1 (BG [pI (((cK pw ([]) pg).1).aFw),pI (((cK pw ([]) pg).1).aGa),pI (((cK pw ([]) pg).1).aFS.aFF),pI (((cK pw ([]) pg).1).aFS.aFS),bK (((cK pw ([]) pg).1).aFt)]) (dI [11] bI (iW [6,53] hY (iW [7,54] hY (dI [55] bI (dN (dR.ret ?_))))))))
   obtain rfl:_=r:=(tO H:)
   exact qe3 (q:= .tup [.agg [fZ (aU.aFA (aU.mk G [] E)) 0,.lit 1 (c7 (aU.aFI (aU.mk G [] E))),cS (aU.aFC (aU.mk G [] E)) 1],aC.pv (cK pw [] pg).1,pI (cK pw [] pg).2]) (st':=⟨[],[⟨32,4,aD.trs (aU.aFA (aU.mk G [] E)),false⟩,⟨55,5,aC.trs (aU.aFC (aU.mk G [] E)),false⟩]⟩) ⟨0,0,1,.inr ⟨rfl,rfl⟩⟩ (hr:=⟨⟨_,_,_,rfl,rfl,XE.h,rfl,rfl⟩,⟨_,_,_,rfl,rfl,agJ.h,rfl,rfl⟩,rfl,trivial⟩)
  refine gQ 9 ?_;refine dW (dD [9] (b4 [fZ (aU.aFA (aU.mk G [] E)) 0,.lit 1 (c7 ((aU.aFI (aU.mk G [] E)))),cS (aU.aFC (aU.mk G [] E)) 1]) (dB [10] 0 1 (BG [pI (((cK pw ([]) pg).1).aFw),pI (((cK pw ([]) pg).1).aGa),pI (((cK pw ([]) pg).1).aFS.aFF),pI (((cK pw ([]) pg).1).aFS.aFS),bK (((cK pw ([]) pg).1).aFt)]) (dI [11] bI (iW [6,53] hY (iW [7,54] hY (dI [55] bI (dN (dR.ret ?_))))))))
  obtain rfl:_=r:=(tO H:)
  exact qe3 (q:= .tup [.agg [fZ (aU.aFA (aU.mk G [] E)) 0,.lit 1 (c7 (aU.aFI (aU.mk G [] E))),cS (aU.aFC (aU.mk G [] E)) 1],aC.pv (cK pw [] pg).1,pI (cK pw [] pg).2]) (st':=⟨[],[⟨32,4,aD.trs (aU.aFA (aU.mk G [] E)),false⟩,⟨55,5,aC.trs (aU.aFC (aU.mk G [] E)),false⟩]⟩) ⟨0,0,1,.inr ⟨rfl,rfl⟩⟩ (hr:=⟨⟨_,_,_,rfl,rfl,XE.h,rfl,rfl⟩,⟨_,_,_,rfl,rfl,agJ.h,rfl,rfl⟩,rfl,trivial⟩)
 have H:=sR H g2
 refine q1 (ae2 (ps:= [_]) rfl rfl Tryz.func128 (by kernel_rfl) rfl rfl mG rfl (ajG pm z1 g2)) ?_;refine gQ 5 ?_;refine q1 (b4 [aP pw.aFr]) (q1 (b4 [pS pg.aFz,pI pg.aFu.aFw,pS pg.aFu.aFs,aV pg.aFu.aFt]) (cB H fun z14 H=>(cB H fun z15 H=>(q1 (bJ Tryz.func19 (MH pw ([]) pg z14 z15)) ?_))))
 refine gQ 11 ?_;refine q1 (b4 [pI pg.aFu.aFw,pS pg.aFu.aFs,aV pg.aFu.aFt]) (cB H fun z16 H=>(q1 (bJ Tryz.func34 (oE pg.aFu z16)) (q1 bI ?_)))
 refine AL.weak (s':=⟨[(4,.ptr 1 0),(5,.ptr 2 0),(6,.ptr 3 0),(7,.ptr 4 0),(8,pI 0),(9,.ptr 5 0),(10,.ptr 6 0),(11,pI ((cK pw ([]) pg).2)),(23,pB (eH pg.aFu))],⟨[some ⟨26,[aP pw.aFr]⟩,some ⟨68,eM pm⟩,some ⟨32,b8 pg⟩,some ⟨68,[.nil,.nil,.nil]⟩,some ⟨55,[pI 0,pI 0,pI 0,pI 0,.nil]⟩,some ⟨68,[fZ (aU.aFA pm) 0,aI (aU.aFI pm) 1,cS (aU.aFC pm) 2]⟩,some ⟨55,cR ((cK pw ([]) pg).1)⟩],[⟨32,4,aD.trs ((aU.aFA pm)),false⟩,⟨3,1,c7 ((aU.aFI pm)),false⟩,⟨55,5,aC.trs ((aU.aFC pm)),false⟩]⟩⟩) FT ?_;refine dY 23 H (fun g17 H=>?_) fun g17 H=>?_
 ·refine qg g17 (b4 [b0 pm.aFA,rI pm.aFI,bK pm.aFC]) (qg g17 (b4 [pS pg.aFz,pI pg.aFu.aFw,pS pg.aFu.aFs,aV pg.aFu.aFt]) (bN H fun x19 z18 H=>(qg g17 (bJ Tryz.func33 (l3 fu pm pg _ z18)) ?_)))
  refine gQ 3 ?_;refine bG H (fun h20 H=>?_) (fun h20 H=>?_)
  ·refine qS (cB H fun z21 H=>(dW (dI [9] bW (dD [29] eG (dI [5] bW (dD [31] eG (dI [5] bW (dD [33] (b4 [pI pg.aFu.aFw,pS pg.aFu.aFs,aV pg.aFu.aFt]) (dI [34] (bJ Tryz.func56 (vM pg.aFu z16)) (dI [32,35] rQ (dI [36] (iL ([pg]:Z aD)) (dE [30,37] (lO z21) (dI [9] bW ?_)))))))))))))
   refine iW [39,38] hY (dN ?_)
   refine gQ 5 ?_;refine q1 (iL ([((cK pw ([]) pg).2)]:Z Int)) (cB H fun z22 H=>(q1 (lO z22) ?_))
   refine gQ 3 ?_;refine cB H fun z23 H=>(cB H fun z24 H=>(dW (dI [9] bW (dD [46] eG (dD [10] (b4 [pI (((cK pw ([]) pg).1).aFw),pI (((cK pw ([]) pg).1).aGa),pI (((cK pw ([]) pg).1).aFS.aFF),pI (((cK pw ([]) pg).1).aFS.aFS),bK (((cK pw ([]) pg).1).aFt)]) (dI [48] (bJ Tryz.func129 (aeH ((cK pw ([]) pg).1) z23)) (dI [49] (iL ([((cK pw ([]) pg).1)]:Z aC)) (dE [47,50] (lO z24) (dI [9] bW (iW [52,51] hY (dN (qS (dW ?_)))))))))))))
   refine dD [9] (b4 [fZ ((aU.aFA pm)++([pg]:Z aD)) 0,aI ((aU.aFI pm)++([((cK pw ([]) pg).2)]:Z Int)) 1,cS ((aU.aFC pm)++([((cK pw ([]) pg).1)]:Z aC)) 2]) (dB [10] 0 1 (BG [pI (((cK pw ([]) pg).1).aFw),pI (((cK pw ([]) pg).1).aGa),pI (((cK pw ([]) pg).1).aFS.aFF),pI (((cK pw ([]) pg).1).aFS.aFS),bK (((cK pw ([]) pg).1).aFt)]) (dI [11] bI (iW [6,53] hY (iW [7,54] hY (dI [55] bI (dN (dR.ret ?_)))))))
   obtain rfl:_=r:=(tO H:)
   exact qe3 (q:= .tup [.agg [fZ (aU.aFA pm++ [pg]) 0,aI (aU.aFI pm++ [(cK pw [] pg).2]) 1,cS (aU.aFC pm++ [(cK pw [] pg).1]) 2],aC.pv (cK pw [] pg).1,pI (cK pw [] pg).2]) (st':=⟨[],[⟨32,4,aD.trs (aU.aFA pm++ [pg]),false⟩,⟨3,1,c7 (aU.aFI pm++ [(cK pw [] pg).2]),false⟩,⟨55,5,aC.trs (aU.aFC pm++ [(cK pw [] pg).1]),false⟩]⟩) ⟨0,1,2,.inl ⟨rfl,rfl,rfl,rfl,by decide,by decide,by decide⟩⟩ (hr:=⟨⟨_,_,_,rfl,rfl,XE.h,rfl,rfl⟩,⟨_,_,_,rfl,rfl,agJ.h,rfl,rfl⟩,rfl,trivial⟩)
  refine gQ 2 ?_;refine dW (dD [9] (b4 [fZ (aU.aFA pm) 0,aI (aU.aFI pm) 1,cS (aU.aFC pm) 2]) (dB [10] 0 1 (BG [pI (((cK pw ([]) pg).1).aFw),pI (((cK pw ([]) pg).1).aGa),pI (((cK pw ([]) pg).1).aFS.aFF),pI (((cK pw ([]) pg).1).aFS.aFS),bK (((cK pw ([]) pg).1).aFt)]) (dI [11] bI (iW [6,53] hY (iW [7,54] hY (dI [55] bI (dN (dR.ret ?_))))))))
  obtain rfl:_=r:=(tO H:)
  exact qe3 (q:= .tup [.agg [fZ (aU.aFA pm) 0,aI (aU.aFI pm) 1,cS (aU.aFC pm) 2],aC.pv (cK pw [] pg).1,pI (cK pw [] pg).2]) (st':=⟨[],[⟨32,4,aD.trs (aU.aFA pm),false⟩,⟨3,1,c7 (aU.aFI pm),false⟩,⟨55,5,aC.trs (aU.aFC pm),false⟩]⟩) ⟨0,1,2,.inl ⟨rfl,rfl,rfl,rfl,by decide,by decide,by decide⟩⟩ (hr:=⟨⟨_,_,_,rfl,rfl,XE.h,rfl,rfl⟩,⟨_,_,_,rfl,rfl,agJ.h,rfl,rfl⟩,rfl,trivial⟩)
 refine gQ 9 ?_;refine dW (dD [9] (b4 [fZ (aU.aFA pm) 0,aI (aU.aFI pm) 1,cS (aU.aFC pm) 2]) (dB [10] 0 1 (BG [pI (((cK pw ([]) pg).1).aFw),pI (((cK pw ([]) pg).1).aGa),pI (((cK pw ([]) pg).1).aFS.aFF),pI (((cK pw ([]) pg).1).aFS.aFS),bK (((cK pw ([]) pg).1).aFt)]) (dI [11] bI (iW [6,53] hY (iW [7,54] hY (dI [55] bI (dN (dR.ret ?_))))))))
 obtain rfl:_=r:=(tO H:)
 exact qe3 (q:= .tup [.agg [fZ (aU.aFA pm) 0,aI (aU.aFI pm) 1,cS (aU.aFC pm) 2],aC.pv (cK pw [] pg).1,pI (cK pw [] pg).2]) (st':=⟨[],[⟨32,4,aD.trs (aU.aFA pm),false⟩,⟨3,1,c7 (aU.aFI pm),false⟩,⟨55,5,aC.trs (aU.aFC pm),false⟩]⟩) ⟨0,1,2,.inl ⟨rfl,rfl,rfl,rfl,by decide,by decide,by decide⟩⟩ (hr:=⟨⟨_,_,_,rfl,rfl,XE.h,rfl,rfl⟩,⟨_,_,_,rfl,rfl,agJ.h,rfl,rfl⟩,rfl,trivial⟩)
theorem XC(fu:Nat)(pw:aH)(pm:aU)(pg:aD)(r:aU×aC×Int)(H:nF fu pw pm pg=some r):bU Tryz.prog 71 [(aH.pv pw),(aU.pv pm),(aD.pv pg)] (.tup [(aU.pv r.1),(aC.pv r.2.1),pI r.2.2]):=fun av m w vals hst hv=>by
 refine(G4 fu pw pm pg r H av m w vals hst hv).mono fun e w'=>?_;rintro⟨q,st',m',v,k1,hR,k3,k4,k5⟩
 have hl:xG st' ⟨[],[]⟩:=StLe_mk' (by cases st'.boxes<;>trivial) rfl
 refine⟨_,⟨[],[]⟩,m',v,k1,⟨rfl,rfl⟩,hl.sto k3,hl.ev k4 kT.nil,hl.rv _ _ rfl (PV.Le.rv ?_ k5)⟩
 obtain⟨i,j,k,h|h⟩:=hR
 ·rw [h.1];exact mG
 ·rw [h.2];exact mG
end
end Go.Proofs.YtfcoaagbccmahaaGreat.W
namespace Go.Proofs.YtfcoaagbccmahaaGreat
open Go.RowKit
def atM:Value→Bool
 | .int .i64 _=>true
 |_=>false
inductive ShT:Tr→Prop
 |leaf {v:Value}:ShT (.leaf v)
 |row {sz:Nat} {es:List (List Tr)} (h1: ∀e∈es,∃d∈e,∀v,d= .leaf v→atM v=false) (h2: ∀e∈es,∀d∈e,ShT d):ShT (.row sz es)
theorem cH.away{ok ok':Nat→Nat→Prop}{w:World}{g:Nat}(hk: ∀b o,b<w.heap.size→ok b o→b≠g→ok' b o)(hg: ∀o x,ok g o→w.cell? ⟨g,o,none⟩=some x→atM x=true){t:Tr}{v:Value}(h:cH ok w t v)(hs:ShT t):cH ok' w t v:=by
 induction h with
 |leaf h=>exact .leaf h
 | @row sz es a cap c h1 h2 h3 h4 ih=>
  cases hs with
  |row s1 s2=>
   refine .row c h1 h2 (fun hne=>?_) fun i e he j d hd=>ih i e he j d hd (s2 e (List.mem_of_getElem? he) d (List.mem_of_getElem? hd))
   obtain⟨b,off,ha,hb,h5⟩:=h3 hne
   have hbg:b≠g:=by
    rintro rfl
    obtain⟨e,l,rfl⟩: ∃e l,es=e::l:=by
     cases es with
     |nil=>exact absurd rfl hne
     |cons e l=>exact⟨e,l,rfl⟩
    obtain⟨d,hd,hn⟩:=s1 e (by simp)
    obtain⟨j,hj⟩:=List.getElem?_of_mem hd
    obtain⟨k1,k2⟩:=h5 0 e rfl j d hj
    have hi:=hg _ _ k1 k2
    have hr:=h4 0 e rfl j d hj
    cases d with
    |leaf u=>
     rw [hr.leaf_eq.1,hn u rfl] at hi
     cases hi
    |row sz2 es2=>
     obtain⟨a2,cap2,e2,-⟩:=hr.shape
     rw [e2] at hi
     cases hi
   exact⟨b,off,ha,hb,fun i e he j d hd=>⟨hk _ _ hb (h5 i e he j d hd).1 hbg,(h5 i e he j d hd).2⟩⟩
def ShP(r:Nat):PV→Prop
 | .t t=>ShT t
 | .nil=>True
 | .acc sz es r'=>r'≠r∧ShT (.row sz es)
 | .lit sz es=>ShT (.row sz es)
 | .ptr _ _=>True
 |_=>False
inductive Th (r k n:Nat):PV→PV→Prop
 |same {p:PV} (h:ShP r p):Th r k n p p
 |row {sz:Nat} {es:List (List Tr)} (h:es.length=n):Th r k n (.acc sz es r) (.gsl k n)
inductive ThL (r k n:Nat):List PV→List PV→Prop
 |nil:ThL r k n [] []
 |cons {p q:PV} {ps qs:List PV} (h:Th r k n p q) (t:ThL r k n ps qs):ThL r k n (p::ps) (q::qs)
section
variable {C:qT} {n:Nat} {s s':AS}
theorem auY{r K E:Nat}{cs:Z Int}(hne:cs≠ [])(hrow:s.st.rows[r]?=some ⟨E,1,c7 cs,false⟩)(hpre:C.st.rows.length≤r)(hK:s.st.boxes[K]?=none)
 (hb: ∀(k:Nat) (x':dO),k≠K→s'.st.boxes[k]?=some (some x')→ ∃x,s.st.boxes[k]?=some (some x)∧x'.ty=x.ty∧ThL r K cs.length x.cells x'.cells)
 (hb2: ∀(k:Nat) (x:dO),s.st.boxes[k]?=some (some x)→ ∃x',s'.st.boxes[k]?=some (some x'))
 (hnew:s'.st.boxes[K]?=some (some ⟨E,cs.map pI⟩)) (hrows: ∀(i:Nat) (row:mV),s'.st.rows[i]?=some row→(i=r∧row=⟨E,1,[],false⟩)∨(i≠r∧s.st.rows[i]?=some row∧ShT (.row row.sz row.es)))
 (hrows2: ∀(i:Nat) (row:mV),i≠r→s.st.rows[i]?=some row→s'.st.rows[i]?=some row)
 (he: ∀(i:Nat) (q:PV),s'.env.lookup i=some q→ ∃p,s.env.lookup i=some p∧Th r K cs.length p q):Wk C n s s':=fun m a w h=>by
 obtain⟨k1,k2,k3⟩:=h.sto.row r _ hrow
 have hcs:(c7 cs).length=cs.length:=by simp [c7]
 rcases k3 with⟨-,k3⟩|⟨g,c,cur,hγ,hob,hsz,hlc,hcm,hrep⟩
 ·exact absurd (by rw [← List.length_eq_zero_iff,← hcs,show c7 cs= [] from k3];rfl) hne
 replace hlc:cs.length≤c:=by rw [← hcs];exact hlc
 obtain⟨m',hm'⟩: ∃m':kQ,m'=⟨fun k=>if k=K then g else m.ρ k,fun i=>if i=r then none else m.γ i⟩:=⟨_,rfl⟩
 have hρ: ∀k,k≠K→m'.ρ k=m.ρ k:=fun k hk=>by rw [hm'];exact if_neg hk
 have hρK:m'.ρ K=g:=by rw [hm'];exact if_pos rfl
 have hγ': ∀i,i≠r→m'.γ i=m.γ i:=fun i hi=>by rw [hm'];exact if_neg hi
 have hγr:m'.γ r=none:=by rw [hm'];exact if_pos rfl
 have hnK: ∀(k:Nat) (x:dO),s.st.boxes[k]?=some (some x)→k≠K:=fun k x hk e=>by rw [e,hK] at hk;cases hk
 have hst': ∀b o,s.st.ok m b o→b≠g→s'.st.ok m' b o:=fun b o ho hg=>by
  refine⟨fun k x hk=>?_,fun i row g' c' hi hg' e=>?_⟩
  ·by_cases hk':k=K
   ·rw [hk',hρK];exact fun e=>hg e.symm
   ·obtain⟨y,hy,-⟩:=hb k x hk' hk
    rw [hρ k hk']
    exact ho.1 k y hy
  ·rcases hrows i row hi with⟨rfl,-⟩|⟨h1,h2,-⟩
   ·rw [hγr] at hg';cases hg'
   ·rw [hγ' i h1] at hg'
    exact ho.2 i row g' c' h2 hg' e
 have hok: ∀b o,b<w.heap.size→kV C.av s.st m b o→b≠g→kV C.av s'.st m' b o:=fun b o _ ho hg=>⟨ho.1,hst' b o ho.2 hg⟩
 have hcell: ∀q (hq:q<cs.length),w.cell? ⟨g,q,none⟩=some (.int .i64 cs[q])∧sN (.int .i64 cs[q]):=fun q hq=>by
  have he:(c7 cs)[q]?=some [.leaf (.int .i64 cs[q])]:=by simp [c7,hq]
  cases hrep with
  |row cf h1 h2 h3 h4=>
   obtain⟨b,off,ha,hbl,h5⟩:=h3 (by intro e;rw [show c7 cs= [] from e] at he;simp at he)
   cases ha
   have h6:=(h5 q _ he 0 _ rfl).2
   obtain⟨h7,h8⟩:=(h4 q _ he 0 _ rfl).leaf_eq
   rw [h7,show 0+q*1+0=q by omega] at h6
   exact⟨h6,h8⟩
 have hint: ∀o x,kV C.av s.st m g o→w.cell? ⟨g,o,none⟩=some x→atM x=true:=fun o x ho hx=>by
  have hlt:o<(c7 cs).length*1:=ho.2.2 r _ g c hrow hγ rfl
  rw [hcs,Nat.mul_one] at hlt
  rw [(hcell o hlt).1] at hx
  cases hx
  rfl
 have hrv: ∀p q v,Th r K cs.length p q→RV (kV C.av s.st m) s.st m w p v→RV (kV C.av s'.st m') s'.st m' w q v:=fun p q v ht hv=>by
  cases ht with
  |same hs=>
   match p,hs,hv with
   | .t t,hs,hv=>exact cH.away hok hint hv hs
   | .nil,_,hv=>exact hv
   | .acc sz es r',hs,hv=>
    obtain⟨row,q1,q2,q3,q4,q5⟩:=hv
    exact⟨row,hrows2 r' row hs.1 q1,q2,q3,cH.away hok hint q4 hs.2,fun e=>by rw [hγ' r' hs.1];exact q5 e⟩
   | .lit sz es,hs,hv=>exact⟨cH.away hok hint hv.1 hs,hv.2⟩
   | .ptr k off,_,hv=>
    obtain⟨⟨x,hx⟩,hv⟩:=hv
    exact⟨hb2 k x hx,by rw [hρ k (hnK k x hx)];exact hv⟩
  |row hl=>
   obtain⟨row,q1,q2,q3,q4,q5⟩:=hv
   rw [hrow] at q1
   cases q1
   refine⟨⟨_,hnew⟩,c,hlc,hcm,?_⟩
   rw [hρK,q5 (by rw [hl];exact hcs.symm),hγ,hl]
   rfl
 have hrvl: ∀ {ps qs:Z PV} {vs:Z Value},ThL r K cs.length ps qs→iM (kV C.av s.st m) s.st m w ps vs→iM (kV C.av s'.st m') s'.st m' w qs vs:=fun {ps qs vs} ht hv=>by
  induction ht generalizing vs with
  |nil=>cases vs with
   |nil=>trivial
   |cons _ _=>exact hv.elim
  |cons h _ ih=>cases vs with
   |nil=>exact hv.elim
   |cons u vs=>exact⟨hrv _ _ _ h hv.1,ih hv.2⟩
 have hgfresh:C.w.heap.size≤g:=by
  rcases h.ev.rfresh r _ g c hrow hγ with⟨row0,c0,h0,-⟩|h0
  ·have:=(List.getElem?_eq_some_iff.1 h0).1
   omega
  ·exact h0
 refine⟨m',h.dfr,h.tsz,?_,fun i q hq=>?_,?_⟩
 ·exact {
   box:=fun k x' hk=>by
    by_cases hk':k=K
    ·subst hk'
     rw [hnew] at hk
     cases hk
     rw [hρK]
     have hvs: ∀q,q<cs.length→cur.toList[q]?=some (.int .i64 (cs.getD q 0)):=fun q hq=>by
      have:=(hcell q hq).1
      rw [hob.cell,← Array.getElem?_toList] at this
      rw [this,List.getD_eq_getElem?_getD,List.getElem?_eq_getElem hq]
      rfl
     have htake:cur.toList.take cs.length=cs.map fun x=>Value.int .i64 x:=by
      refine List.ext_getElem? fun q=>?_
      by_cases hq:q<cs.length
      ·rw [List.getElem?_take,if_pos hq,hvs q hq,List.getElem?_map,List.getD_eq_getElem?_getD,List.getElem?_eq_getElem hq]
       rfl
      ·rw [List.getElem?_take,if_neg hq,List.getElem?_map,List.getElem?_eq_none (by omega)]
       rfl
     refine⟨cs.map fun x=>Value.int .i64 x,⟨cur.toList.drop cs.length,?_⟩,?_⟩
     ·rw [← htake,List.take_append_drop]
      exact hob
     ·have key: ∀l:Z Int,(∀x∈l,sN (.int .i64 x))→iM (kV C.av s'.st m') s'.st m' w (l.map pI) (l.map fun x=>Value.int .i64 x):=fun l=>by
       induction l with
       |nil=>exact fun _=>trivial
       |cons x l ih=>exact fun hl=>⟨.leaf (hl x (by simp)),ih fun y hy=>hl y (List.mem_cons_of_mem _ hy)⟩
      refine key cs fun x hx=>?_
      obtain⟨q,hq,rfl⟩:=List.getElem_of_mem hx
      exact(hcell q hq).2
    ·obtain⟨x,hx,ht,hl⟩:=hb k x' hk' hk
     obtain⟨vs,v1,v2⟩:=h.sto.box k x hx
     exact⟨vs,by rw [hρ k hk',ht];exact v1,hrvl hl v2⟩
   binj:=fun i i' x x' hi hi' hii=>by
    by_cases h1:i=K
    ·by_cases h2:i'=K
     ·exact absurd (h1.trans h2.symm) hii
     ·obtain⟨y,hy,-⟩:=hb i' x' h2 hi'
      rw [h1,hρK,hρ i' h2]
      exact fun e=>h.sto.br i' y r _ g c hy hrow hγ e.symm
    ·obtain⟨y,hy,-⟩:=hb i x h1 hi
     by_cases h2:i'=K
     ·rw [h2,hρK,hρ i h1]
      exact h.sto.br i y r _ g c hy hrow hγ
     ·obtain⟨y',hy',-⟩:=hb i' x' h2 hi'
      rw [hρ i h1,hρ i' h2]
      exact h.sto.binj i i' y y' hy hy' hii
   row:=fun i row hi=>by
    rcases hrows i row hi with⟨rfl,rfl⟩|⟨h1,h2,h3⟩
    ·exact⟨Nat.one_pos,by simp,.inl ⟨hγr,rfl⟩⟩
    ·obtain⟨q1,q2,q3⟩:=h.sto.row i row h2
     refine⟨q1,q2,?_⟩
     rw [hγ' i h1]
     rcases q3 with q3|⟨g',c',cur',p1,p2,p3,p4,p5,p6⟩
     ·exact .inl q3
     ·exact .inr ⟨g',c',cur',p1,p2,p3,p4,p5,cH.away hok hint p6 h3⟩
   rinj:=fun i i' row row' g1 c1 c1' hi hi' hg hg'=>by
    rcases hrows i row hi with⟨rfl,-⟩|⟨h1,h2,-⟩
    ·rw [hγr] at hg;cases hg
    ·rcases hrows i' row' hi' with⟨rfl,-⟩|⟨h1',h2',-⟩
     ·rw [hγr] at hg';cases hg'
     ·rw [hγ' i h1] at hg
      rw [hγ' i' h1'] at hg'
      exact h.sto.rinj i i' row row' g1 c1 c1' h2 h2' hg hg'
   br:=fun k x' i row g1 c1 hk hi hg=>by
    rcases hrows i row hi with⟨rfl,-⟩|⟨h1,h2,-⟩
    ·rw [hγr] at hg;cases hg
    ·rw [hγ' i h1] at hg
     by_cases hk':k=K
     ·rw [hk',hρK]
      rintro rfl
      exact h1 (h.sto.rinj i r row _ g c1 c h2 hrow hg hγ)
     ·obtain⟨x,hx,-⟩:=hb k x' hk' hk
      rw [hρ k hk']
      exact h.sto.br k x i row g1 c1 hx h2 hg
   avlt:=h.sto.avlt
   avr:=fun i row g1 c1 hi hg=>by
    rcases hrows i row hi with⟨rfl,-⟩|⟨h1,h2,-⟩
    ·rw [hγr] at hg;cases hg
    ·rw [hγ' i h1] at hg
     exact h.sto.avr i row g1 c1 h2 hg
   avb:=fun k x' hk=>by
    by_cases hk':k=K
    ·rw [hk',hρK]
     exact h.sto.avr r _ g c hrow hγ
    ·obtain⟨x,hx,-⟩:=hb k x' hk' hk
     rw [hρ k hk']
     exact h.sto.avb k x hx }
 ·obtain⟨p,h1,h2⟩:=he i q hq
  obtain⟨v,hv,hr⟩:=h.env i p h1
  exact⟨v,hv,hrv p q v h2 hr⟩
 ·exact {
   os:=h.ev.os
   tape:=h.ev.tape
   output:=h.ev.output
   size:=h.ev.size
   blk:=h.ev.blk
   cell:=h.ev.cell
   okk:=fun b o hb ho=>hst' b o (h.ev.okk b o hb ho) (by omega)
   live:=fun k x hx=>by
    obtain⟨⟨y,hy⟩,e⟩:=h.ev.live k x hx
    exact⟨hb2 k y hy,by rw [hρ k (hnK k y hy)];exact e⟩
   fresh:=fun k x' hk=>by
    by_cases hk':k=K
    ·rw [hk',hρK];exact .inr hgfresh
    ·obtain⟨y,hy,-⟩:=hb k x' hk' hk
     rw [hρ k hk']
     exact h.ev.fresh k y hy
   rowl:=fun i row hi=>by
    have hlt:=(List.getElem?_eq_some_iff.1 hi).1
    have hir:i≠r:=by omega
    obtain⟨row2,h1,h2⟩:=h.ev.rowl i row hi
    refine⟨row2,hrows2 i row2 hir h1,?_⟩
    rw [hγ' i hir]
    exact h2
   rfresh:=fun i row' g1 c1 hi hg=>by
    rcases hrows i row' hi with⟨rfl,-⟩|⟨h1,h2,-⟩
    ·rw [hγr] at hg;cases hg
    ·rw [hγ' i h1] at hg
     exact h.ev.rfresh i row' g1 c1 h2 hg }
end
end Go.Proofs.YtfcoaagbccmahaaGreat
namespace Go.Proofs.YtfcoaagbccmahaaGreat.W
set_option maxRecDepth 100000
set_option maxHeartbeats 40000000
noncomputable section
open Go.RowKit Go.Proofs
attribute [local irreducible] lt
def anK:Z Int→Int→Z Int
 | [],_=> []
 |_::l,x=>x::l
def LF(fu:Nat)(pq0:DS)(pa1:aH)(x2:Z aD)(x3:DS):Nat→((Z aD)×(Z Int)×(Z aC))→J (LR ((Z aD)×(Z Int)×(Z aC)) (aU×DS)):=
 fun i4 (v5,v6,v7)=>bd (nF fu pa1 (aU.mk v5 v6 v7) (aR x2 i4)) (fun(x11,x12,x13)=>
 some (.next (x11.aFA,x11.aFI,x11.aFC)))
def V6(fu:Nat)(pq0:DS)(pa1:aH)(x2:Z aD)(x3:DS):J ((aU×DS)⊕((Z aD)×(Z Int)×(Z aC))):=
 loopN (LF fu pq0 pa1 x2 x3) (x2.length-0) 0 ([],[],[])
def DZ(fu:Nat)(pq0:DS)(pa1:aH):J (aU×DS):=
 bd (wD fu pq0) (fun(x2,x3)=>
 so (V6 fu pq0 pa1 x2 x3) (fun(v5,v6,v7)=>
 sw (decide ((((v5.length:Nat):Int):Int)>0))
 (lt (x3.after 8) (fun d15=>
 gd (0<v6.length∧v6.length≤1000)
 (sw (decide ((((x3.below 8:Nat):Int):Int)=0))
 (lt (d15.after 4) (fun d18=>
 some ((aU.mk v5 (anK v6 ((d15.below 4:Nat):Int)) v7),d18)))
 (sw (decide ((((x3.below 8:Nat):Int):Int)=1))
 (gd (0<(v5).length)
 (gd (v5.length+([(aR v5 0)]:Z aD).length≤68719476736)
 (gd (v6.length+([(aR v6 0)]:Z Int).length≤68719476736)
 (gd (0<(v7).length)
 (gd (v7.length+([(aR v7 0)]:Z aC).length≤68719476736)
 (some ((aU.mk (v5++([(aR v5 0)]:Z aD)) (v6++([(aR v6 0)]:Z Int)) (v7++([(aR v7 0)]:Z aC))),d15)))))))
 (sw (decide ((((x3.below 8:Nat):Int):Int)=2))
 (gd ((0:Int)≤1∧(1:Int)≤((v7.length:Nat):Int)∧(((v7.length:Nat):Int):Int)≤((v7.length:Nat):Int))
 (some ((aU.mk v5 v6 (List.drop (1:Int).toNat (List.take (((v7.length:Nat):Int):Int).toNat v7))),d15)))
 (some ((aU.mk v5 v6 v7),d15)))))))
 (some ((aU.mk v5 v6 v7),x3))))
def an6(m:DS→aH→J (aU×DS)):Prop:= ∀(pq0:DS) (pa1:aH) (r:aU×DS),m pq0 pa1=some r→cM Tryz.prog 72 [.ptr 0 0,(aH.pv pa1)] ⟨[some ⟨133,dC pq0⟩],[]⟩ (fun q t=>q=((aU.pv r.1):PV)∧t=⟨[some ⟨133,dC r.2⟩],[]⟩)
abbrev stF(d:DS)(w:aH)(env:List (Nat×PV))(v5:List aD)(v6:List Int)(v7:List aC):AS:=⟨env,⟨[some ⟨133,dC d⟩,some ⟨26,[aP w.aFr]⟩,some ⟨68,[.nil,.nil,.nil]⟩,some ⟨68,[b0 v5,rI v6,bK v7]⟩],[]⟩⟩
abbrev stO(d:DS)(w:aH)(env:List (Nat×PV))(v5:List aD)(v6:List Int)(v7:List aC):AS:=⟨env,⟨[some ⟨133,dC d⟩,some ⟨26,[aP w.aFr]⟩,some ⟨68,[.nil,.nil,.nil]⟩,some ⟨68,[fZ v5 0,aI v6 1,cS v7 2]⟩],[⟨32,4,aD.trs v5,false⟩,⟨3,1,c7 v6,false⟩,⟨55,5,aC.trs v7,false⟩]⟩⟩
abbrev stB(b:Bool)(d:DS)(w:aH)(env:List (Nat×PV))(v5:List aD)(v6:List Int)(v7:List aC):AS:=bif b then stO d w env v5 v6 v7 else stF d w env v5 v6 v7
theorem amL{fu:Nat}{pw:aH}{pm:aU}{pg:aD}{r:aU×aC×Int}(H:nF fu pw pm pg=some r)(hne:r.1.aFI.isEmpty=false):adJ Tryz.prog 71 [(aH.pv pw),(aU.pv pm),(aD.pv pg)] [⟨32,4,aD.trs r.1.aFA,false⟩,⟨3,1,c7 r.1.aFI,false⟩,⟨55,5,aC.trs r.1.aFC,false⟩] (fun ks=> .tup [.agg [fZ r.1.aFA (ks.getD 0 0),aI r.1.aFI (ks.getD 1 0),cS r.1.aFC (ks.getD 2 0)],aC.pv r.2.1,pI r.2.2]):=
 cM.mono (G4 fu pw pm pg r H) fun q t ⟨i,j,k,h⟩=>by
  rcases h with⟨h1,h2,h3,h4,h5,h6,h7⟩|h
  ·refine⟨[i,j,k],h1,fun a row ha=>?_,fun a b ha hb hab=>?_⟩
   ·rcases a with _|_|_|a
    ·cases ha;exact h2
    ·cases ha;exact h3
    ·cases ha;exact h4
    ·simp at ha
   ·simp only [List.length_cons,List.length_nil] at ha hb
    rcases a with _|_|_|a<;>rcases b with _|_|_|b<;>first|rfl|omega|(simp at hab;omega)
  ·rw [h.1] at hne
   cases hne
theorem aqO{r:aU×aC×Int}(ok ok':Nat→Nat→Prop)(st st':dL)(m m':kQ)(w:World)(v:Value)(ks:Z Nat)
 (hk: ∀i row,([⟨32,4,aD.trs r.1.aFA,false⟩,⟨3,1,c7 r.1.aFI,false⟩,⟨55,5,aC.trs r.1.aFC,false⟩]:Z mV)[i]?=some row→st.rows[ks.getD i 0]?=some row∧st'.rows[0+i]?=some row∧m'.γ (0+i)=m.γ (ks.getD i 0)) (ho: ∀b o,b<w.heap.size→ok b o→ok' b o)
 (h:RV ok st m w (.tup [.agg [fZ r.1.aFA (ks.getD 0 0),aI r.1.aFI (ks.getD 1 0),cS r.1.aFC (ks.getD 2 0)],aC.pv r.2.1,pI r.2.2]) v):RV ok' st' m' w (.tup [.agg [fZ r.1.aFA 0,aI r.1.aFI 1,cS r.1.aFC 2],aC.pv r.2.1,pI r.2.2]) v:=by
 obtain⟨vs,rfl,hvs⟩:=h
 refine⟨vs,rfl,?_⟩
 rcases vs with _|⟨u0,_|⟨u1,_|⟨u2,_|⟨u3,vs⟩⟩⟩⟩<;>simp only [iM] at hvs
 ·exact hvs.2.elim
 ·exact hvs.2.2.elim
 ·refine⟨YN (fun u h=>vP h (hk 0 _ rfl).1 (hk 0 _ rfl).2.1 (hk 0 _ rfl).2.2 ho) (fun u h=>vP h (hk 1 _ rfl).1 (hk 1 _ rfl).2.1 (hk 1 _ rfl).2.2 ho) (fun u h=>vP h (hk 2 _ rfl).1 (hk 2 _ rfl).2.1 (hk 2 _ rfl).2.2 ho) hvs.1,PV.free.rv ho _ _ rfl hvs.2.1,PV.free.rv ho _ _ rfl hvs.2.2.1,trivial⟩
 ·exact hvs.2.2.2.elim
theorem at8(l:Z UInt8):ShT (.row 1 (l6 l)):= .row (fun e he=>by
 obtain⟨b,_,rfl⟩:=List.mem_map.1 he
 exact⟨_,List.mem_singleton_self _,fun v hv=>by cases hv;rfl⟩) fun e he d hd=>by
 obtain⟨b,_,rfl⟩:=List.mem_map.1 he
 rw [List.mem_singleton.1 hd]
 exact .leaf
theorem avX: ∀t:aA,∀d∈aA.cs t,ShT d:=by
 refine aA.ind fun k n xs ih d hd=>?_
 rcases List.mem_cons.1 hd with rfl|hd
 ·exact .leaf
 rcases List.mem_cons.1 hd with rfl|hd
 ·exact .leaf
 rw [List.mem_singleton.1 hd]
 refine .row (fun e he=>?_) fun e he d hd=>?_
 ·rw [aA.tm] at he
  obtain⟨x,_,rfl⟩:=List.mem_map.1 he
  rw [aA.tc]
  exact⟨.leaf (.string x.aFs),by cases x;simp [aA.cs],fun v hv=>by cases hv;rfl⟩
 ·rw [aA.tm] at he
  obtain⟨x,hx,rfl⟩:=List.mem_map.1 he
  rw [aA.tc] at hd
  exact ih x hx d hd
theorem arR(l:Z aD):ShT (.row 4 (aD.trs l)):= .row (fun e he=>by
 rw [aD.tm] at he
 obtain⟨x,_,rfl⟩:=List.mem_map.1 he
 rw [aD.tc]
 exact⟨.leaf (.string x.aFz),by cases x;simp [aD.cs],fun v hv=>by cases hv;rfl⟩) fun e he d hd=>by
 rw [aD.tm] at he
 obtain⟨x,_,rfl⟩:=List.mem_map.1 he
 rw [aD.tc] at hd
 rcases List.mem_cons.1 hd with rfl|hd
 ·exact .leaf
 ·exact avX x.aFu d (by cases x with|mk n t=>cases t;exact hd)
theorem axZ: ∀e:aC,ShT (.row 5 (aC.trs e.aFt)):=by
 refine aC.ind fun k n o xs ih=>?_
 show ShT (.row 5 (aC.trs xs))
 refine .row (fun e he=>?_) fun e he d hd=>?_
 ·rw [aC.tm] at he
  obtain⟨x,_,rfl⟩:=List.mem_map.1 he
  rw [aC.tc]
  exact⟨.row 5 (aC.trs x.aFt),by cases x with|mk k n o xs=>cases o;simp [aC.cs],fun v hv=>by cases hv⟩
 ·rw [aC.tm] at he
  obtain⟨x,hx,rfl⟩:=List.mem_map.1 he
  rw [aC.tc] at hd
  have:=ih x hx
  cases x with
  |mk k n o xs=>
   cases o
   simp only [aC.cs,List.mem_cons,List.not_mem_nil,or_false] at hd
   rcases hd with rfl|rfl|rfl|rfl|rfl<;>first|exact .leaf|exact this
theorem aq6(l:Z Int):(c7 l).flatten.map PV.t=l.map pI:=by
 induction l with
 |nil=>rfl
 |cons x l ih=>exact congrArg (pI x:: ·) ih
theorem ar8{C:qT}{n:Nat}{pq0 d:DS}(hC:C.st=⟨[some ⟨133,dC pq0⟩],[]⟩){v5:Z aD}{c0:Int}{cl:Z Int}{v7:Z aC}:Wk C n ⟨[(0,.ptr 0 0),(4,.ptr 2 0),(5,.ptr 3 0)],⟨[some ⟨133,dC d⟩,none,some ⟨68,[.nil,.nil,.nil]⟩,some ⟨68,[fZ v5 0,aI (c0::cl) 1,cS v7 2]⟩],[⟨32,4,aD.trs v5,false⟩,⟨3,1,c7 (c0::cl),false⟩,⟨55,5,aC.trs v7,false⟩]⟩⟩
 ⟨[(0,.ptr 0 0),(4,.ptr 2 0),(5,.ptr 3 0)],⟨[some ⟨133,dC d⟩,none,some ⟨68,[.nil,.nil,.nil]⟩,some ⟨68,[fZ v5 0,.gsl 4 (c0::cl).length,cS v7 2]⟩,some ⟨3,pI c0::cl.map pI⟩],[⟨32,4,aD.trs v5,false⟩,⟨3,1,[],false⟩,⟨55,5,aC.trs v7,false⟩]⟩⟩:=by
 have hE:ShT (.row 5 (aC.trs v7)):=axZ (.mk 0 0 (.mk 0 0) v7)
 have hB:=arR v5
 have hs: ∀ {p:PV},ShP 1 p→Th 1 4 (c0::cl).length p p:= .same
 refine auY (r:=1) (K:=4) (E:=3) (cs:=c0::cl) (by simp) rfl (by rw [hC];exact Nat.zero_le _) rfl (fun k x' hk h=>?_) (fun k x h=>?_) rfl (fun i row h=>?_) (fun i row hi h=>?_) (fun i q h=>⟨q,h,hs ?_⟩)
 ·rcases k with _|_|_|_|_|k
  ·cases h
   exact⟨_,rfl,rfl,.cons (hs (at8 _)) (.cons (hs .leaf) (.cons (hs .leaf) .nil))⟩
  ·cases h
  ·cases h
   exact⟨_,rfl,rfl,.cons (hs trivial) (.cons (hs trivial) (.cons (hs trivial) .nil))⟩
  ·cases h
   exact⟨_,rfl,rfl,.cons (hs ⟨by decide,hB⟩) (.cons (.row (by simp [c7])) (.cons (hs ⟨by decide,hE⟩) .nil))⟩
  ·exact absurd rfl hk
  ·simp at h
 ·rcases k with _|_|_|_|k
  ·exact⟨_,rfl⟩
  ·cases h
  ·exact⟨_,rfl⟩
  ·exact⟨_,rfl⟩
  ·simp at h
 ·rcases i with _|_|_|i
  ·cases h;exact .inr ⟨by decide,rfl,hB⟩
  ·cases h;exact .inl ⟨rfl,rfl⟩
  ·cases h;exact .inr ⟨by decide,rfl,hE⟩
  ·simp at h
 ·rcases i with _|_|_|i
  ·exact h
  ·exact absurd rfl hi
  ·exact h
  ·simp at h
 ·simp only [List.lookup_cons] at h
  split at h
  ·cases h;trivial
  ·split at h
   ·cases h;trivial
   ·split at h
    ·cases h;trivial
    ·cases h
theorem ak3(fu:Nat):an6 (DZ fu):=by
 intro pq0 pa1 r H
 have H:=hd0 H
 refine qI Tryz.func72 (fun C hC=>?_)
 refine gQ 2 ?_;refine q1 (fQ ([aP pa1.aFr])) ?_;refine gQ 11 ?_;refine eX H fun x2 x3 z1 H=>(q1 (fO [0] [] Tryz.func70 (ahD fu pq0 _ z1)) ?_)
 refine gQ 7 ?_;refine gV 6 (aD.tl _) (fun hl8=>?_)
 try dsimp only at hl8
 refine bV (σ:=(Z aD)×(Z Int)×(Z aC)) (fun i4 (v5,v6,v7)=>stB (!v6.isEmpty&&decide (x2.length≤i4)) x3 pa1 [(0,.ptr 0 0),(3,.ptr 1 0),(4,.ptr 2 0),(5,.ptr 3 0),(6,b0 x2),(7,pN i4)] v5 v6 v7) (fun(v5,v6,v7)=>stB (!v6.isEmpty) x3 pa1 [(0,.ptr 0 0),(4,.ptr 2 0),(5,.ptr 3 0)] v5 v6 v7) (fA H) ?_ ?_
 ·rintro i4 ⟨v5,v6,v7⟩ H
  show dR _ _ _ _ _ (stB (!v6.isEmpty&&decide (x2.length≤i4)) x3 pa1 _ v5 v6 v7)
  rcases nA (!v6.isEmpty&&decide (x2.length≤i4)) with hb|hb
  ·rw [hb]
   rw [Bool.and_eq_true,decide_eq_true_eq] at hb
   show dR _ _ _ _ _ (stO x3 pa1 _ v5 v6 v7)
   refine gQ 8 ?_;refine cZ H (fun h9 h9l H=>absurd h9l (by omega)) (fun h9 H=>?_)
   refine dR.exit ?_;refine lpX ⟨(v5,v6,v7),H,?_⟩
   show Wk C _ _ (stB (!v6.isEmpty) x3 pa1 _ v5 v6 v7)
   rw [hb.1]
   exact FT
  ·rw [hb]
   show dR _ _ _ _ _ (stF x3 pa1 _ v5 v6 v7)
   refine gQ 8 ?_;refine cZ H (fun h9 h9l H=>?_) (fun h9 H=>?_)
   ·have h9n:=yI h9
    refine gQ 3 ?_;refine J9 H fun x11 x12 x13 z10 H=>?_
    rcases nA (!x11.aFI.isEmpty&&decide (x2.length≤i4+1)) with hn|hn
    ·have hne:x11.aFI.isEmpty=false:=by
      rw [Bool.and_eq_true] at hn
      simpa using hn.1
     refine dW (dD [3] (b4 [aP pa1.aFr]) (dD [5] (b4 [b0 v5,rI v6,bK v7]) (dI [6] bI (dI [7] bI (dI [20,21] mU (dI [22] (gZ (aD.cs (aR x2 i4))) (dE [18,19,23] (BR (ps:= [_,_,_]) rfl rfl Tryz.func71 (by kernel_rfl) rfl rfl mG rfl (amL z10 hne) aqO) (dI [24] bI ?_))))))))
     iterate 3 refine dI [17] rEx ?_
     refine iW [5,25] hY (dN ?_)
     refine gQ 5 ?_;refine lpN h9n ⟨(x11.aFA,x11.aFI,x11.aFC),tO H,?_⟩
     show Wk C _ _ (stB (!x11.aFI.isEmpty&&decide (x2.length≤i4+1)) x3 pa1 _ _ _ _)
     rw [hn]
     exact FT
    ·refine dW (dD [3] (b4 [aP pa1.aFr]) (dD [5] (b4 [b0 v5,rI v6,bK v7]) (dI [6] bI (dI [7] bI (dI [20,21] mU (dI [22] (gZ (aD.cs (aR x2 i4))) (dI [18,19,23] (bJ Tryz.func71 (XC fu pa1 (aU.mk v5 v6 v7) (aR x2 i4) _ z10)) (dI [24] bI ?_))))))))
     iterate 3 refine dI [17] rEx ?_
     refine iW [5,25] hY (dN ?_)
     refine gQ 5 ?_;refine lpN h9n ⟨(x11.aFA,x11.aFI,x11.aFC),tO H,?_⟩
     show Wk C _ _ (stB (!x11.aFI.isEmpty&&decide (x2.length≤i4+1)) x3 pa1 _ _ _ _)
     rw [hn]
     exact FT
   ·refine dR.exit ?_;refine lpX ⟨(v5,v6,v7),H,?_⟩
    show Wk C _ _ (stB (!v6.isEmpty) x3 pa1 _ v5 v6 v7)
    have h10:x2.length≤i4:=by have:=of_decide_eq_false h9;omega
    rw [decide_eq_true h10,Bool.and_true] at hb
    rw [hb]
    exact FT
 rintro⟨v5,v6,v7⟩ H
 show dR _ _ _ _ _ (stB (!v6.isEmpty) x3 pa1 _ v5 v6 v7)
 cases v6 with
 |nil=>
  show dR _ _ _ _ _ (stF x3 pa1 _ v5 [] v7)
  refine gQ 8 ?_;refine bG H (fun h14 H=>gM H fun d15 h16 H=>cB H fun z H=>absurd z.1 (Nat.lt_irrefl 0)) (fun h14 H=>?_)
  refine gQ 3 ?_;refine q1 (b4 [b0 v5,rI [],bK v7]) ?_;exact gE 2
 |cons c0 cl=>
  show dR _ _ _ _ _ (stO x3 pa1 _ v5 (c0::cl) v7)
  refine gQ 8 ?_;refine bG H (fun h14 H=>?_) (fun h14 H=>?_)
  ·refine gQ 3 ?_;refine gM H fun d15 h16 H=>(q1 (fO [0] [] Tryz.func73 (FJ h16 (fL x3 8))) (cB H fun z0 H=>?_))
   have zc:=z0.1
   refine gQ 7 ?_;refine bG H (fun h17 H=>?_) (fun h17 H=>?_)
   ·refine gM H fun d18 h19 H=>?_;refine dR.weak (s':=⟨[(0,.ptr 0 0),(4,.ptr 2 0),(5,.ptr 3 0)],⟨[some ⟨133,dC d15⟩,none,some ⟨68,[.nil,.nil,.nil]⟩,some ⟨68,[fZ v5 0,aI (c0::cl) 1,cS v7 2]⟩],[⟨32,4,aD.trs v5,false⟩,⟨3,1,c7 (c0::cl),false⟩,⟨55,5,aC.trs v7,false⟩]⟩⟩) FT ?_;refine kC (ar8 hC) ?_;refine dW (dI [5] bW (dB [36] 0 1 tP (dI [0] bI (dE [38] (fO [0] [] Tryz.func73 (FJ h19 (fL d15 4))) (dI [37] (N9 (sz:=1) (k:=4) (N:=(c0::cl).length) (i:=0) rfl rfl rfl rfl (Nat.succ_pos _) au9.h) (iW [40,39] hY (dN ?_)))))))
    refine gQ 2 ?_;refine AL.weak (YO (k:=4) (sz:=1) (es:=c7 (anK (c0::cl) ((d15.below 4:Nat):Int))) (s':=⟨[(0,.ptr 0 0),(4,.ptr 2 0),(5,.ptr 3 0)],⟨[some ⟨133,dC d18⟩,none,some ⟨68,[.nil,.nil,.nil]⟩,some ⟨68,[fZ v5 0,rI (anK (c0::cl) ((d15.below 4:Nat):Int)),cS v7 2]⟩,none],[⟨32,4,aD.trs v5,false⟩,⟨3,1,[],false⟩,⟨55,5,aC.trs v7,false⟩]⟩⟩) rfl rfl (by rw [aq6];exact tN.refl _) (ZO _) (by rw [fF];exact Nat.le_trans z0.2 (by decide)) ⟨⟨rfl,atE,rfl⟩,⟨⟨rfl,atE,rfl⟩,⟨⟨rfl,.cons (.le (.refl _)) (.cons (.gsl (by simp [c7,anK])) (.cons (.le (.refl _)) .nil)),rfl⟩,trivial⟩⟩⟩ rfl rfl (ad7 hC (as7 rfl) (Nat.le_of_ble_eq_true rfl)) (by repeat' first|exact trivial|refine⟨⟨_,rfl,atE,rfl⟩,?_⟩)) ?_;refine q1 (b4 [fZ v5 0,rI (anK (c0::cl) ((d15.below 4:Nat):Int)),cS v7 2]) ?_;exact gE 2
   refine gQ 5 ?_;refine bG H (fun h21 H=>?_) (fun h21 H=>?_)
   ·refine qS (cB H fun z22 H=>(cB H fun y22 H=>(dW (dI [5] bW (dD [43] eG (dI [5] bW (dD [45] eG (dI [46] mU (dI [47] (gZ (aD.cs (aR v5 0))) (dI [48] (iL ([(aR v5 0)]:Z aD)) (dE [44,49] (lO y22) (dI [5] bW (iW [51,50] hY (dN ?_))))))))))))))
    refine qS (cB H fun y23 H=>(dW (dI [5] bW (dD [52] eG (dI [5] bW (dD [54] eG (dI [55] mU (dI [56] wH (dI [57] (iL ([(aR (c0::cl) 0)]:Z Int)) (dE [53,58] (lO y23) (dI [5] bW (iW [60,59] hY (dN ?_)))))))))))))
    refine cB H fun z24 H=>(cB H fun y24 H=>(dW (dI [5] bW (dD [61] eG (dI [5] bW (dD [63] eG (dI [64] mU (dI [65] (gZ (aC.cs (aR v7 0))) (dI [66] (iL ([(aR v7 0)]:Z aC)) (dE [62,67] (lO y24) (dI [5] bW (iW [69,68] hY (dN ?_)))))))))))))
    refine gQ 2 ?_;refine q1 (b4 [fZ (v5++([(aR v5 0)]:Z aD)) 0,aI ((c0::cl)++([(aR (c0::cl) 0)]:Z Int)) 1,cS (v7++([(aR v7 0)]:Z aC)) 2]) ?_;exact gE 2
   refine gQ 5 ?_;refine bG H (fun h25 H=>?_) (fun h25 H=>?_)
   ·refine gQ 3 ?_;refine cB H fun z26 H=>?_;refine q1 (jP (jQ (es:=aC.trs (v7)) (l:=1) (k:=((v7.length:Nat):Int)) rfl rfl rfl rfl rfl (by rw [aC.tl];exact rfl) (by rw [aC.tl];exact z26) au8.h) (aC.tq _ _ _)) ?_;refine gQ 5 ?_;refine q1 (b4 [fZ v5 0,aI (c0::cl) 1,bK (List.drop (1:Int).toNat (List.take (((v7.length:Nat):Int):Int).toNat v7))]) ?_;exact gE 2
   refine gQ 3 ?_;refine q1 (b4 [fZ v5 0,aI (c0::cl) 1,cS v7 2]) ?_;exact gE 2
  refine gQ 3 ?_;refine q1 (b4 [fZ v5 0,aI (c0::cl) 1,cS v7 2]) ?_;exact gE 2
open Tryz
def rF(fu:Nat)(p0:Z UInt8):J (aH×aU×aD):=gd ((p0).length≤1048576) (bd (AK fu (DS.start p0)) fun(x3,x4)=>bd (DZ fu x4 x3) fun(x6,x7)=>sw (decide ((x6.aFA.length:Int)>0)) (lt (x7.after 2) fun d9=>sw (decide (x7.below 2=0)) (lt (d9.after x6.aFA.length) fun d12=>gd (d9.below x6.aFA.length<(x6.aFA).length) (some (x3,x6,(aR x6.aFA (d9.below x6.aFA.length))))) (bd (o8 fu d9) fun(x16,x17)=>some (x3,x6,x16))) (bd (o8 fu x7) fun(x19,x20)=>some (x3,x6,x19)))
theorem NA(fu:Nat)(p0:Z UInt8)(r:aH×aU×aD)(H:rF fu p0=some r):bU prog 28 [rU p0] (.tup [(aH.pv r.1),(aU.pv r.2.1),(aD.pv r.2.2)]):=by
 refine qJ func28 H (fun C hC H=>?_)
 refine gQ 9 ?_;refine cB H fun z1 H=>(q1 (VE (ps:= [_]) rfl rfl func43 (by kernel_rfl) rfl rfl mG rfl rfl (axF p0 z1)) ?_)
 refine gQ 5 ?_;refine eX H fun x3 x4 z2 H=>?_;refine AL.weak (s':=⟨[(2,.ptr 0 0),(3,.ptr 1 0),(4,.ptr 2 0),(5,.ptr 3 0),(10,.ptr 3 0)],⟨[some ⟨26,[.nil]⟩,some ⟨68,[.nil,.nil,.nil]⟩,some ⟨32,[pS s_,pI 0,pS s_,.nil]⟩,some ⟨133,dC (DS.start p0)⟩],[]⟩⟩) FT ?_;refine q1 (fO [3] [] func69 (ag9 fu (DS.start p0) _ z2)) ?_;refine gQ 6 ?_;refine q1 (b4 [aP x3.aFr]) (eX H fun x6 x7 z5 H=>(q1 (fO [3] [] func72 (ak3 fu x4 x3 _ z5)) ?_))
 refine gQ 8 ?_;refine AL.weak (s':=⟨[(2,.ptr 0 0),(3,.ptr 1 0),(4,.ptr 2 0),(5,.ptr 3 0),(6,.ptr 4 0),(7,.ptr 5 0),(16,b0 x6.aFA)],⟨[some ⟨26,[.nil]⟩,some ⟨68,[.nil,.nil,.nil]⟩,some ⟨32,[pS s_,pI 0,pS s_,.nil]⟩,some ⟨133,dC x7⟩,some ⟨26,[aP x3.aFr]⟩,some ⟨68,eM x6⟩],[]⟩⟩) FT ?_;refine gQ 3 ?_;refine AL.weak (s':=⟨[(2,.ptr 0 0),(3,.ptr 1 0),(4,.ptr 2 0),(5,.ptr 3 0),(6,.ptr 4 0),(7,.ptr 5 0),(19,pB (decide ((x6.aFA.length:Int)>0)))],⟨[some ⟨26,[.nil]⟩,some ⟨68,[.nil,.nil,.nil]⟩,some ⟨32,[pS s_,pI 0,pS s_,.nil]⟩,some ⟨133,dC x7⟩,some ⟨26,[aP x3.aFr]⟩,some ⟨68,eM x6⟩],[]⟩⟩) FT ?_;refine dY 19 H (fun g8 H=>?_) fun g8 H=>?_
 ·refine qg g8 bI (gM H fun d9 h10 H=>(qg g8 (fO [3] [] func45 (FJ h10 (n6 x7 2))) ?_))
  refine gQ 2 ?_;refine dR.weak (s':=⟨[(2,.ptr 0 0),(3,.ptr 1 0),(4,.ptr 2 0),(5,.ptr 3 0),(6,.ptr 4 0),(7,.ptr 5 0),(22,pB (decide (x7.below 2=0)))],⟨[some ⟨26,[.nil]⟩,some ⟨68,[.nil,.nil,.nil]⟩,some ⟨32,[pS s_,pI 0,pS s_,.nil]⟩,some ⟨133,dC d9⟩,some ⟨26,[aP x3.aFr]⟩,some ⟨68,eM x6⟩],[]⟩⟩) FT ?_;refine bG H (fun h11 H=>?_) (fun h11 H=>?_)
  ·refine qS (gM H fun d12 h13 H=>(cB H fun z14 H=>(dW (dB [6] 0 1 (BG [aP x3.aFr]) (dB [7] 0 2 (BG [b0 x6.aFA,rI x6.aFI,bK x6.aFC]) (dI [7] bW (dB [25] 0 3 tP (dI [5] bI (dI [7] bW (dD [28] eG (dI [29] tLn (dE [27,30] (fO [3] [] func73 (FJ h13 (fL d9 x6.aFA.length))) (dI [26,31] mU ?_)))))))))))))
   refine dI [32] (gZ (aD.cs (aR x6.aFA (d9.below x6.aFA.length)))) (iW [2,23] hY (iW [3,24] hY (iW [4,33] hY (dN (dR.ret ?_)))))
   cases tO H
   exact qe3 (hr:=⟨⟨_,_,_,rfl,rfl,anL.h,rfl,rfl⟩,⟨_,_,_,rfl,rfl,XE.h,rfl,rfl⟩,⟨_,_,_,rfl,rfl,axY.h,rfl,rfl⟩,trivial⟩)
  refine gQ 2 ?_;refine eX H fun x16 x17 z15 H=>(dW (dB [6] 0 1 (BG [aP x3.aFr]) (dB [7] 0 2 (BG [b0 x6.aFA,rI x6.aFI,bK x6.aFC]) (dI [5] bI (dE [36] (fO [3] [] func74 (EZ fu d9 _ z15)) (iW [2,34] hY (iW [3,35] hY (iW [4,37] hY (dN (dR.ret ?_))))))))))
  cases tO H
  exact qe3 (hr:=⟨⟨_,_,_,rfl,rfl,anL.h,rfl,rfl⟩,⟨_,_,_,rfl,rfl,XE.h,rfl,rfl⟩,⟨_,_,_,rfl,rfl,axY.h,rfl,rfl⟩,trivial⟩)
 refine gQ 7 ?_;refine eX H fun x19 x20 z18 H=>(dW (dB [6] 0 1 (BG [aP x3.aFr]) (dB [7] 0 2 (BG [b0 x6.aFA,rI x6.aFI,bK x6.aFC]) (dI [5] bI (dE [36] (fO [3] [] func74 (EZ fu x7 _ z18)) (iW [2,34] hY (iW [3,35] hY (iW [4,37] hY (dN (dR.ret ?_))))))))))
 cases tO H
 exact qe3 (hr:=⟨⟨_,_,_,rfl,rfl,anL.h,rfl,rfl⟩,⟨_,_,_,rfl,rfl,XE.h,rfl,rfl⟩,⟨_,_,_,rfl,rfl,axY.h,rfl,rfl⟩,trivial⟩)
def KP(fu:Nat)(p1:Z UInt8):J Bool:=bd (am0 fu p1) fun x2=>sw x2 (some true) (bd (rF fu p1) fun(x5,x6,x7)=>bd (wQ fu x5 x6 x7) fun(x9,x10,x11)=>gd (NV x5 ([])) (gd (wt (aD.aFu x7)≤13000000) (sw (!decide (x11=(cK x5 ([]) x7).2)) (some false) (sw (!(xH x10 ((cK x5 ([]) x7).1))) (some false) (bd (uU fu x5 x6) fun x17=>sw x17 (bd (uR fu x5 x9) fun x20=>sw (!(x20)) (some false) (bd (mR fu x9 x7) fun x23=>bd (lQ fu x9 x7) fun x25=>sw (decide (x23=x25)) (gd (gO x7.aFu) (sw (!(eH x7.aFu)) (some (decide ((x9.aFA.length:Int)≥(x6.aFA.length:Int)))) (sw (decide (x23≥0)) (some (decide ((x9.aFA.length:Int)≥(x6.aFA.length:Int)))) (some false)))) (some false))) (bd (mR fu x9 x7) fun x31=>bd (lQ fu x9 x7) fun x33=>sw (decide (x31=x33)) (gd (gO x7.aFu) (sw (!(eH x7.aFu)) (some (decide ((x9.aFA.length:Int)≥(x6.aFA.length:Int)))) (sw (decide (x31≥0)) (some (decide ((x9.aFA.length:Int)≥(x6.aFA.length:Int)))) (some false)))) (some false)))))))
theorem af2(fu:Nat)(p1:Z UInt8)(r:Bool)(H:KP fu p1=some r):bU prog 6 [rU p1] (pB r):=by
 refine qJ func6 H (fun C hC H=>?_)
 refine gQ 8 ?_;refine bN H fun x2 z1 H=>(q1 (bJ func9 (avF fu p1 _ z1)) (qN (dR.weak (s':=⟨[(0,rU p1),(2,pB false),(13,pB x2)],⟨[],[]⟩⟩) FT ?_)))
 refine bG H (fun h3 H=>gE 4) fun h3 H=>?_;refine gQ 4 ?_;refine AL.weak (s':=⟨[(2,pB false),(15,rU p1)],⟨[],[]⟩⟩) FT ?_;refine J9 H fun x5 x6 x7 z4 H=>(q1 (bJ func28 (NA fu p1 _ z4)) ?_)
 refine gQ 13 ?_;refine q1 (b4 [aP x5.aFr]) (q1 (b4 [b0 x6.aFA,rI x6.aFI,bK x6.aFC]) (q1 (b4 [pS x7.aFz,pI x7.aFu.aFw,pS x7.aFu.aFs,aV x7.aFu.aFt]) ?_))
 refine AL.weak (s':=⟨[(2,pB false),(3,.ptr 0 0),(4,.ptr 1 0),(5,.ptr 2 0),(21,(aH.pv x5)),(22,(aU.pv x6)),(23,(aD.pv x7))],⟨[some ⟨26,[aP x5.aFr]⟩,some ⟨68,eM x6⟩,some ⟨32,b8 x7⟩],[]⟩⟩) FT ?_;refine J9 H fun x9 x10 x11 z8 H=>(q1 (bJ func29 (WX fu x5 x6 x7 _ z8)) ?_)
 refine gQ 12 ?_;refine q1 (b4 [aP x5.aFr]) (q1 (b4 [pS x7.aFz,pI x7.aFu.aFw,pS x7.aFu.aFs,aV x7.aFu.aFt]) ?_)
 refine AL.weak (s':=⟨[(2,pB false),(3,.ptr 0 0),(4,.ptr 1 0),(5,.ptr 2 0),(6,.ptr 3 0),(7,.ptr 4 0),(8,pI x11),(29,(aH.pv x5)),(30,(aD.pv x7))],⟨[some ⟨26,[aP x5.aFr]⟩,some ⟨68,eM x6⟩,some ⟨32,b8 x7⟩,some ⟨68,eM x9⟩,some ⟨55,cR x10⟩],[]⟩⟩) FT ?_;refine cB H fun z12 H=>(cB H fun z13 H=>(q1 (bJ func19 (MH x5 ([]) x7 z12 z13)) ?_))
 refine gQ 14 ?_;refine AL.weak (s':=⟨[(2,pB false),(3,.ptr 0 0),(4,.ptr 1 0),(5,.ptr 2 0),(6,.ptr 3 0),(7,.ptr 4 0),(9,.ptr 5 0),(37,pB (!decide (x11=(cK x5 ([]) x7).2)))],⟨[some ⟨26,[aP x5.aFr]⟩,some ⟨68,eM x6⟩,some ⟨32,b8 x7⟩,some ⟨68,eM x9⟩,some ⟨55,cR x10⟩,some ⟨55,cR ((cK x5 ([]) x7).1)⟩],[]⟩⟩) FT ?_;refine dY 37 H (fun g14 H=>gE 22) fun g14 H=>?_;refine qg g14 (b4 [pI x10.aFw,pI x10.aGa,pI x10.aFS.aFF,pI x10.aFS.aFS,bK x10.aFt]) (qg g14 (b4 [pI (((cK x5 ([]) x7).1).aFw),pI (((cK x5 ([]) x7).1).aGa),pI (((cK x5 ([]) x7).1).aFS.aFF),pI (((cK x5 ([]) x7).1).aFS.aFS),bK (((cK x5 ([]) x7).1).aFt)]) (qg g14 (bJ func20 (aj0 x10 ((cK x5 ([]) x7).1))) ?_))
 refine gQ 3 ?_;refine AL.weak (s':=⟨[(2,pB false),(3,.ptr 0 0),(4,.ptr 1 0),(5,.ptr 2 0),(6,.ptr 3 0),(43,pB (!(xH x10 ((cK x5 ([]) x7).1))))],⟨[some ⟨26,[aP x5.aFr]⟩,some ⟨68,eM x6⟩,some ⟨32,b8 x7⟩,some ⟨68,eM x9⟩,some ⟨55,cR x10⟩,some ⟨55,cR ((cK x5 ([]) x7).1)⟩],[]⟩⟩) FT ?_;refine dY 43 H (fun g15 H=>gE 16) fun g15 H=>?_;refine qg g15 (b4 [aP x5.aFr]) (qg g15 (b4 [b0 x6.aFA,rI x6.aFI,bK x6.aFC]) (bN H fun x17 z16 H=>(qg g15 (bJ func30 (UH fu x5 x6 _ z16)) (qg g15 bI ?_))))
 refine AL.weak (s':=⟨[(2,pB false),(3,.ptr 0 0),(4,.ptr 1 0),(5,.ptr 2 0),(6,.ptr 3 0),(43,pB (!(xH x10 ((cK x5 ([]) x7).1)))),(47,pB x17)],⟨[some ⟨26,[aP x5.aFr]⟩,some ⟨68,eM x6⟩,some ⟨32,b8 x7⟩,some ⟨68,eM x9⟩,some ⟨55,cR x10⟩,some ⟨55,cR ((cK x5 ([]) x7).1)⟩],[]⟩⟩) FT ?_;refine dY 47 H (fun g18 H=>?_) fun g18 H=>?_
 ·refine qg g18 (b4 [aP x5.aFr]) (qg g18 (b4 [b0 x9.aFA,rI x9.aFI,bK x9.aFC]) (bN H fun x20 z19 H=>(qg g18 (bJ func31 (TM fu x5 x9 _ z19)) ?_)))
  refine gQ 4 ?_;refine dR.weak (s':=⟨[(2,pB false),(4,.ptr 1 0),(5,.ptr 2 0),(6,.ptr 3 0),(53,pB (!(x20)))],⟨[some ⟨26,[aP x5.aFr]⟩,some ⟨68,eM x6⟩,some ⟨32,b8 x7⟩,some ⟨68,eM x9⟩,some ⟨55,cR x10⟩,some ⟨55,cR ((cK x5 ([]) x7).1)⟩],[]⟩⟩) FT ?_;refine bG H (fun h21 H=>gE 4) fun h21 H=>?_;refine gQ 3 ?_;refine q1 (b4 [b0 x9.aFA,rI x9.aFI,bK x9.aFC]) (q1 (b4 [pS x7.aFz,pI x7.aFu.aFw,pS x7.aFu.aFs,aV x7.aFu.aFt]) ?_)
  refine AL.weak (s':=⟨[(2,pB false),(4,.ptr 1 0),(5,.ptr 2 0),(6,.ptr 3 0),(54,(aU.pv x9)),(55,(aD.pv x7))],⟨[some ⟨26,[aP x5.aFr]⟩,some ⟨68,eM x6⟩,some ⟨32,b8 x7⟩,some ⟨68,eM x9⟩,some ⟨55,cR x10⟩,some ⟨55,cR ((cK x5 ([]) x7).1)⟩],[]⟩⟩) FT ?_;refine bN H fun x23 z22 H=>(q1 (bJ func32 (wN fu x9 x7 _ z22)) ?_)
  refine gQ 5 ?_;refine q1 (b4 [b0 x9.aFA,rI x9.aFI,bK x9.aFC]) (q1 (b4 [pS x7.aFz,pI x7.aFu.aFw,pS x7.aFu.aFs,aV x7.aFu.aFt]) (bN H fun x25 z24 H=>(q1 (bJ func33 (l3 fu x9 x7 _ z24)) ?_)))
  refine gQ 2 ?_;refine AL.weak (s':=⟨[(2,pB false),(4,.ptr 1 0),(5,.ptr 2 0),(6,.ptr 3 0),(11,pI x23),(62,pB (decide (x23=x25)))],⟨[some ⟨26,[aP x5.aFr]⟩,some ⟨68,eM x6⟩,some ⟨32,b8 x7⟩,some ⟨68,eM x9⟩,some ⟨55,cR x10⟩,some ⟨55,cR ((cK x5 ([]) x7).1)⟩],[]⟩⟩) FT ?_;refine dY 62 H (fun g26 H=>?_) fun g26 H=>?_
  ·refine qg g26 bW (qg g26 (b4 [pI x7.aFu.aFw,pS x7.aFu.aFs,aV x7.aFu.aFt]) (cB H fun z27 H=>(qg g26 (bJ func34 (oE x7.aFu z27)) ?_)))
   refine gQ 2 ?_;refine AL.weak (s':=⟨[(2,pB false),(4,.ptr 1 0),(6,.ptr 3 0),(11,pI x23),(62,pB (decide (x23=x25))),(67,pB (!(eH x7.aFu)))],⟨[some ⟨26,[aP x5.aFr]⟩,some ⟨68,eM x6⟩,some ⟨32,b8 x7⟩,some ⟨68,eM x9⟩,some ⟨55,cR x10⟩,some ⟨55,cR ((cK x5 ([]) x7).1)⟩],[]⟩⟩) FT ?_;refine dY 67 H (fun g28 H=>gE 15) fun g28 H=>?_;refine gQ 5 ?_;refine AL.weak (s':=⟨[(2,pB false),(4,.ptr 1 0),(6,.ptr 3 0),(72,pB (decide (x23≥0)))],⟨[some ⟨26,[aP x5.aFr]⟩,some ⟨68,eM x6⟩,some ⟨32,b8 x7⟩,some ⟨68,eM x9⟩,some ⟨55,cR x10⟩,some ⟨55,cR ((cK x5 ([]) x7).1)⟩],[]⟩⟩) FT ?_;refine dY 72 H (fun g29 H=>gE 10) fun g29 H=>?_;exact gE 10
  exact gE 20
 refine gQ 11 ?_;refine q1 (b4 [b0 x9.aFA,rI x9.aFI,bK x9.aFC]) (q1 (b4 [pS x7.aFz,pI x7.aFu.aFw,pS x7.aFu.aFs,aV x7.aFu.aFt]) ?_)
 refine AL.weak (s':=⟨[(2,pB false),(4,.ptr 1 0),(5,.ptr 2 0),(6,.ptr 3 0),(54,(aU.pv x9)),(55,(aD.pv x7))],⟨[some ⟨26,[aP x5.aFr]⟩,some ⟨68,eM x6⟩,some ⟨32,b8 x7⟩,some ⟨68,eM x9⟩,some ⟨55,cR x10⟩,some ⟨55,cR ((cK x5 ([]) x7).1)⟩],[]⟩⟩) FT ?_;refine bN H fun x31 z30 H=>(q1 (bJ func32 (wN fu x9 x7 _ z30)) ?_)
 refine gQ 5 ?_;refine q1 (b4 [b0 x9.aFA,rI x9.aFI,bK x9.aFC]) (q1 (b4 [pS x7.aFz,pI x7.aFu.aFw,pS x7.aFu.aFs,aV x7.aFu.aFt]) (bN H fun x33 z32 H=>(q1 (bJ func33 (l3 fu x9 x7 _ z32)) ?_)))
 refine gQ 2 ?_;refine AL.weak (s':=⟨[(2,pB false),(4,.ptr 1 0),(5,.ptr 2 0),(6,.ptr 3 0),(11,pI x31),(62,pB (decide (x31=x33)))],⟨[some ⟨26,[aP x5.aFr]⟩,some ⟨68,eM x6⟩,some ⟨32,b8 x7⟩,some ⟨68,eM x9⟩,some ⟨55,cR x10⟩,some ⟨55,cR ((cK x5 ([]) x7).1)⟩],[]⟩⟩) FT ?_;refine dY 62 H (fun g34 H=>?_) fun g34 H=>?_
 ·refine qg g34 bW (qg g34 (b4 [pI x7.aFu.aFw,pS x7.aFu.aFs,aV x7.aFu.aFt]) (cB H fun z35 H=>(qg g34 (bJ func34 (oE x7.aFu z35)) ?_)))
  refine gQ 2 ?_;refine AL.weak (s':=⟨[(2,pB false),(4,.ptr 1 0),(6,.ptr 3 0),(11,pI x31),(62,pB (decide (x31=x33))),(67,pB (!(eH x7.aFu)))],⟨[some ⟨26,[aP x5.aFr]⟩,some ⟨68,eM x6⟩,some ⟨32,b8 x7⟩,some ⟨68,eM x9⟩,some ⟨55,cR x10⟩,some ⟨55,cR ((cK x5 ([]) x7).1)⟩],[]⟩⟩) FT ?_;refine dY 67 H (fun g36 H=>gE 15) fun g36 H=>?_;refine gQ 5 ?_;refine AL.weak (s':=⟨[(2,pB false),(4,.ptr 1 0),(6,.ptr 3 0),(72,pB (decide (x31≥0)))],⟨[some ⟨26,[aP x5.aFr]⟩,some ⟨68,eM x6⟩,some ⟨32,b8 x7⟩,some ⟨68,eM x9⟩,some ⟨55,cR x10⟩,some ⟨55,cR ((cK x5 ([]) x7).1)⟩],[]⟩⟩) FT ?_;refine dY 72 H (fun g37 H=>gE 10) fun g37 H=>?_;exact gE 10
 exact gE 20
end
end Go.Proofs.YtfcoaagbccmahaaGreat.W
namespace Go.Proofs.YtfcoaagbccmahaaGreat.W
set_option maxRecDepth 20000
set_option maxHeartbeats 4000000
open Go.RowKit Go.WalkArith Go.IntWalk
attribute [local irreducible] wt wl lt
def YH(fu:Nat):Prop:= ∀(pc:DS),Ok (o8 fu pc) (fun r=>wt r.1≤100000)
theorem ZU:eK YH:=((((bP 2147483648).and sV).and l9).and eE).imp fun fu ⟨⟨⟨hfu,sV⟩,l9⟩,eE⟩ pc=>by
 have:=ao8 3 (by decide)
 have:=ao8 2 (by decide)
 have:hH.size=1:=rfl
 have:ES.size=1:=rfl
 have:=mE hH ES
 have:=bC hH
 have:=bC ES
 refine xK (sV pc ([hH,ES]:LB) 3 bS) fun x2 x3 h1=>?_
 dsimp only at h1
 refine Ok.lt fun d4 h2=>?_;refine oC (fun g3=>?_) fun g3=>?_
 ·refine xK (l9 d4 2 bS) fun x8 x9 h4=>?_
  dsimp only at h4
  have:bH.size=4:=rfl
  have:lU.size=2:=rfl
  have:fD.size=3:=rfl
  have:eV.size=3:=rfl
  have:kX.size=4:=rfl
  have:xL.size=2:=rfl
  have:=aq8 bH bH lU fD eV kX xL
  have:=bC bH
  have:=bC lU
  have:=bC fD
  have:=bC eV
  have:=bC kX
  have:=bC xL
  refine Ok.lt fun d10 h5=>Ok.lt fun y12 h6=>?_
  have:=congrArg wt h6
  simp only [bC] at this
  have:y12.size≤4:=by rw [h6];exact cJ _ (by decide) (by decide)
  have:=aD.wm y12 x8
  exact oS
 refine oC (fun g7=>?_) fun g7=>?_
 ·have:K2.size=3:=rfl
  have:=b9
  refine oB (eE K2 ([]:Z aA) bS) fun x16 h8=>?_
  have:bH.size=4:=rfl
  have:lU.size=2:=rfl
  have:fD.size=3:=rfl
  have:eV.size=3:=rfl
  have:kX.size=4:=rfl
  have:xL.size=2:=rfl
  have:=aq8 bH bH lU fD eV kX xL
  have:=bC bH
  have:=bC lU
  have:=bC fD
  have:=bC eV
  have:=bC kX
  have:=bC xL
  refine Ok.lt fun d17 h9=>Ok.lt fun y19 h10=>?_
  have:=congrArg wt h10
  simp only [bC] at this
  have:y19.size≤4:=by rw [h10];exact cJ _ (by decide) (by decide)
  have:=aD.wm y19 x16
  exact oS
 refine oC (fun g11=>?_) fun g11=>?_
 ·have:K2.size=3:=rfl
  have:fE.size=3:=rfl
  have:eU.size=4:=rfl
  have:=JN K2 fE eU
  have:=bC K2
  have:=bC fE
  have:=bC eU
  refine Ok.lt fun d22 h12=>Ok.lt fun y24 h13=>?_
  have:=congrArg wt h13
  simp only [bC] at this
  have:y24.size≤4:=by rw [h13];exact cJ _ (by decide) (by decide)
  have:=b9
  refine oB (eE y24 ([]:Z aA) bS) fun x27 h14=>?_
  have:cV.size=4:=rfl
  have:=cO x27
  refine oB (eE cV ([x27]:Z aA) bS) fun x29 h15=>?_
  have:bH.size=4:=rfl
  have:lU.size=2:=rfl
  have:fD.size=3:=rfl
  have:eV.size=3:=rfl
  have:kX.size=4:=rfl
  have:xL.size=2:=rfl
  have:=aq8 bH bH lU fD eV kX xL
  have:=bC bH
  have:=bC lU
  have:=bC fD
  have:=bC eV
  have:=bC kX
  have:=bC xL
  refine Ok.lt fun d30 h16=>Ok.lt fun y32 h17=>?_
  have:=congrArg wt h17
  simp only [bC] at this
  have:y32.size≤4:=by rw [h17];exact cJ _ (by decide) (by decide)
  have:=aD.wm y32 x29
  exact oS
 have:bH.size=4:=rfl
 have:lU.size=2:=rfl
 have:fD.size=3:=rfl
 have:eV.size=3:=rfl
 have:kX.size=4:=rfl
 have:xL.size=2:=rfl
 have:=aq8 bH bH lU fD eV kX xL
 have:=bC bH
 have:=bC lU
 have:=bC fD
 have:=bC eV
 have:=bC kX
 have:=bC xL
 refine Ok.lt fun d34 h18=>Ok.lt fun y36 h19=>?_
 have:=congrArg wt h19
 simp only [bC] at this
 have:y36.size≤4:=by rw [h19];exact cJ _ (by decide) (by decide)
 have:=aD.wm y36 x2
 exact oS
end Go.Proofs.YtfcoaagbccmahaaGreat.W
namespace Go.Proofs.YtfcoaagbccmahaaGreat.W
open Go.RowKit Go.WalkArith Go.Proofs
attribute [local irreducible] lt wl
def ae7(l:Z aD):Prop:=l.length≤6∧ ∀b∈l,wt b≤100000
def J2(fu:Nat):Prop:= ∀d:DS,Ok (wD fu d) fun r=>ae7 r.1
theorem ajE:eK J2:=ZU.imp fun fu hG d=>by
 have snoc: ∀ {l:Z aD} {x:aD} {i:Nat} {d:DS},l.length=i∧(∀b∈l,wt b≤100000)→i<6→wt x≤100000→Ok (gd (l.length+([x]:Z aD).length≤68719476736) (some (LR.next (l++ [x],d):LR (Z aD×DS) (Z aD×DS)))) (PL (fun r=>ae7 r.1) (fun q=>q.1.length=i+1∧ ∀b∈q.1,wt b≤100000) fun q=>ae7 q.1):=fun {l x i d} h hi hx=>by
  refine Ok.gd (by rw [List.length_singleton];omega) (Ok.some ⟨by show(l++ [x]).length=_;rw [List.length_append,List.length_singleton];omega,fun b hb=>?_⟩)
  rcases List.mem_append.1 hb with h1|h1
  ·exact h.2 b h1
  ·rw [List.mem_singleton.1 h1];exact hx
 have h6:=DS.below_lt d (n:=6) (by decide)
 unfold wD
 refine Ok.lt fun d1 _=>g0 (E:=fun q=>ae7 q.1) ?_ fun q h=>Ok.some h
 refine FY (fun i q=>i≤6∧q.1.length=i∧ ∀b∈q.1,wt b≤100000) ⟨by omega,rfl,by simp⟩ (fun i q _ h=>⟨by omega,h.2.2⟩) ?_;rintro i ⟨l,c⟩ hi ⟨-,h⟩
 have h':i<6:=by omega
 have fin: ∀ {x:aD} {d:DS},wt x≤100000→Ok (gd (l.length+([x]:Z aD).length≤68719476736) (some (LR.next (l++ [x],d):LR (Z aD×DS) (Z aD×DS)))) (PL (fun r=>ae7 r.1) (fun q=>i+1≤6∧q.1.length=i+1∧ ∀b∈q.1,wt b≤100000) fun q=>ae7 q.1):=fun {x d} hx=>by
  obtain⟨a,ha,hp⟩:=snoc (d:=d) h h' hx
  refine⟨a,ha,?_⟩
  cases a with
  |next q=>exact⟨by omega,hp⟩
  |_=>exact hp
 have draw: ∀c:DS,Ok (bd (o8 fu c) fun(x,y)=>gd (l.length+([x]:Z aD).length≤68719476736) (some (LR.next (l++ [x],y):LR (Z aD×DS) (Z aD×DS)))) (PL (fun r=>ae7 r.1) (fun q=>i+1≤6∧q.1.length=i+1∧ ∀b∈q.1,wt b≤100000) fun q=>ae7 q.1):=fun c=>by
  refine Ok.bd (hG c) ?_;rintro⟨x,y⟩ hx
  exact fin hx
 unfold I5
 refine Ok.sw (fun hp=>Ok.lt fun d10 _=>Ok.sw (fun _=>Ok.lt fun d13 _=>?_) fun _=>draw _) fun _=>draw _
 have hl:0<l.length:=by have:=of_decide_eq_true hp;omega
 have hb:=DS.below_lt d10 (n:=l.length) hl
 exact Ok.gd hb (fin (h.2 _ (cA hb)))
end Go.Proofs.YtfcoaagbccmahaaGreat.W
namespace Go.Proofs.YtfcoaagbccmahaaGreat.W
open Go.RowKit Go.WalkArith Go.Proofs
def Pt{α:Type}(o:J α)(P:α→Prop):Prop:= ∀r,o=some r→P r
theorem bF{α:Type}{P:α→Prop}{a:α}(h:P a):Pt (some a) P:=fun r e=>by cases e;exact h
theorem fX{α β:Type}{P:α→Prop}{o:J β}{f:β→J α}{Q:β→Prop}(h:Pt o Q)(k: ∀a,Q a→Pt (f a) P):Pt (bd o f) P:=fun r e=>by
 cases o with
 |none=>cases e
 |some a=>exact k a (h a rfl) r e
theorem eS{α β:Type}{P:α→Prop}{o:J β}{f:β→J α}(k: ∀a,Pt (f a) P):Pt (Go.Proofs.YtfcoaagbccmahaaGreat.bd o f) P:=fX (Q:=fun _=>True) (fun _ _=>trivial) fun a _=>k a
theorem cL{α:Type}{P:α→Prop}{c:Bool}{a b:J α}(ht:c=true→Pt a P)(hf:c=false→Pt b P):Pt (sw c a b) P:=by
 cases c
 ·exact hf rfl
 ·exact ht rfl
theorem uC{α:Type}{P:α→Prop}{g:Prop}{a:J α}(k:Pt a P):Pt (gd g a) P:=fun r e=>by
 by_cases h:g
 ·rw [f7 h rfl] at e;exact k r e
 ·rw [gdF h] at e;cases e
theorem gR{α β:Type}{P:α→Prop}{x:β}{f:β→J α}(k: ∀y,y=x→Pt (f y) P):Pt (lt x f) P:=k x rfl
theorem uD{α σ:Type}{P:α→Prop}{o:J (α⊕σ)}{f:σ→J α}{E:σ→Prop}(h:Pt o (PS P E))(k: ∀s,E s→Pt (f s) P):Pt (so o f) P:=fun r e=>by
 cases o with
 |none=>cases e
 |some x=>
  cases x with
  |inl y=>cases e;exact h _ rfl
  |inr s=>exact k s (h _ rfl) r e
theorem D9{α σ:Type}{P:α→Prop}{E:σ→Prop}{F:Nat→σ→J (LR σ α)}{n:Nat}(I:Nat→σ→Prop)(hE: ∀s,I n s→E s)(hs: ∀i s,i<n→I i s→Pt (F i s) (PL P (I (i+1)) E)): ∀k i s,n-i=k→i≤n→I i s→Pt (loopN F k i s) (PS P E)
 |0,i,s,hk,hi,h=>by
  obtain rfl:i=n:=by omega
  exact bF (hE s h)
 |k+1,i,s,hk,hi,h=>fun r e=>by
  rw [loopN] at e
  cases hq:F i s with
  |none=>rw [hq] at e;cases e
  |some x=>
   rw [hq] at e
   have hx:=hs i s (by omega) h x hq
   cases x with
   |next s'=>exact D9 I hE hs k (i+1) s' (by omega) (by omega) hx r e
   |brk s'=>cases e;exact hx
   |ret x=>cases e;exact hx
theorem FB{γ σ:Type}[Inhabited γ]{P:Bool→Prop}{l:Z γ}{F:Nat→σ→J (LR σ Bool)}{s:σ}(R:γ→Prop)(hs: ∀i v,i<l.length→Pt (F i v) (PL P (fun _=>R (aR l i)) fun _=>False)):Pt (loopN F (l.length-0) 0 s) (PS P fun _=> ∀x∈l,R x):=
 D9 (fun i _=> ∀x∈l.take i,R x) (fun s h=>by rwa [List.take_length] at h) (fun i v hi h r e=>by
  have h1:=hs i v hi r e
  cases r with
  |next s'=>
   intro x hx
   rw [LI hi] at hx
   rcases List.mem_append.1 hx with h2|h2
   ·exact h x h2
   ·rw [List.mem_singleton.1 h2];exact h1
  |brk s'=>exact h1.elim
  |ret x=>exact h1) _ 0 s rfl (Nat.zero_le _) (by simp)
theorem no{X:Prop}:false=true→X:=fun h=>nomatch h
theorem RW{b:Bool}(h:(!b)=false):b=true:=by cases b<;>first|rfl|cases h
theorem awV{α:Type}{P:α→Prop}{g:Prop}{a:J α}(k:g→Pt a P):Pt (Go.Proofs.YtfcoaagbccmahaaGreat.gd g a) P:=fun r e=>by
 by_cases h:g
 ·rw [f7 h rfl] at e;exact k h r e
 ·rw [gdF h] at e;cases e
theorem azG{α:Type}{P Q:α→Prop}{o:J α}(h:Pt o P)(k: ∀a,P a→Q a):Pt o Q:=fun r e=>k r (h r e)
def RN(k:Int)(n:Y)(m:Nat):Prop:=k=2→TA n=true→m=0
mutual
def NI:aA→Prop
 | .mk k n xs=>RN k n xs.length∧NIL xs
def NIL:Z aA→Prop
 | []=>True
 |x::l=>NI x∧NIL l
end
theorem apJ: ∀l:Z aA,NIL l↔ ∀x∈l,NI x
 | []=>by rw [NIL];simp
 |x::l=>by rw [NIL,apJ l,List.forall_mem_cons]
theorem II:afG NI RN:=fun k n xs=>by rw [NI,apJ]
theorem yK{t:aA}(h:NI t):NI (.mk t.aFw t.aFs t.aFt):=by cases t;exact h
theorem XR{s:Y}:NI (.mk 2 s []):=(II _ _ _).2 ⟨fun _ _=>rfl,by simp⟩
theorem Z0{s:Y}{xs:Z aA}(h:TA s=false)(hx: ∀x∈xs,NI x):NI (.mk 2 s xs):=(II _ _ _).2 ⟨fun _ e=>(by rw [h] at e;cases e),hx⟩
theorem Z1{k:Int}{s:Y}{xs:Z aA}(h:k≠2)(hx: ∀x∈xs,NI x):NI (.mk k s xs):=(II _ _ _).2 ⟨fun e=>absurd e h,hx⟩
theorem am5{s:Y}:NI (.mk 1 s []):=Z1 (by decide) (by simp)
theorem T7{P:aA→Prop}{x:aA}(h:P x): ∀y∈ [x],P y:=fun y hy=>by rw [List.mem_singleton.1 hy];exact h
theorem atT{P:aA→Prop}{x y:aA}(h:P x)(k:P y): ∀z∈ [x,y],P z:=fun z hz=>by
 rcases List.mem_cons.1 hz with rfl|hz
 ·exact h
 ·rw [List.mem_singleton.1 hz];exact k
structure IOk (x:aL):Prop where
 w: ∀b∈x.aFL,NI b.aFu
 n:x.aFL.length≤4
 a:NI x.aFR
def DOk(d:aO):Prop:=TA d.aFs=false∧ ∀c∈d.aFx,∀f∈c.aFN,NI f
def POk(p:aN):Prop:=(∀d∈p.aFB,DOk d)∧ ∀x∈p.aFG,IOk x
def WOk(w:aH):Prop:= ∀p∈w.aFr,POk p
theorem atY(fu:Nat)(s:Y):Pt (dX fu s) fun b=>b=true→TA s=false:=by
 unfold dX
 refine eS fun x2=>cL (fun _=>bF no) fun _=>?_
 unfold zM
 refine fX (Q:=fun b=>b=false→TA s=false) ?_ fun x5 h=>cL (fun _=>bF no) fun e r _ _=>h e
 rw [U3]
 refine fX (Q:=fun b=>b=false→TA s=false) (bF fun h=>?_) fun x h=>bF h
 have h1:s≠fE:=by
  rintro rfl
  cases h
 have h2:s≠eU:=by
  rintro rfl
  cases h
 unfold TA
 rw [decide_eq_false h1,decide_eq_false h2]
 rfl
theorem atX: ∀fu t,Pt (m5 fu t) fun b=>b=true→NI t
 |0,t=>fun r e=>by rw [m5] at e;cases e
 |fu+1,t=>by
  rw [m5]
  unfold MS
  refine fX (atY fu _) fun x2 h2=>?_;refine uD (E:=fun v=>v=true→RN t.aFw t.aFs t.aFt.length) ?_ fun v3 h3=>?_
  ·unfold abG
   refine uD (E:=fun v=>v=true→t.aFw≠2) ?_ fun v4 h4=>?_
   ·unfold abH
    refine cL (fun h=>bF fun h e=>?_) fun h=>bF fun h e=>?_
    ·have:=of_decide_eq_true h;omega
    ·have:=of_decide_eq_true h;omega
   ·have hz: ∀x:Bool,Pt (sw x (some (.inr (decide ((((t.aFt.length:Nat):Int):Int)=0)))) (some (.inr false)):J (Bool⊕Bool)) (PS (fun b=>b=true→NI t) fun v=>v=true→RN t.aFw t.aFs t.aFt.length):=fun x=>
     cL (fun _=>bF fun h _ _=>by have:=of_decide_eq_true h;omega) fun _=>bF no
    refine cL (fun e4=>cL (fun _=>bF fun _ e=>absurd e (h4 e4)) fun _=>bF no) fun _=>cL (fun e=>cL (fun _=>bF fun _ e2=>?_) fun _=>bF no) fun _=>cL (fun _=>cL (fun e=>cL (fun _=>bF fun _ _ k=>?_) fun _=>eS hz) fun _=>eS hz) fun _=>bF no
    ·have:=of_decide_eq_true e;omega
    ·rw [h2 e] at k;cases k
  ·refine uD (E:=fun v=>v=true→v3=true∧ ∀x∈t.aFt,NI x) (D9 (fun i v=>v=true→v3=true∧ ∀x∈t.aFt.take i,NI x) (fun s h=>by rwa [List.take_length] at h) (fun i v hi h=>?_) _ 0 v3 rfl (Nat.zero_le _) fun h=>⟨h,by simp⟩) fun v h=>bF fun e=>?_
   ·unfold abI
    refine cL (fun ev=>fX (atX fu _) fun x hx=>bF fun ex=>⟨(h ev).1,fun y hy=>?_⟩) fun _=>bF no
    rw [LI hi] at hy
    rcases List.mem_append.1 hy with h1|h1
    ·exact(h ev).2 y h1
    ·rw [List.mem_singleton.1 h1];exact hx ex
   ·obtain⟨h1,h2⟩:=h e
    have:=(II t.aFw t.aFs t.aFt).2 ⟨h3 h1,h2⟩
    cases t
    exact this
theorem axL(fu:Nat)(t:aA):Pt (jK fu t) fun b=>b=true→NI t:=by
 unfold jK
 exact eS fun _=>cL (fun _=>eS fun _=>cL (fun _=>fX (atX fu t) fun _ h=>bF h) fun _=>bF no) fun _=>bF no
theorem am9(fu:Nat)(t:aA)(vs:LB):Pt (nI fu t vs) fun b=>b=true→NI t:=by
 unfold nI VZ
 exact eS fun _=>uD (FB (fun _=>True) fun _ _ _=>eS fun _=>cL (fun _=>bF no) fun _=>bF trivial) fun _ _=>fX (axL fu t) fun _ h=>bF h
theorem ayZ(fu:Nat)(l:Z aA)(vs:LB):Pt (CK fu l vs) fun b=>b=true→ ∀t∈l,NI t:=by
 unfold CK aaY
 exact uD (FB NI fun _ _ _=>fX (am9 fu _ vs) fun _ h=>cL (fun _=>bF no) fun e=>bF (h (RW e))) fun _ h=>bF fun _=>h
theorem avN(fu:Nat)(l:Z aD)(vs:LB):Pt (wB fu l vs) fun b=>b=true→(∀x∈l,NI x.aFu)∧l.length≤4:=by
 unfold wB R9
 exact uD (FB (γ:=aD) (fun b=>NI b.aFu) fun _ _ _=>eS fun _=>cL (fun _=>bF no) fun _=>fX (am9 fu _ vs) fun _ h=>cL (fun _=>bF no) fun e=>eS fun _=>cL (fun _=>bF no) fun _=>bF (h (RW e))) fun _ h=>bF fun e=>⟨h,by have:=of_decide_eq_true e;omega⟩
theorem axG(fu:Nat)(d:aO):Pt (lG fu d) fun b=>b=true→DOk d:=by
 unfold lG BI
 exact uD (FB (γ:=aE) (fun c=> ∀f∈c.aFN,NI f) fun _ _ _=>cL (fun _=>bF no) fun _=>fX (ayZ fu _ _) fun _ h=>cL (fun _=>bF no) fun e=>uC (bF (h (RW e)))) fun _ h=>fX (atY fu _) fun _ hn=>cL (fun e=>eS fun _=>cL (fun _=>cL (fun _=>eS fun _=>bF fun _=>⟨hn e,h⟩) fun _=>bF no) fun _=>bF no) fun _=>bF no
theorem axM(fu:Nat)(t:aA):Pt (rK fu t) fun b=>b=true→NI t:=by
 unfold rK
 refine cL (fun e=>cL (fun _=>bF fun h=>?_) fun _=>bF no) fun _=>bF no
 have h1:=of_decide_eq_true e
 have h2:=of_decide_eq_true h
 cases t with
 |mk k n xs=>
  replace h2:((xs.length:Nat):Int)=0:=h2
  replace h1:k=0:=h1
  obtain rfl:xs= []:=List.eq_nil_of_length_eq_zero (by omega)
  exact Z1 (by omega) (by simp)
theorem axI(fu:Nat)(x:aL):Pt (lH fu x) fun b=>b=true→IOk x:=by
 unfold lH
 refine eS fun _=>cL (fun _=>bF no) fun _=>eS fun _=>cL (fun _=>bF no) fun _=>eS fun _=>cL (fun _=>bF no) fun _=>eS fun _=>cL (fun _=>bF no) fun _=>cL (fun _=>bF no) fun _=>fX (avN fu _ _) fun _ hw=>cL (fun _=>bF no) fun ew=>?_
 obtain⟨h1,h2⟩:=hw (RW ew)
 unfold BM BL BN
 refine uD (FB (fun _=>True) fun _ _ _=>eS fun _=>cL (fun _=>bF no) fun _=>bF trivial) fun _ _=>uD (E:=fun _=>NI x.aFR) ?_ fun _ ha=>?_
 ·exact cL (fun _=>fX (am9 fu _ _) fun _ h=>cL (fun _=>bF no) fun e=>bF (h (RW e))) fun _=>fX (axM fu _) fun _ h=>cL (fun _=>bF no) fun e=>bF (h (RW e))
 ·exact uD (FB (fun _=>True) fun _ _ _=>gR fun _ _=>cL (fun _=>bF no) fun _=>eS fun _=>cL (fun _=>bF no) fun _=>eS fun _=>cL (fun _=>bF no) fun _=>uC (bF trivial)) fun _ _=>eS fun _=>bF fun _=>⟨h1,h2,ha⟩
theorem avL(fu:Nat)(p:aN):Pt (AJ fu p) fun b=>b=true→POk p:=by
 unfold AJ SD SE SF SG
 refine uD (FB (fun _=>True) fun _ _ _=>eS fun _=>cL (fun _=>bF no) fun _=>bF trivial) fun _ _=>uD (FB DOk fun _ _ _=>fX (axG fu _) fun _ h=>cL (fun _=>bF no) fun e=>bF (h (RW e))) fun _ hd=>uD (FB IOk fun _ _ _=>gR fun y hy=>fX (axI fu y) fun _ h=>cL (fun _=>bF no) fun e=>bF (hy ▸ h (RW e))) fun _ hi=>uD (FB (fun _=>True) fun _ _ _=>gR fun _ _=>eS fun _=>cL (fun _=>bF no) fun _=>bF trivial) fun _ _=>bF fun _=>⟨hd,hi⟩
theorem axJ(fu:Nat)(p:aN):Pt (oF fu p) fun b=>b=true→POk p:=by
 unfold oF
 exact eS fun⟨_,_,_,_⟩=>eS fun _=>cL (fun _=>bF no) fun _=>eS fun _=>cL (fun _=>bF no) fun _=>eS fun _=>cL (fun _=>bF no) fun _=>cL (fun _=>bF no) fun _=>eS fun _=>cL (fun _=>eS fun _=>cL (fun _=>eS fun _=>cL (fun _=>eS fun _=>cL (fun _=>fX (avL fu p) fun _ h=>bF h) fun _=>bF no) fun _=>bF no) fun _=>bF no) fun _=>bF no
theorem ajU{n:Y}{l:LB}{a:Z aZ}{f:Z aQ}:POk (.mk n l a [] [] f):=⟨fun d hd=>by simp [aN.aFB] at hd,fun d hd=>by simp [aN.aFG] at hd⟩
theorem aBk(fu:Nat)(x:aB):Pt (oH fu x) fun r=>POk r.1:=by
 unfold oH DJ
 refine eS fun _=>eS fun⟨_,_⟩=>eS fun _=>eS fun _=>cL (fun _=>bF ajU) fun _=>cL (fun _=>bF ajU) fun _=>uC (cL (fun _=>bF ajU) fun _=>uC (cL (fun _=>bF ajU) fun _=>cL (fun _=>bF ajU) fun _=>uD (E:=fun _=>True) ?_ fun⟨_,_,_,_,_,_⟩ _=>fX (axJ fu _) fun _ h=>cL (fun _=>bF ajU) fun e=>bF (h (RW e))))
 by_cases hn:3≤x.aFv.length
 ·exact D9 (fun _ _=>True) (fun _ _=>trivial) (fun i ⟨_,_,_,_,_,_⟩ _ _=>eS fun⟨_,_⟩=>cL (fun _=>bF ajU) fun _=>bF trivial) _ 3 _ rfl hn trivial
 ·rw [show x.aFv.length-3=0 by omega]
  exact bF trivial
theorem axK(fu:Nat)(s:Y):Pt (r9 fu s) fun r=>WOk r.1:=by
 unfold r9 G3
 have h0:WOk (.mk []):=fun p hp=>by simp [aH.aFr] at hp
 refine eS fun l=>uD (E:=fun v=> ∀p∈v,POk p) (D9 (fun _ v=> ∀p∈v,POk p) (fun _ h=>h) (fun i v _ h=>?_) _ 0 _ rfl (Nat.zero_le _) (by simp)) fun v h=>bF h
 refine eS fun _=>cL (fun _=>bF h) fun _=>fX (Q:=fun r=>POk r.1) ?_ fun⟨p,_⟩ hp=>cL (fun _=>bF h0) fun _=>cL (fun _=>bF h0) fun _=>uC (bF fun q hq=>?_)
 ·unfold uW
  exact eS fun⟨_,_⟩=>cL (fun _=>bF ajU) fun _=>fX (aBk fu _) fun⟨_,_⟩ h=>bF h
 ·rcases List.mem_append.1 hq with h1|h1
  ·exact h q h1
  ·rw [List.mem_singleton.1 h1];exact hp
theorem RX(fu:Nat)(s:Y)(l:Z aA):Pt (iJ fu s l) fun t=>t= .mk 2 s l:=uC (bF rfl)
theorem atW: ∀fu,(∀t,Pt (jH fu t) fun r=>r=t)∧ ∀l,Pt (jG fu l) fun r=>r=l
 |0=>⟨fun t r e=>(by rw [jH] at e;cases e),fun l r e=>(by rw [jG] at e;cases e)⟩
 |fu+1=>by
  obtain⟨h1,h2⟩:=atW fu
  refine⟨fun t=>?_,fun l=>?_⟩
  ·rw [jH]
   exact fX (h2 _) fun x hx=>bF (by subst hx;cases t;rfl)
  ·rw [jG]
   unfold AO I9
   refine uD (E:=fun v=>v=l) (D9 (fun i v=>v=l.take i) (fun s h=>by rwa [List.take_length] at h) (fun i v hi h=>fX (h1 _) fun x hx=>uC (bF ?_)) _ 0 _ rfl (Nat.zero_le _) rfl) fun v h=>bF h
   show v++ [x]=l.take (i+1)
   rw [LI hi,h,hx]
theorem avM: ∀fu c vs d,Pt (mP fu c vs d) fun r=>NI r.1
 |0,c,vs,d=>fun r e=>by rw [mP] at e;cases e
 |fu+1,c,vs,d=>by
  have L0: ∀ {e:DS} {l:LB},Pt (lt (e.after l.length) fun d5=>lt (e.pick l) fun y=>bd (iJ fu y []) fun x=>some (aA.mk x.aFw x.aFs x.aFt,d5)) fun r=>NI r.1:=gR fun _ _=>gR fun _ _=>fX (RX fu _ _) fun x hx=>bF (yK (hx ▸ XR))
  rw [mP]
  unfold XW
  have ih:=avM fu
  have L1: ∀ {e:DS} {k:Int},Pt (lt (e.after ([cV,cV,AG]:LB).length) fun d33=>lt (e.pick ([cV,cV,AG]:LB)) fun y35=>bd (mP fu d33 vs k) fun(x38,x39)=>bd (iJ fu y35 ([(aA.mk x38.aFw x38.aFs x38.aFt)]:Z aA)) fun x41=>some ((aA.mk x41.aFw x41.aFs x41.aFt),x39)) fun r=>NI r.1:=fun {e k}=>gR fun _ _=>gR fun y hy=>fX (ih _ _ _) fun⟨x,_⟩ hx=>fX (RX fu _ _) fun z hz=>bF (yK (hz ▸ Z0 (hy ▸ by
   have:=e.pick_mem (l:= [cV,cV,AG]) (by decide)
   simp only [List.mem_cons,List.not_mem_nil,or_false] at this
   rcases this with h|h|h<;>rw [h]<;>rfl) (T7 (yK hx))))
  have L2: ∀ {e:DS} {k k2:Int},Pt (bd (mP fu e vs k) fun(x26,x27)=>bd (mP fu x27 vs k2) fun(x29,x30)=>bd (iJ fu vJ ([(aA.mk x26.aFw x26.aFs x26.aFt),(aA.mk x29.aFw x29.aFs x29.aFt)]:Z aA)) fun x32=>some ((aA.mk x32.aFw x32.aFs x32.aFt),x30)) fun r=>NI r.1:=fX (ih _ _ _) fun⟨x,_⟩ hx=>fX (ih _ _ _) fun⟨y,_⟩ hy=>fX (RX fu _ _) fun z hz=>bF (yK (hz ▸ Z0 rfl (atT (yK hx) (yK hy))))
  exact gR fun _ _=>cL (fun _=>cL (fun _=>gR fun _ _=>uC (bF am5)) fun _=>cL (fun _=>L0) fun _=>cL (fun _=>L0) fun _=>cL (fun _=>L2) fun _=>L1) fun _=>cL (fun _=>L0) fun _=>cL (fun _=>L0) fun _=>cL (fun _=>L2) fun _=>L1
theorem atZ(fu:Nat)(s:Y){t:aA}(h:NI t):Pt (HB fu s t) NI:=fX ((atW fu).1 _) fun x hx=>bF (Z1 (by decide) (T7 (hx ▸ h)))
theorem am7(fu:Nat)(c:DS)(d:Int):Pt (sJ fu c d) fun r=>NI r.1:=by
 unfold sJ
 exact fX (avM fu _ _ _) fun⟨x,_⟩ hx=>gR fun _ _=>cL (fun _=>gR fun _ _=>gR fun _ _=>fX (atZ fu _ (yK hx)) fun _ h=>bF (yK h)) fun _=>cL (fun _=>fX (atZ fu _ (yK hx)) fun _ h=>fX (RX fu _ _) fun _ hz=>bF (yK (hz ▸ Z0 rfl (T7 (yK h))))) fun _=>cL (fun _=>bF (Z1 (by decide) (by simp))) fun _=>bF (yK hx)
theorem avI(fu:Nat)(c:DS):Pt (DT fu c) fun r=>DOk r.1:=by
 unfold DT
 refine fX (Q:=NI) (bF am5) fun x hx=>fX (RX fu _ _) fun y hy=>?_
 replace hy:NI y:=hy ▸ Z0 rfl (T7 hx)
 have h2: ∀ {n m:Y} {l:Z aA},(∀f∈l,NI f)→ ∀c∈([.mk n l,.mk m [x,y]]:Z aE),∀f∈c.aFN,NI f:=fun {n m l} hl c hc f hf=>by
  rcases List.mem_cons.1 hc with rfl|hc
  ·exact hl f hf
  ·rw [List.mem_singleton.1 hc] at hf
   exact atT hx hy f hf
 exact gR fun _ _=>cL (fun _=>gR fun _ _=>gR fun _ _=>uC (bF ⟨rfl,h2 (by simp)⟩)) fun _=>cL (fun _=>gR fun _ _=>uC (bF ⟨rfl,fun c hc=>h2 (by simp) c (List.mem_of_mem_take (List.mem_of_mem_drop hc))⟩)) fun _=>cL (fun _=>fX (am7 fu _ _) fun⟨_,_⟩ hf=>bF ⟨rfl,h2 (T7 hf)⟩) fun _=>cL (fun _=>gR fun _ _=>gR fun _ _=>bF ⟨rfl,h2 (by simp)⟩) fun _=>bF ⟨rfl,h2 (by simp)⟩
theorem avJ(fu:Nat)(c:DS):Pt (DU fu c) fun r=>IOk r.1:=by
 unfold DU
 refine gR fun _ _=>gR fun _ _=>gR fun _ _=>eS fun _=>uD (E:=fun v=>(∀b∈v.2.2.2.2.1,NI b.aFu)∧v.2.2.2.2.1.length≤1) ?_ fun⟨v9,v10,v11,v12,v13,v14⟩ ⟨h1,h2⟩=>uD (E:=fun v=>NI (.mk v.2.2.1 v.2.2.2.1 v.1)) ?_ fun⟨v38,v35,v36,v37,v34⟩ h3=>?_
 ·unfold VX
  have hb: ∀ {n s:Y},(∀b∈([.mk n (.mk 1 s [])]:Z aD),NI b.aFu)∧([.mk n (.mk 1 s [])]:Z aD).length≤1:=fun {n s}=>⟨fun b hb=>by rw [List.mem_singleton.1 hb];exact am5,Nat.le_refl _⟩
  have h0:(∀b∈([]:Z aD),NI b.aFu)∧([]:Z aD).length≤1:=⟨by simp,by simp⟩
  exact gR fun _ _=>cL (fun _=>eS fun _=>bF h0) fun _=>cL (fun _=>fX (Q:=fun t=>t= .mk 1 hH []) (bF rfl) fun _ e=>eS fun _=>bF (e ▸ hb)) fun _=>cL (fun _=>eS fun _=>eS fun _=>eS fun _=>bF h0) fun _=>fX (Q:=fun t=>t= .mk 1 hH []) (bF rfl) fun _ e=>bF (e ▸ hb)
 ·unfold VY
  exact gR fun _ _=>cL (fun _=>fX (avM fu _ _ _) fun⟨_,_⟩ h=>bF (yK h)) fun _=>bF (Z1 (show(0:Int)≠2 by decide) (by simp))
 ·have hI: ∀ {a:Y} {v:LB} {t:aA} {b b2:Bool} {m:Z aT},IOk (.mk a v t v13 b b2 (.mk v36 v37 v38) m):=⟨h1,Nat.le_trans h2 (by decide),h3⟩
  refine gR fun _ _=>gR fun _ _=>cL (fun _=>eS fun⟨_,_⟩=>bF hI) fun _=>cL (fun _=>gR fun _ _=>gR fun _ _=>uC (bF hI)) fun _=>cL (fun _=>fX (am7 fu _ _) fun⟨x,_⟩ hx=>uC (bF ⟨fun b hb=>?_,?_,h3⟩)) fun _=>cL (fun _=>eS fun⟨_,_⟩=>bF hI) fun _=>cL (fun _=>fX (Q:=NI) (fX (RX fu _ _) fun _ e=>bF (e ▸ XR)) fun _ h=>bF ⟨h1,Nat.le_trans h2 (by decide),h⟩) fun _=>cL (fun _=>bF hI) fun _=>bF hI
  ·rcases List.mem_append.1 hb with h|h
   ·exact h1 b h
   ·rw [List.mem_singleton.1 h];exact hx
  ·show(v13++_).length≤4
   replace h2:v13.length≤1:=h2
   rw [List.length_append,List.length_singleton]
   omega
theorem ahQ{α:Type}{P:α→Prop}{l:Z α}{x:α}(h: ∀a∈l,P a)(hx:P x): ∀a∈l++ [x],P a:=fun a ha=>by
 rcases List.mem_append.1 ha with h1|h1
 ·exact h a h1
 ·rw [List.mem_singleton.1 h1];exact hx
def PkS(v:Z aZ×Z aO×Z aL×Z aQ×DS):Prop:=(∀d∈v.2.1,DOk d)∧ ∀x∈v.2.2.1,IOk x
theorem axH(fu:Nat)(c:DS):Pt (G7 fu c) fun r=>POk r.1:=by
 unfold G7 aa2
 refine gR fun _ _=>uD (E:=PkS) (D9 (fun _=>PkS) (fun _ h=>h) (fun i ⟨v9,v10,v11,v12,v4⟩ _ ⟨h1,h2⟩=>?_) _ 0 _ rfl (Nat.zero_le _) ⟨by simp,by simp⟩) fun⟨v9,v10,v11,v12,v4⟩ ⟨h1,h2⟩=>?_
 ·exact gR fun _ _=>cL (fun _=>eS fun⟨_,_⟩=>uC (bF ⟨h1,h2⟩)) fun _=>cL (fun _=>fX (avI fu _) fun⟨_,_⟩ h=>uC (bF ⟨ahQ h1 h,h2⟩)) fun _=>cL (fun _=>fX (avJ fu _) fun⟨_,_⟩ h=>uC (bF ⟨h1,ahQ h2 h⟩)) fun _=>eS fun⟨_,_⟩=>uC (bF ⟨h1,h2⟩)
 ·exact gR fun _ _=>cL (fun _=>gR fun _ _=>gR fun _ _=>bF ⟨h1,h2⟩) fun _=>cL (fun _=>gR fun _ _=>gR fun _ _=>uC (bF ⟨h1,h2⟩)) fun _=>bF ⟨h1,h2⟩
theorem avO(fu:Nat)(c:DS):Pt (AK fu c) fun r=>WOk r.1:=by
 unfold AK IX
 exact fX (Q:=fun r=>WOk r.1) (eS fun⟨_,_⟩=>fX (axK fu _) fun⟨_,_⟩ h=>bF h) fun⟨_,_⟩ h=>gR fun _ _=>cL (fun _=>fX (axH fu _) fun⟨_,_⟩ hp=>uC (bF (ahQ h hp))) fun _=>bF h
theorem am8(fu:Nat)(c:DS):Pt (o8 fu c) fun r=>NI r.1.aFu:=by
 unfold o8
 exact fX (avM fu _ _ _) fun⟨_,_⟩ h=>gR fun _ _=>cL (fun _=>fX (am7 fu _ _) fun⟨_,_⟩ h=>gR fun _ _=>gR fun _ _=>bF h) fun _=>cL (fun _=>fX (RX fu _ _) fun _ e=>gR fun _ _=>gR fun _ _=>bF (e ▸ XR)) fun _=>cL (fun _=>gR fun _ _=>gR fun _ _=>fX (RX fu _ _) fun _ e=>fX (RX fu _ _) fun _ k=>gR fun _ _=>gR fun _ _=>bF (k ▸ Z0 rfl (T7 (e ▸ XR)))) fun _=>gR fun _ _=>gR fun _ _=>bF h
theorem auQ{w:aH}(h:WOk w):WQ NI w:=WQ.of (fun p hp x hx=>⟨((h p hp).2 x hx).w,((h p hp).2 x hx).a⟩) fun p hp d hd=>((h p hp).1 d hd).2
theorem YT{α:Type}{f g:α→Int}: ∀ {l:Z α},(∀x∈l,f x=g x)→nW f l=nW g l
 | [],_=>rfl
 |x::l,h=>by rw [nW,nW,h x (by simp),YT fun y hy=>h y (List.mem_cons_of_mem _ hy)]
theorem adR{f g:aD→aC×Int}: ∀ {l:Z aD} {out:Z aC},(∀x∈l,f x=g x)→BV f l out=BV g l out
 | [],_,_=>rfl
 |x::l,out,h=>by rw [BV,BV,h x (by simp),adR fun y hy=>h y (List.mem_cons_of_mem _ hy)]
theorem au2{t:aA}(h:NI t):AT true t=AT false t:=by
 cases t with
 |mk k n xs=>
  have hr:=((II k n xs).1 h).1
  unfold AT
  show(decide (k=2)&&(TA n&&(true||decide (xs.length=0))))=(decide (k=2)&&(TA n&&(false||decide (xs.length=0))))
  by_cases hk:k=2
  ·cases hn:TA n
   ·rw [Bool.false_and,Bool.false_and]
   ·rw [decide_eq_true (hr hk hn)];rfl
  ·rw [decide_eq_false hk];rfl
section
variable {w:aH} (hW:WQ NI w) (l:Z aJ)
include hW
theorem ao6(tr:Y): ∀k op t,NI t→s5 true w l tr k op t=s5 false w l tr k op t
 |0,_,_,_=>rfl
 |k+1,op,t,h=>by
  rw [s5,s5,au2 h]
  cases hc:vQ w t with
  |false=>rfl
  |true=>rw [YT fun c hm=>YT fun f hf=>ao6 tr k (op++ [t]) _ (auK II hW h hc hm hf)]
theorem alH: ∀k g,NI g.aFu→jS true w l k g=jS false w l k g
 |0,_,_=>rfl
 |k+1,g,h=>by
  rw [jS,jS,ao6 hW l _ _ _ _ h]
  by_cases hs:(gY w g).2=0
  ·rw [adR fun x hx=>alH k _ (aoW II hW (MJ hs) h hx)]
  ·rw [if_neg hs,if_neg hs]
end
theorem ax0{w:aH}(hW:WQ NI w)(l:Z aD){g:aD}(h:NI g.aFu):cK w l g=iX w l g:=alH hW _ 12 g h
def ayE(w:aH)(t:aA):Prop:= ∃V:LB,V.length≤13000000∧Gd (acK w++V) t
theorem aw9{w:aH}(hw:wt w≤13000000){V:LB}(h:V.length≤13000000):(acK w++V).length≤68719476736:=by
 have:=ajO w
 rw [List.length_append]
 omega
theorem ayE.ty{w:aH}(hw:wt w≤13000000){t:aA}(h:ayE w t):gO t:=let⟨_,h1,h2⟩:=h;⟨_,aw9 hw h1,h2⟩
attribute [local irreducible] lt wl
def SV(G:Z aD)(g:aD):Int:=match G.findIdx? (fun b=>aD.eq b g) with
 |some i=>((i:Nat):Int)
 |none=> -1
theorem afS(fu:Nat)(m:aU)(g:aD):mR fu m g=some (SV m.aFA g):=by
 unfold mR kD SV
 rw [tG (p:=fun b=>aD.eq b g) (fun i hi=>by
  unfold nC AX
  rw [Y7]
  show sw (aD.eq (aR m.aFA i) g) _ _=_
  cases aD.eq (aR m.aFA i) g<;>rfl)]
 cases m.aFA.findIdx? fun b=>aD.eq b g<;>rfl
theorem XU(fu:Nat)(m:aU)(g:aD):lQ fu m g=some (SV m.aFA g):=by
 unfold lQ SV
 rw [tG (p:=fun b=>aD.eq b g) (fun i hi=>by
  unfold KX
  rw [aaD]
  show sw (aD.eq (aR m.aFA i) g) _ _=_
  cases aD.eq (aR m.aFA i) g<;>rfl)]
 cases m.aFA.findIdx? fun b=>aD.eq b g<;>rfl
def KS(G:Z aD)(g:aD):Z aD:=bif eH g.aFu&&decide (SV G g<0) then G++ [g] else G
def KR(l:Z aD):Nat→Z aD
 |0=> []
 |i+1=>KS (KR l i) (aR l i)
theorem ZZ{l:Z aD}: ∀i,i≤l.length→(KR l i).length≤i∧ ∀b∈KR l i,b∈l
 |0,_=>⟨Nat.le_refl _,by simp [KR]⟩
 |i+1,hi=>by
  have h:=ZZ (l:=l) i (by omega)
  rw [KR]
  unfold KS
  cases eH (aR l i).aFu&&decide (SV (KR l i) (aR l i)<0) with
  |false=>exact⟨by rw [cond_false];omega,h.2⟩
  |true=>
   rw [cond_true]
   refine⟨by rw [List.length_append,List.length_singleton];omega,fun b hb=>?_⟩
   rcases List.mem_append.1 hb with h1|h1
   ·exact h.2 b h1
   ·rw [List.mem_singleton.1 h1];exact cA (by omega)
def H3(f:aD→aC×Int)(G:Z aD):aU:= .mk G (G.map fun g=>(f g).2) (G.map fun g=>(f g).1)
theorem ajK{σ β:Type}{F:Nat→σ→J (LR σ β)}{n:Nat}(St:Nat→σ)(hs: ∀i,i<n→F i (St i)=some (.next (St (i+1)))):loopN F (n-0) 0 (St 0)=some (.inr (St n)):=by
 have key: ∀k i,n-i=k→i≤n→loopN F k i (St i)=some (.inr (St n)):=by
  intro k
  induction k with
  |zero=>
   intro i hk hi
   obtain rfl:i=n:=by omega
   rw [loopN]
  |succ k ih=>
   intro i hk hi
   rw [loopN,hs i (by omega)]
   exact ih (i+1) (by omega) (by omega)
 exact key _ 0 rfl (Nat.zero_le _)
theorem amT(fu:Nat){l:Z aD}(hl:l.length≤68719476735)(ht: ∀b∈l,gO b.aFu):zG fu l=some l:=by
 unfold zG
 refine f7 (by omega) ?_
 rw [IF (l:=l) fun i hi hn=>?_]
 ·exact f7 rfl rfl
 ·unfold KI
  rw [ajN]
  exact f7 (ht _ (cA hi)) (f7 hn.symm rfl)
theorem abV{b:aD}(h:wt b≤100000):gO b.aFu∧wt b.aFu≤13000000:=by
 have h1:=aD.we b
 exact⟨gO.of (by rw [QQ];omega),by omega⟩
theorem amK{G:Z aD}{g:aD}(f:aD→aC×Int){X:J (aU×aC×Int)}(h1:eH g.aFu=true→SV G g<0→X=some (.mk (G++ [g]) (G.map (fun g=>(f g).2)++ [(f g).2]) (G.map (fun g=>(f g).1)++ [(f g).1]),(f g).1,(f g).2))(h2:(eH g.aFu&&decide (SV G g<0))=false→X=some (H3 f G,(f g).1,(f g).2)):X=some (H3 f (KS G g),(f g).1,(f g).2):=by
 unfold KS
 cases hq:eH g.aFu&&decide (SV G g<0) with
 |false=>exact h2 hq
 |true=>
  rw [Bool.and_eq_true,decide_eq_true_eq] at hq
  rw [h1 hq.1 hq.2,cond_true]
  unfold H3
  rw [List.map_append,List.map_append]
  rfl
section
variable {w:aH} (hw:wt w≤13000000) {G:Z aD} (hn:G.length≤1000) (hG: ∀b∈G,wt b≤100000)
include hw hn hG
theorem atA(b:Bool):XI (H3 (fun g=>jS b w (M3 w []) 12 g) G)∧asS (H3 (fun g=>jS b w (M3 w []) 12 g) G).aFC:=by
 have h1:(H3 (fun g=>jS b w (M3 w []) 12 g) G).aFC.length≤68719476735:=by
  show(List.map _ G).length≤_
  rw [List.length_map];omega
 have h2: ∀x∈(H3 (fun g=>jS b w (M3 w []) 12 g) G).aFC,CW x:=fun x hx=>by
  obtain⟨y,_,rfl⟩:=List.mem_map.1 hx
  exact HK hw _ _ _
 refine⟨⟨by show G.length≤_;omega,fun b hb=>(abV (hG b hb)).1,?_,h1,h2⟩,h1,h2⟩
 show(List.map _ G).length≤_
 rw [List.length_map];omega
theorem anF{g:aD}(hg:wt g≤100000)(fu:Nat):nF fu w (H3 (cK w []) G) g=some (H3 (cK w []) (KS G g),(cK w [] g).1,(cK w [] g).2):=by
 obtain⟨hC,hE⟩:=atA hw hn hG true
 have hT:=abV hg
 have hB: ∀ {b:Bool} {X x z:J (aU×aC×Int)},X=z→x=z→sw b X x=z:=fun {b X x z} h k=>by cases b<;>assumption
 refine amK (cK w []) (fun h1 h2=>?_) fun h=>?_
 ·unfold nF
  refine f7 hC ?_;refine hB ?_ ?_
  all_goals
   refine f7 ⟨hw,by simp,by simp⟩ (f7 hT.2 (f7 hT.1 (jL h1 (iP (XU fu _ g) (jL (decide_eq_true h2) (f7 ?_ (f7 ?_ (f7 (HK hw _ _ _) (f7 ?_ rfl)))))))))
   ·rw [List.length_singleton];show G.length+1≤_;omega
   all_goals rw [List.length_singleton];show(List.map _ G).length+1≤_;rw [List.length_map];omega
 ·unfold nF
  refine f7 hC ?_;refine hB ?_ ?_
  all_goals
   refine f7 ⟨hw,by simp,by simp⟩ (f7 hT.2 (f7 hT.1 ?_))
   cases hq:eH g.aFu with
   |false=>exact iK rfl rfl
   |true=>
    rw [hq,Bool.true_and] at h
    exact jL rfl (iP (XU fu _ g) (iK h rfl))
end
theorem avK(fu:Nat)(d:DS):Pt (wD fu d) fun r=> ∀b∈r.1,NI b.aFu:=by
 unfold wD
 refine gR fun _ _=>uD (E:=fun q:Z aD×DS=> ∀b∈q.1,NI b.aFu) (D9 (fun _ (q:Z aD×DS)=> ∀b∈q.1,NI b.aFu) (fun _ h=>h) (fun i ⟨l,c⟩ hi h=>?_) _ 0 _ rfl (Nat.zero_le _) (by simp)) fun⟨_,_⟩ h=>bF h
 have hs: ∀ {x:aD},NI x.aFu→ ∀b∈l++ [x],NI b.aFu:=fun hx b hb=>by
  rcases List.mem_append.1 hb with h1|h1
  ·exact h b h1
  ·rw [List.mem_singleton.1 h1];exact hx
 unfold I5
 refine cL (fun _=>gR fun _ _=>cL (fun _=>gR fun _ _=>awV fun hk=>uC (bF (hs (h _ (cA hk))))) fun _=>fX (am8 fu _) fun⟨_,_⟩ hx=>uC (bF (hs hx))) fun _=>fX (am8 fu _) fun⟨_,_⟩ hx=>uC (bF (hs hx))
structure awT (m:aU):Prop where
 g:m.aFA.length≤7
 gw: ∀b∈m.aFA,wt b≤100000∧NI b.aFu
 c:m.aFI.length≤7
 e:m.aFC.length≤7
 ev: ∀x∈m.aFC,CW x
theorem avG{fu:Nat}{w:aH}(hw:wt w≤13000000)(kG:J2 fu)(d:DS): ∃m d',DZ fu d w=some (m,d')∧awT m:=by
 obtain⟨⟨l,d1⟩,hg,hl⟩:=kG d
 replace hl:ae7 l:=hl
 have hN: ∀b∈l,NI b.aFu:=avK fu d _ hg
 have hl6:=hl.1
 have h:=ajK (F:=LF fu d w l d1) (n:=l.length) (fun i=>(KR l i,(KR l i).map (fun g=>(cK w [] g).2),(KR l i).map (fun g=>(cK w [] g).1))) fun i hi=>by
  obtain⟨k1,k2⟩:=ZZ (l:=l) i (by omega)
  unfold LF
  exact iP (anF hw (G:=KR l i) (by omega) (fun b hb=>hl.2 b (k2 b hb)) (hl.2 _ (cA hi)) fu) rfl
 obtain⟨k1,k2⟩:=ZZ (l:=l) l.length (Nat.le_refl _)
 generalize KR l l.length=G at h k1 k2
 have hG: ∀b∈G,wt b≤100000∧NI b.aFu:=fun b hb=>⟨hl.2 b (k2 b hb),hN b (k2 b hb)⟩
 have hC:(G.map fun g=>(cK w [] g).2).length=G.length:=List.length_map _
 have hE:(G.map fun g=>(cK w [] g).1).length=G.length:=List.length_map _
 have hev: ∀x∈G.map (fun g=>(cK w [] g).1),CW x:=fun x hx=>by
  obtain⟨y,_,rfl⟩:=List.mem_map.1 hx
  exact HK hw _ _ _
 generalize G.map (fun g=>(cK w [] g).2)=X at h hC
 generalize G.map (fun g=>(cK w [] g).1)=E at h hE hev
 have h0: ∀ {r:aU×DS},sw (decide ((((G.length:Nat):Int):Int)>0)) _ _=some r→DZ fu d w=some r:=fun {r} hr=>by
  unfold DZ V6
  exact iP hg (soR h hr)
 by_cases hp:(((G.length:Nat):Int):Int)>0
 ·have hz:0<X.length∧X.length≤1000:=⟨by omega,by omega⟩
  by_cases q0:(((d1.below 8:Nat):Int):Int)=0
  ·refine⟨_,_,h0 (jL (decide_eq_true hp) (SW rfl (f7 hz (jL (decide_eq_true q0) (SW rfl rfl))))),⟨by show G.length≤7;omega,hG,?_,by show E.length≤7;omega,hev⟩⟩
   have: ∀(a:Z Int) (x:Int),(anK a x).length=a.length:=fun a x=>by cases a<;>rfl
   show(anK X _).length≤7
   rw [this];omega
  ·by_cases q1:(((d1.below 8:Nat):Int):Int)=1
   ·refine⟨_,_,h0 (jL (decide_eq_true hp) (SW rfl (f7 hz (iK (decide_eq_false q0) (jL (decide_eq_true q1) (f7 (by omega) (f7 (by rw [List.length_singleton];omega) (f7 (by rw [List.length_singleton];omega) (f7 (by omega) (f7 (by rw [List.length_singleton];omega) rfl)))))))))),⟨?_,fun b hb=>?_,?_,?_,fun x hx=>?_⟩⟩
    ·show(G++ [_]).length≤7;rw [List.length_append,List.length_singleton];omega
    ·rcases List.mem_append.1 hb with h1|h1
     ·exact hG b h1
     ·rw [List.mem_singleton.1 h1];exact hG _ (cA (by omega))
    ·show(X++ [_]).length≤7;rw [List.length_append,List.length_singleton];omega
    ·show(E++ [_]).length≤7;rw [List.length_append,List.length_singleton];omega
    ·rcases List.mem_append.1 hx with h1|h1
     ·exact hev x h1
     ·rw [List.mem_singleton.1 h1];exact hev _ (cA (by omega))
   ·by_cases q2:(((d1.below 8:Nat):Int):Int)=2
    ·refine⟨_,_,h0 (jL (decide_eq_true hp) (SW rfl (f7 hz (iK (decide_eq_false q0) (iK (decide_eq_false q1) (jL (decide_eq_true q2) (f7 ⟨by omega,by omega,by omega⟩ rfl))))))),⟨by show G.length≤7;omega,hG,by show X.length≤7;omega,?_,fun x hx=>hev x (List.mem_of_mem_take (List.mem_of_mem_drop hx))⟩⟩
     show(List.drop _ (List.take _ E)).length≤7
     rw [List.length_drop,List.length_take];omega
    ·exact⟨_,_,h0 (jL (decide_eq_true hp) (SW rfl (f7 hz (iK (decide_eq_false q0) (iK (decide_eq_false q1) (iK (decide_eq_false q2) rfl)))))),⟨by show G.length≤7;omega,hG,by show X.length≤7;omega,by show E.length≤7;omega,hev⟩⟩
 ·exact⟨_,_,h0 (iK (decide_eq_false hp) rfl),⟨by show G.length≤7;omega,hG,by show X.length≤7;omega,by show E.length≤7;omega,hev⟩⟩
theorem au6{fu:Nat}(kW:VK fu)(kG:J2 fu)(kB:YH fu)(code:Z UInt8)(hb:code.length≤1048576): ∃w m g,rF fu code=some (w,m,g)∧wt w≤13000000∧WOk w∧awT m∧wt g≤100000∧NI g.aFu:=by
 obtain⟨⟨w,d⟩,hr,hw⟩:=kW (DS.start code)
 replace hw:wt w≤13000000:=hw
 obtain⟨m,d1,hm,hk⟩:=avG hw kG d
 have hB: ∀d2,∃g d3,o8 fu d2=some (g,d3)∧wt g≤100000∧NI g.aFu:=fun d2=>by
  obtain⟨⟨g,d3⟩,hg,hg2⟩:=kB d2
  exact⟨g,d3,hg,hg2,am8 fu _ _ hg⟩
 have hO:WOk w:=avO fu _ _ hr
 unfold rF
 by_cases hp:(((m.aFA.length:Nat):Int):Int)>0
 ·by_cases hq:d1.below 2=0
  ·have hlt:=DS.below_lt (d1.after 2) (n:=m.aFA.length) (by omega)
   have:=hk.gw _ (cA hlt)
   exact⟨w,m,_,f7 hb (iP hr (iP hm (jL (decide_eq_true hp) (SW rfl (jL (decide_eq_true hq) (SW rfl (f7 hlt rfl))))))),hw,hO,hk,this.1,this.2⟩
  ·obtain⟨g,d3,hg,h1,h2⟩:=hB (d1.after 2)
   exact⟨w,m,g,f7 hb (iP hr (iP hm (jL (decide_eq_true hp) (SW rfl (iK (decide_eq_false hq) (iP hg rfl)))))),hw,hO,hk,h1,h2⟩
 ·obtain⟨g,d3,hg,h1,h2⟩:=hB d1
  exact⟨w,m,g,f7 hb (iP hr (iP hm (iK (decide_eq_false hp) (iP hg rfl)))),hw,hO,hk,h1,h2⟩
def mS(f:aD→aC×Int)(m:aU)(g:aD):aU:=bif eH g.aFu&&decide (SV m.aFA g<0) then .mk (m.aFA++ [g]) (m.aFI++ [(f g).2]) (m.aFC++ [(f g).1]) else .mk m.aFA m.aFI m.aFC
section
variable {w:aH} (hw:wt w≤13000000) {m:aU} (hm:awT m)
include hw hm
theorem amW(fu:Nat){g:aD}(hg:wt g≤100000):wQ fu w m g=some (mS (iX w []) m g,(iX w [] g).1,(iX w [] g).2):=by
 have hT:=abV hg
 have h1:=hm.g
 have h2:=hm.c
 have h3:=hm.e
 unfold wQ mS
 refine iP (amT fu (l:=m.aFA) (by omega) fun b hb=>(abV (hm.gw b hb).1).1) (f7 (by omega) (f7 ⟨by omega,hm.ev⟩ (f7 ⟨hw,by simp,by simp⟩ (f7 hT.2 (f7 hT.1 ?_)))))
 cases hq:eH g.aFu with
 |false=>exact iK rfl rfl
 |true=>
  rw [Bool.true_and]
  refine jL rfl (iP (afS fu _ g) ?_)
  show sw (decide (SV m.aFA g<0)) _ _=_
  cases decide (SV m.aFA g<0) with
  |false=>exact iK rfl rfl
  |true=>exact jL rfl (f7 (by rw [List.length_singleton];omega) (f7 (by rw [List.length_singleton];omega) (f7 (HK hw _ _ _) (f7 (by rw [List.length_singleton];omega) rfl))))
end
def vk(f:aD→aC×Int)(m:aU)(i:Nat):Bool:=decide (SV m.aFA (aR m.aFA i)=(i:Int))&&(eH (aR m.aFA i).aFu&&(decide ((f (aR m.aFA i)).2=aR m.aFI i)&&xH (f (aR m.aFA i)).1 (aR m.aFC i)))
def VC(f:aD→aC×Int)(m:aU):Bool:=decide (m.aFI.length=m.aFA.length)&&(decide (m.aFC.length=m.aFA.length)&&(List.range m.aFA.length).all (vk f m))
theorem apT{m:aU}{f:aD→aC×Int}{F:Nat→Unit→J (LR Unit Bool)}(hs:m.aFI.length=m.aFA.length→m.aFC.length=m.aFA.length→ ∀i,i<m.aFA.length→F i ()=some (if vk f m i then .next () else .ret false)):sw (!decide ((((m.aFI.length:Nat):Int):Int)=((m.aFA.length:Nat):Int))) (some false) (sw (!decide ((((m.aFC.length:Nat):Int):Int)=((m.aFA.length:Nat):Int))) (some false) (so (loopN F (m.aFA.length-0) 0 ()) fun _=>some true))=some (VC f m):=by
 unfold VC
 by_cases h1:m.aFI.length=m.aFA.length
 ·by_cases h2:m.aFC.length=m.aFA.length
  ·refine iK (by rw [decide_eq_true (by omega)];rfl) (iK (by rw [decide_eq_true (by omega)];rfl) ?_)
   have:=EI (l:=List.range m.aFA.length) (f:=F) (p:=vk f m) (r:=false) (s:=()) fun i hi=>by
    have hi':i<m.aFA.length:=by simpa using hi
    rw [LT hi',hs h1 h2 i hi']
    cases vk f m i<;>rfl
   rw [List.length_range] at this
   rw [this,decide_eq_true h1,decide_eq_true h2]
   cases(List.range m.aFA.length).all (vk f m)<;>rfl
  ·rw [decide_eq_false h2,Bool.false_and,Bool.and_false]
   exact iK (by rw [decide_eq_true (by omega)];rfl) (jL (by rw [decide_eq_false (by omega)];rfl) rfl)
 ·rw [decide_eq_false h1,Bool.false_and]
  exact jL (by rw [decide_eq_false (by omega)];rfl) rfl
section
variable {w:aH} (hw:wt w≤13000000) {m:aU} (hg: ∀b∈m.aFA,wt b≤100000)
include hw hg
theorem arP(fu:Nat):uU fu w m=some (VC (cK w []) m):=by
 unfold uU
 refine apT fun h1 h2 i hi=>?_
 have hT:=abV (hg _ (cA hi))
 unfold G0 vk
 refine f7 ⟨hw,by simp,by simp⟩ (f7 hT.2 (iP (XU fu m _) ?_))
 cases decide (SV m.aFA (aR m.aFA i)=(i:Int)) with
 |false=>exact jL rfl rfl
 |true=>
  refine iK rfl (f7 hT.1 ?_)
  cases eH (aR m.aFA i).aFu with
  |false=>exact jL rfl rfl
  |true=>
   refine iK rfl (f7 (by omega) ?_)
   cases decide ((cK w [] (aR m.aFA i)).2=aR m.aFI i) with
   |false=>exact jL rfl rfl
   |true=>
    refine iK rfl (f7 (by omega) ?_)
    cases xH (cK w [] (aR m.aFA i)).1 (aR m.aFC i) with
    |false=>exact jL rfl rfl
    |true=>exact iK rfl rfl
theorem aq1(fu:Nat):uR fu w m=some (VC (iX w []) m):=by
 unfold uR
 refine apT fun h1 h2 i hi=>?_
 have hT:=abV (hg _ (cA hi))
 unfold GK vk
 refine iP (afS fu m _) ?_
 cases decide (SV m.aFA (aR m.aFA i)=(i:Int)) with
 |false=>exact jL rfl rfl
 |true=>
  refine iK rfl (f7 hT.1 ?_)
  cases eH (aR m.aFA i).aFu with
  |false=>exact jL rfl rfl
  |true=>
   refine iK rfl (f7 ⟨hw,by simp,by simp⟩ (f7 hT.2 (f7 (by omega) ?_)))
   cases decide ((iX w [] (aR m.aFA i)).2=aR m.aFI i) with
   |false=>exact jL rfl rfl
   |true=>
    refine iK rfl (f7 (by omega) ?_)
    cases xH (iX w [] (aR m.aFA i)).1 (aR m.aFC i) with
    |false=>exact jL rfl rfl
    |true=>exact iK rfl rfl
end
theorem av6{f f':aD→aC×Int}{m:aU}(h: ∀b∈m.aFA,f b=f' b):VC f m=VC f' m:=by
 have: ∀i∈List.range m.aFA.length,vk f m i=vk f' m i:=fun i hi=>by
  unfold vk
  rw [h _ (cA (List.mem_range.1 hi))]
 unfold VC
 congr 2
 rw [Bool.eq_iff_iff,List.all_eq_true,List.all_eq_true]
 exact⟨fun hx i hi=>this i hi ▸ hx i hi,fun hx i hi=>(this i hi).symm ▸ hx i hi⟩
theorem au5{G:Z aD}{x:aD}{r:Z aD}(h:0≤SV G x):SV (G++r) x=SV G x:=by
 unfold SV at h ⊢
 rw [List.findIdx?_append]
 cases hq:G.findIdx? fun b=>aD.eq b x with
 |none=>rw [hq] at h;exact absurd h (by decide)
 |some i=>rfl
theorem apA{G:Z aD}{g:aD}(h:SV G g<0):SV (G++ [g]) g=(G.length:Int):=by
 unfold SV at h ⊢
 rw [List.findIdx?_append]
 cases hq:G.findIdx? fun b=>aD.eq b g with
 |some i=>rw [hq] at h;exact absurd h (by show ¬((i:Nat):Int)<0;omega)
 |none=>
  have:([g]:Z aD).findIdx? (fun b=>aD.eq b g)=some 0:=by
   rw [List.findIdx?_cons,aD.eq_self]
   rfl
  rw [this]
  show(((0+G.length:Nat)):Int)=_
  omega
theorem YS{α:Type}[Inhabited α]{l r:Z α}{i:Nat}(h:i<l.length):aR (l++r) i=aR l i:=by
 unfold aR
 rw [List.getElem?_append_left h]
theorem YR{α:Type}[Inhabited α]{l:Z α}{x:α}{i:Nat}(h:l.length=i):aR (l++ [x]) i=x:=by
 unfold aR
 rw [List.getElem?_append_right (by omega),show i-l.length=0 by omega]
 rfl
theorem av5{f:aD→aC×Int}{m:aU}{g:aD}(h:VC f m=true):VC f (mS f m g)=true:=by
 unfold mS
 cases hq:eH g.aFu&&decide (SV m.aFA g<0) with
 |false=>cases m;exact h
 |true=>
  rw [Bool.and_eq_true,decide_eq_true_eq] at hq
  unfold VC at h ⊢
  rw [Bool.and_eq_true,Bool.and_eq_true,decide_eq_true_eq,decide_eq_true_eq,List.all_eq_true] at h
  obtain⟨h1,h2,h3⟩:=h
  rw [cond_true,Bool.and_eq_true,Bool.and_eq_true,decide_eq_true_eq,decide_eq_true_eq,List.all_eq_true]
  refine⟨?_,?_,fun i hi=>?_⟩
  ·show(m.aFI++ [_]).length=(m.aFA++ [g]).length
   rw [List.length_append,List.length_append,h1];rfl
  ·show(m.aFC++ [_]).length=(m.aFA++ [g]).length
   rw [List.length_append,List.length_append,h2];rfl
  ·have hi':i<(m.aFA++ [g]).length:=List.mem_range.1 hi
   rw [List.length_append,List.length_singleton] at hi'
   unfold vk
   show(decide (SV (m.aFA++ [g]) (aR (m.aFA++ [g]) i)=(i:Int))&&(eH (aR (m.aFA++ [g]) i).aFu&&(decide ((f (aR (m.aFA++ [g]) i)).2=aR (m.aFI++ [(f g).2]) i)&&xH (f (aR (m.aFA++ [g]) i)).1 (aR (m.aFC++ [(f g).1]) i))))=true
   by_cases hl:i<m.aFA.length
   ·have h4:=h3 i (List.mem_range.2 hl)
    unfold vk at h4
    rw [Bool.and_eq_true,decide_eq_true_eq] at h4
    rw [YS hl,YS (by omega),YS (by omega),au5 (by rw [h4.1];omega),decide_eq_true h4.1,h4.2]
    rfl
   ·have hi2:m.aFA.length=i:=by omega
    rw [YR hi2,YR (by omega),YR (by omega),apA hq.2,hq.1,adU,hi2]
    simp
theorem atP(f:aD→aC×Int)(m:aU)(g:aD):m.aFA.length≤(mS f m g).aFA.length∧(eH g.aFu=true→0≤SV (mS f m g).aFA g)∧ ∀b∈(mS f m g).aFA,b∈m.aFA∨b=g:=by
 unfold mS
 cases hq:eH g.aFu&&decide (SV m.aFA g<0) with
 |false=>
  refine⟨Nat.le_refl _,fun hg=>?_,fun b hb=> .inl hb⟩
  rw [hg,Bool.true_and,decide_eq_false_iff_not] at hq
  show 0≤SV m.aFA g
  omega
 |true=>
  rw [Bool.and_eq_true,decide_eq_true_eq] at hq
  refine⟨?_,fun _=>?_,fun b hb=>?_⟩
  ·show _≤(m.aFA++ [g]).length
   rw [List.length_append];omega
  ·show 0≤SV (m.aFA++ [g]) g
   rw [apA hq.2];omega
  ·rcases List.mem_append.1 hb with h|h
   ·exact .inl h
   ·exact .inr (List.mem_singleton.1 h)
theorem am1(code:Z UInt8): ∃fu,KP fu code=some true:=by
 obtain⟨fu,⟨⟨hfu,kW⟩,kG⟩,kB⟩:=((((bP 2147483648).and ajD).and ajE).and ZU).get
 refine⟨fu,?_⟩
 unfold KP am0
 by_cases hb:code.length≤1048576
 ·refine iK (decide_eq_false (by omega)) ?_
  obtain⟨w,m,g,hd,hw,hO,hm,hg,hn⟩:=au6 kW kG kB code hb
  have hT:=abV hg
  have hW:=auQ hO
  have he: ∀ {b:aD},NI b.aFu→cK w [] b=iX w [] b:=fun h=>ax0 hW [] h
  obtain⟨k1,k2,k3⟩:=atP (iX w []) m g
  have hx: ∀b∈(mS (iX w []) m g).aFA,wt b≤100000:=fun b hb=>by
   rcases k3 b hb with h|h
   ·exact(hm.gw b h).1
   ·rw [h];exact hg
  have hv:VC (cK w []) m=VC (iX w []) m:=av6 fun b hb=>he (hm.gw b hb).2
  refine iP hd (iP (amW hw hm fu hg) (f7 ⟨hw,by simp,by simp⟩ (f7 hT.2 ?_)))
  rw [he hn]
  refine iK (by simp) (iK (by rw [adU];rfl) (iP (arP hw (fun b hb=>(hm.gw b hb).1) fu) ?_))
  have hlen:decide ((((mS (iX w []) m g).aFA.length:Nat):Int)≥((m.aFA.length:Nat):Int))=true:=decide_eq_true (by omega)
  have fin:bd (mR fu (mS (iX w []) m g) g) (fun x23=>bd (lQ fu (mS (iX w []) m g) g) (fun x25=>sw (decide ((x23:Int)=x25)) (gd (gO g.aFu) (sw (!(eH g.aFu)) (some (decide (((((mS (iX w []) m g).aFA.length:Nat):Int):Int)≥((m.aFA.length:Nat):Int)))) (sw (decide ((x23:Int)≥0)) (some (decide (((((mS (iX w []) m g).aFA.length:Nat):Int):Int)≥((m.aFA.length:Nat):Int)))) (some false)))) (some false)))=some true:=by
   refine iP (afS fu _ g) (iP (XU fu _ g) (jL (decide_eq_true rfl) (f7 hT.1 ?_)))
   cases hq:eH g.aFu with
   |false=>exact jL rfl (congrArg some hlen)
   |true=>exact iK rfl (jL (decide_eq_true (k2 hq)) (congrArg some hlen))
  rw [hv]
  cases hc:VC (iX w []) m with
  |false=>exact iK rfl fin
  |true=>exact jL rfl (iP (aq1 hw hx fu) (iK (by rw [av5 hc];rfl) fin))
 ·exact jL (decide_eq_true (by omega)) rfl
theorem arE(code:Z UInt8):bU Tryz.prog 6 [rU code] (pB true):=let⟨fu,h⟩:=am1 code;af2 fu code true h
end Go.Proofs.YtfcoaagbccmahaaGreat.W
