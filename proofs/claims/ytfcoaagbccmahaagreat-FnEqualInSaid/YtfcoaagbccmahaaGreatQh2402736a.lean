/- Words, rules and walks of several kinds, laid together. No conditions but those that each theorem states. -/
import Derived.Test.YtfcoaagbccmahaaGreatQhf3442c08
set_option linter.unusedSimpArgs false
set_option linter.unusedVariables false
namespace Go.Proofs.YtfcoaagbccmahaaGreat.W
set_option maxRecDepth 100000
set_option maxHeartbeats 40000000
noncomputable section
open Tryz Go.RowKit Go.Proofs
attribute [local irreducible] lt
abbrev CX:=aA→Option Int
def CW(m:CX):Prop:= ∀(pt:aA) (r:Int),m pt=some r→bR Tryz.prog 109 [(aA.pv pt)] (pI r:PV)
def O3(fu:Nat)(p3:CX)(pt:aA):Nat→Int→Option (LR Int Int):=fun i1 v2=>bd (p3 (aT pt.aB4 i1)) fun x6=>some (.next (aX (v2+x6)))
def IR(fu:Nat)(p3:CX)(pt:aA):Option Int:=so (loopN (O3 fu p3 pt) (pt.aB4.length-0) 0 1) fun v2=>some v2
theorem WX(fu:Nat)(p3:CX)(pD:CW p3):CW (IR fu p3):=by
 intro pt r H
 refine qJ func109 H (fun C hC H=>?_)
 refine gQ 2 ?_;refine q1 (eX (bM pt)) ?_;refine gQ 11 ?_;refine cQ.fact (cI 0 2 rfl rfl rfl (aA.trs_len _)) (fun hl3=>?_)
 try dsimp only at hl3
 refine bU (σ:=Int) (fun i1 v2=>⟨[(1,.ptr 0 0),(2,pI 0),(3,pI v2),(4,pN i1)],⟨[some ⟨30,bM pt⟩],[]⟩⟩) (fun v2=>⟨[(2,pI 0),(3,pI v2)],⟨[some ⟨30,bM pt⟩],[]⟩⟩) (eK H) ?_ ?_
 ·rintro i1 v2 H
  refine gQ 9 ?_;refine cS H (fun h4 h4l H=>?_) (fun h4 H=>?_)
  ·refine gQ 9 ?_;refine q1 (iI (aA.cs (aT pt.aB4 i1))) (bK H fun x6 z5 H=>(q1 (bE func109 (pD (aT pt.aB4 i1) _ z5)) ?_))
   exact gE 8
  exact gE 0
 rintro v2 H
 exact gE 5
def lI:Nat→aA→Option Int
 |0,_=>none
 |fu+1,pt=>IR fu (lI fu) pt
theorem Y8(fu:Nat):CW (lI fu):=by
 induction fu with
 |zero=>exact(fun pt r H=>by simp only [lI] at H;cases H)
 |succ fu ih=>exact(fun pt r H=>by simp only [lI] at H;exact WX fu (lI fu) ih pt r H)
theorem O4(fu:Nat):CW (lI fu):=(Y8 fu)
abbrev CM:=aA→Option Int
def CL(m:CM):Prop:= ∀(pt:aA) (r:Int),m pt=some r→bR Tryz.prog 105 [(aA.pv pt)] (pI r:PV)
def OF(fu:Nat)(p4:CM)(pt:aA):Nat→Int→Option (LR Int Int):=fun i1 v2=>bd (p4 (aT pt.aB4 i1)) fun x6=>some (.next (aX (v2+x6)))
def H9(fu:Nat)(p4:CM)(pt:aA):Option Int:=so (loopN (OF fu p4 pt) (pt.aB4.length-0) 0 1) fun v2=>some v2
theorem VM(fu:Nat)(p4:CM)(pE:CL p4):CL (H9 fu p4):=by
 intro pt r H
 refine qJ func105 H (fun C hC H=>?_)
 refine gQ 2 ?_;refine q1 (eX (bM pt)) ?_;refine gQ 14 ?_;refine gL 7 (aA.trs_len _) (fun hl3=>?_)
 try dsimp only at hl3
 refine bU (σ:=Int) (fun i1 v2=>⟨[(2,pI 0),(3,pI v2),(7,aR pt.aB4),(8,pN pt.aB4.length),(9,pN i1)],⟨[some ⟨30,bM pt⟩],[]⟩⟩) (fun v2=>⟨[(2,pI 0),(3,pI v2)],⟨[some ⟨30,bM pt⟩],[]⟩⟩) (eK H) ?_ ?_
 ·rintro i1 v2 H
  refine gQ 5 ?_;refine cS H (fun h4 h4l H=>?_) (fun h4 H=>?_)
  ·refine gQ 6 ?_;refine q1 (iI (aA.cs (aT pt.aB4 i1))) ?_;refine gQ 5 ?_;refine q1 (bW [pI ((aT pt.aB4 i1).aB5),pS ((aT pt.aB4 i1).aB3),aR ((aT pt.aB4 i1).aB4)]) (bK H fun x6 z5 H=>(q1 (bE func105 (pE (aT pt.aB4 i1) _ z5)) ?_))
   exact gE 7
  exact gE 0
 rintro v2 H
 exact gE 5
def lH:Nat→aA→Option Int
 |0,_=>none
 |fu+1,pt=>H9 fu (lH fu) pt
theorem YH(fu:Nat):CL (lH fu):=by
 induction fu with
 |zero=>exact(fun pt r H=>by simp only [lH] at H;cases H)
 |succ fu ih=>exact(fun pt r H=>by simp only [lH] at H;exact VM fu (lH fu) ih pt r H)
theorem OG(fu:Nat):CL (lH fu):=(YH fu)
abbrev oH:=aE→(List aJ)→aG→(List aA)→Option Int
def GM(m:oH):Prop:= ∀(p9:aE) (p5:List aJ) (p0:aG) (a3:List aA) (r:Int),m p9 p5 p0 a3=some r→bR Tryz.prog 52 [(aE.pv p9),bO p5,(aG.pv p0),aR a3] (pI r:PV)
def I1(fu:Nat)(p1:oH)(p9:aE)(p5:List aJ)(p0:aG)(a3:List aA):Option (Int⊕Unit):=sw (decide (p0.aB7.aB5=2)) (bd (AW fu p0.aB7.aB3) fun x3=>sw x3 (some (.inl 0)) (bd (kX fu p5 p0) fun x6=>sw (decide (x6≥0)) (some (.inl 0)) (some (.inr ())))) (bd (kX fu p5 p0) fun x9=>sw (decide (x9≥0)) (some (.inl 0)) (some (.inr ())))
def I2(fu:Nat)(p1:oH)(p9:aE)(p5:List aJ)(p0:aG)(a3:List aA):Nat→Unit→Option (LR Unit Int):=fun i11 _=>sw (aA.eq (aT a3 i11) p0.aB7) (some (.ret 0)) (some (.next ()))
def S2(fu:Nat)(p1:oH)(p9:aE)(p5:List aJ)(p0:aG)(a3:List aA)(x16:aN)(x17:Int)(x18:Bool)(x24:Int):Nat→((List aK))→Option (LR ((List aK)) Int):=fun i26 v28=>gd (i26<(p0.aB7.aB4).length) (gd ((v28).length+(([(aK.mk (aT x16.aCg i26) (aT p0.aB7.aB4 i26))]:List aK)).length≤68719476736) (some (.next (v28++([(aK.mk (aT x16.aCg i26) (aT p0.aB7.aB4 i26))]:List aK)))))
def S4(fu:Nat)(p1:oH)(p9:aE)(p5:List aJ)(p0:aG)(a3:List aA)(x16:aN)(x17:Int)(x18:Bool)(x24:Int)(v28:List aK)(i35:Nat):Nat→Unit→Option (LR Unit (LR Unit Int)):=fun i38 _=>gd (qG v28) (gd (iC (aT ((aT x16.aB8 i35).aCm) i38)) (bd (p1 p9 p5 (aG.mk p0.aCa (jU v28 (aT ((aT x16.aB8 i35).aCm) i38))) ((([])++a3)++([p0.aB7]:List aA))) fun x44=>sw (!decide (x44=0)) (some (.ret (.ret x44))) (some (.next ()))))
def S3(fu:Nat)(p1:oH)(p9:aE)(p5:List aJ)(p0:aG)(a3:List aA)(x16:aN)(x17:Int)(x18:Bool)(x24:Int)(v28:List aK):Nat→Unit→Option (LR Unit Int):=fun i35 _=>so (loopN (S4 fu p1 p9 p5 p0 a3 x16 x17 x18 x24 v28 i35) (((aT x16.aB8 i35).aCm).length-0) 0 ()) fun _=>some (.next ())
def GL(fu:Nat)(p1:oH)(p9:aE)(p5:List aJ)(p0:aG)(a3:List aA):Option Int:=so (I1 fu p1 p9 p5 p0 a3) fun _=>so (loopN (I2 fu p1 p9 p5 p0 a3) (a3.length-0) 0 ()) fun _=>bd (AA fu p9 p0.aB7.aB3) fun(x16,x17,x18)=>sw (!decide (p0.aB7.aB5=2)) (some 1) (sw (!(x18)) (some 1) (sw (!decide ((x16.aCg.length:Int)=(p0.aB7.aB4.length:Int))) (some 1) (sw (decide ((a3.length:Int)>30)) (some 3) (bd (lI fu p0.aB7) fun x24=>sw (decide (x24>400)) (some 3) (so (loopN (S2 fu p1 p9 p5 p0 a3 x16 x17 x18 x24) (x16.aCg.length-0) 0 ([])) fun v28=>gd (([]:List aA).length+(a3).length≤68719476736) (gd ((([])++a3).length+(([p0.aB7]:List aA)).length≤68719476736) (so (loopN (S3 fu p1 p9 p5 p0 a3 x16 x17 x18 x24 v28) (x16.aB8.length-0) 0 ()) fun _=>some 0)))))))
theorem ZN(fu:Nat)(p1:oH)(pG:GM p1):GM (GL fu p1):=by
 intro p9 p5 p0 a3 r H
 refine qJ func52 H (fun C hC H=>?_)
 refine gQ 2 ?_;refine q1 (eX ([aO p9.aB2])) (q1 (eX (dL p0)) ?_)
 refine gQ 3 ?_;refine nV (σ:=Unit) (fun _=>⟨[(1,bO p5),(3,aR a3),(4,.ptr 0 0),(6,.ptr 1 0),(8,pI 0)],⟨[some ⟨26,[aO p9.aB2]⟩,some ⟨32,dL p0⟩],[]⟩⟩) (eK H) (fun H=>?_) ?_
 ·refine gQ 7 ?_;refine dH 23 H (fun g1 H=>?_) fun g1 H=>?_
  ·refine gQ 3 ?_;refine bK H fun x3 z2 H=>(qg g1 (bE func108 (M7 fu p0.aB7.aB3 _ z2)) ?_)
   refine gQ 2 ?_;refine dH 29 H (fun g4 H=>gE 11) fun g4 H=>?_;refine qg g4 bF (qg g4 (bW [pS p0.aCa,pI p0.aB7.aB5,pS p0.aB7.aB3,aR p0.aB7.aB4]) (bK H fun x6 z5 H=>(qg g4 (bE func14 (tW fu p5 p0 _ z5)) ?_)))
   refine gQ 3 ?_;refine bC H (fun h7 H=>gE 4) fun h7 H=>?_;exact gE 1
  refine gQ 7 ?_;refine qg rfl (bW [pS p0.aCa,pI p0.aB7.aB5,pS p0.aB7.aB3,aR p0.aB7.aB4]) (bK H fun x9 z8 H=>(qg rfl (bE func14 (tW fu p5 p0 _ z8)) ?_))
  refine gQ 3 ?_;refine bC H (fun h10 H=>gE 4) fun h10 H=>?_;exact gE 1
 rintro⟨⟩ H
 refine gQ 5 ?_;refine gL 3 (aA.trs_len _) (fun hl12=>?_)
 try dsimp only at hl12
 refine bU (σ:=Unit) (fun i11 _=>⟨[(1,bO p5),(3,aR a3),(4,.ptr 0 0),(6,.ptr 1 0),(8,pI 0),(9,pN i11)],⟨[some ⟨26,[aO p9.aB2]⟩,some ⟨32,dL p0⟩],[]⟩⟩) (fun _=>⟨[(1,bO p5),(3,aR a3),(4,.ptr 0 0),(6,.ptr 1 0),(8,pI 0)],⟨[some ⟨26,[aO p9.aB2]⟩,some ⟨32,dL p0⟩],[]⟩⟩) (eK H) ?_ ?_
 ·rintro i11 ⟨⟩ H
  refine gQ 8 ?_;refine cS H (fun h13 h13l H=>?_) (fun h13 H=>?_)
  ·refine gQ 4 ?_;refine dW (dI [3] bF (dI [9] bF (dI [41,42] qF (dI [43] (iI (aA.cs (aT a3 i11))) (dI [6] bZ (dD [45] (bW [pI p0.aB7.aB5,pS p0.aB7.aB3,aR p0.aB7.aB4]) (dI [44,46] (bE func38 (xA (aT a3 i11) p0.aB7)) (dN ?_))))))))
   refine bC H (fun h14 H=>gE 4) fun h14 H=>?_;exact gE 6
  exact gE 0
 rintro⟨⟩ H
 refine gQ 2 ?_;refine q1 (bW [aO p9.aB2]) ?_;refine gQ 3 ?_;refine NR H fun x16 x17 x18 z15 H=>(q1 (bE func53 (ZH fu p9 p0.aB7.aB3 _ z15)) ?_)
 refine gQ 17 ?_;refine dH 61 H (fun g19 H=>gE 19) fun g19 H=>?_;refine gQ 4 ?_;refine dH 65 H (fun g20 H=>gE 15) fun g20 H=>?_;refine gQ 10 ?_;refine bC H (fun h21 H=>gE 4) fun h21 H=>?_;refine gQ 8 ?_;refine dH 78 H (fun g22 H=>gE 11) fun g22 H=>?_;refine qg g22 bZ (qg g22 (bW [pI p0.aB7.aB5,pS p0.aB7.aB3,aR p0.aB7.aB4]) (bK H fun x24 z23 H=>(qg g22 (bE func109 (O4 fu p0.aB7 _ z23)) ?_)))
 refine gQ 3 ?_;refine bC H (fun h25 H=>gE 4) fun h25 H=>?_;refine gQ 3 ?_;refine q1 (qE ([]:List aK)) ?_;refine gQ 7 ?_;refine gL 67 (bV _) (fun hl29=>?_)
 try dsimp only at hl29
 refine bU (σ:=(List aK)) (fun i26 v28=>⟨[(1,bO p5),(3,aR a3),(4,.ptr 0 0),(6,.ptr 1 0),(8,pI 0),(10,.ptr 2 0),(13,lS v28 0),(14,pN i26)],⟨[some ⟨26,[aO p9.aB2]⟩,some ⟨32,dL p0⟩,some ⟨39,jF x16⟩],[⟨44,4,aK.trs (v28),false⟩]⟩⟩) (fun v28=>⟨[(1,bO p5),(3,aR a3),(4,.ptr 0 0),(6,.ptr 1 0),(8,pI 0),(10,.ptr 2 0),(13,lS v28 0)],⟨[some ⟨26,[aO p9.aB2]⟩,some ⟨32,dL p0⟩,some ⟨39,jF x16⟩],[⟨44,4,aK.trs (v28),false⟩]⟩⟩) (eK H) ?_ ?_
 ·rintro i26 v28 H
  refine gQ 9 ?_;refine cS H (fun h30 h30l H=>?_) (fun h30 H=>?_)
  ·refine gQ 3 ?_;refine cC H fun z31 H=>(cC H fun z32 H=>(dW (dI [13] bF (dI [10] bZ (dD [93] eE (dI [14] bF (dI [94,95] qF (dI [96] vM (dI [6] bZ (dI [98] bZ (dD [99] eE (dI [14] bF (dI [100,101] qF ?_)))))))))))))
   refine dI [102] (iI (aA.cs (aT p0.aB7.aB4 i26))) (dI [97,103] rW (dI [104] (iF ([(aK.mk (aT x16.aCg i26) (aT p0.aB7.aB4 i26))]:List aK)) (dE [92,105] (lG z32) (dI [106] bF (dN ?_)))))
   exact gE 5
  exact gE 0
 rintro v28 H
 refine qS (cC H fun z33 H=>(cC H fun z34 H=>(dW (dE [] (qE ([]:List aA)) (dI [3] bF (dE [107,108] (lG z33) (dI [6] bZ (dB [110] 0 2 (DU [pI p0.aB7.aB5,pS p0.aB7.aB3,aR p0.aB7.aB4]) (dI [111] (iF ([p0.aB7]:List aA)) (dE [109,112] (lG z34) (dI [113] bF (dN ?_))))))))))))
 refine gQ 5 ?_;refine cQ.fact (cI 2 2 rfl rfl rfl (aD.trs_len _)) (fun hl36=>?_)
 try dsimp only at hl36
 refine bU (σ:=Unit) (fun i35 _=>⟨[(1,bO p5),(4,.ptr 0 0),(6,.ptr 1 0),(8,pI 0),(10,.ptr 2 0),(13,lS v28 0),(15,gM ((([])++a3)++([p0.aB7]:List aA)) 1),(16,pN i35)],⟨[some ⟨26,[aO p9.aB2]⟩,some ⟨32,dL p0⟩,some ⟨39,jF x16⟩],[⟨44,4,aK.trs (v28),false⟩,⟨30,3,aA.trs ((([])++a3)++([p0.aB7]:List aA)),false⟩]⟩⟩) (fun _=>⟨[(8,pI 0)],⟨[some ⟨26,[aO p9.aB2]⟩,some ⟨32,dL p0⟩,some ⟨39,jF x16⟩],[⟨44,4,aK.trs (v28),false⟩,⟨30,3,aA.trs ((([])++a3)++([p0.aB7]:List aA)),false⟩]⟩⟩) (eK H) ?_ ?_
 ·rintro i35 ⟨⟩ H
  refine gQ 9 ?_;refine cS H (fun h37 h37l H=>?_) (fun h37 H=>?_)
  ·refine gQ 7 ?_;refine bU (σ:=Unit) (fun i38 _=>⟨[(1,bO p5),(4,.ptr 0 0),(6,.ptr 1 0),(8,pI 0),(10,.ptr 2 0),(13,lS v28 0),(15,gM ((([])++a3)++([p0.aB7]:List aA)) 1),(16,pN i35),(17,pN i38),(114,pN i35),(115,.ptr 2 2),(116,dF x16.aB8),(117,pN x16.aB8.length),(118,pB (decide ((i35:Int)<(x16.aB8.length:Int))))],⟨[some ⟨26,[aO p9.aB2]⟩,some ⟨32,dL p0⟩,some ⟨39,jF x16⟩],[⟨44,4,aK.trs (v28),false⟩,⟨30,3,aA.trs ((([])++a3)++([p0.aB7]:List aA)),false⟩]⟩⟩) (fun _=>⟨[(1,bO p5),(4,.ptr 0 0),(6,.ptr 1 0),(8,pI 0),(10,.ptr 2 0),(13,lS v28 0),(15,gM ((([])++a3)++([p0.aB7]:List aA)) 1),(16,pN i35),(114,pN i35),(115,.ptr 2 2),(116,dF x16.aB8),(117,pN x16.aB8.length),(118,pB (decide ((i35:Int)<(x16.aB8.length:Int))))],⟨[some ⟨26,[aO p9.aB2]⟩,some ⟨32,dL p0⟩,some ⟨39,jF x16⟩],[⟨44,4,aK.trs (v28),false⟩,⟨30,3,aA.trs ((([])++a3)++([p0.aB7]:List aA)),false⟩]⟩⟩) (eK H) ?_ ?_
   ·rintro i38 ⟨⟩ H
    refine gQ 10 ?_;refine YQ 127 (aA.trs_len _) (fun hl39=>?_)
    try dsimp only at hl39
    refine gQ 3 ?_;refine cS H (fun h40 h40l H=>?_) (fun h40 H=>?_)
    ·refine gQ 4 ?_;refine cC H fun z41 H=>(cC H fun z42 H=>(bK H fun x44 z43 H=>(dW (dD [4] (bW [aO p9.aB2]) (dI [1] bF (dI [6] bZ (dD [134] eE (dI [13] bF (dI [10] bZ (dD [137] eE (dI [16] bF (dI [138,139] qF (dI [140] wZ ?_)))))))))))))
     refine dI [141] vM (dI [17] bF (dI [142,143] qF (dI [144] (iI (aA.cs (aT ((aT x16.aB8 i35).aCm) i38))) (dI [136,145] (bE func110 (RC v28 (aT ((aT x16.aB8 i35).aCm) i38) z41 z42)) (dI [135,146] rW (dI [15] bF (dI [132,133,147,148] (bE func52 (pG p9 p5 (aG.mk p0.aCa (jU v28 (aT ((aT x16.aB8 i35).aCm) i38))) ((([])++a3)++([p0.aB7]:List aA)) _ z43)) (dI [149] bF (dN ?_)))))))))
     refine gQ 5 ?_;refine bC H (fun h45 H=>?_) (fun h45 H=>?_)
     ·refine gQ 5 ?_;refine cQ.ret ?_
      obtain rfl:_=r:=(lkR (skL (lkR (vI H))):)
      exact V6
     exact gE 6
    exact gE 0
   rintro⟨⟩ H
   exact gE 5
  exact gE 0
 rintro⟨⟩ H
 exact gE 4
def kC:Nat→aE→(List aJ)→aG→(List aA)→Option Int
 |0,_,_,_,_=>none
 |fu+1,p9,p5,p0,a3=>GL fu (kC fu) p9 p5 p0 a3
theorem adJ(fu:Nat):GM (kC fu):=by
 induction fu with
 |zero=>exact(fun p9 p5 p0 a3 r H=>by simp only [kC] at H;cases H)
 |succ fu ih=>exact(fun p9 p5 p0 a3 r H=>by simp only [kC] at H;exact ZN fu (kC fu) ih p9 p5 p0 a3 r H)
theorem ag2(fu:Nat):GM (kC fu):=(adJ fu)
def FU(fu:Nat)(pF:ByteArray):Option Bool:=sw (decide (pF=eG)) (some true) (some (decide (pF=eD)))
theorem YM(fu:Nat)(pF:ByteArray)(r:Bool)(H:FU fu pF=some r):bR Tryz.prog 100 [pS pF] (pB r):=by
 refine qJ func100 H (fun C hC H=>?_)
 refine gQ 9 ?_;refine dH 5 H (fun g1 H=>gE 5) fun g1 H=>?_;exact gE 5
def L8(fu:Nat)(pu c1:aA):Option Bool:=some (aA.eq pu c1)
theorem afB(fu:Nat)(pu:aA)(c1:aA)(r:Bool)(H:L8 fu pu c1=some r):b7 Tryz.prog 104 [(aA.pv pu),.ptr 0 0] ⟨[some ⟨30,bM c1⟩],[]⟩ (fun q t=>q=(pB r)∧t=⟨[some ⟨30,bM c1⟩],[]⟩):=by
 refine qJ func104 H (fun C hC H=>?_)
 refine gQ 2 ?_;refine q1 (eX (bM pu)) ?_;refine gQ 4 ?_;refine q1 (bW [pI pu.aB5,pS pu.aB3,aR pu.aB4]) (q1 (bW [pI c1.aB5,pS c1.aB3,aR c1.aB4]) (q1 (bE func95 (w7 pu c1)) ?_))
 exact gE 2
def oU(fu:Nat)(ps:List aA)(c1_0:aA):Nat→Unit→Option (LR Unit Int):=fun i1 _=>bd (L8 fu (aT ps i1) c1_0) fun x5=>sw x5 (some (.ret (i1:Int))) (some (.next ()))
def iT(fu:Nat)(ps:List aA)(c1_0:aA):Option Int:=so (loopN (oU fu ps c1_0) (ps.length-0) 0 ()) fun _=>some (-1)
theorem yL(fu:Nat)(ps:List aA)(c1_0:aA)(r:Int)(H:iT fu ps c1_0=some r):b7 Tryz.prog 150 [aR ps,.fn 104 [.ptr 0 0]] ⟨[some ⟨30,bM c1_0⟩],[]⟩ (fun q t=>q=(pI r)∧t=⟨[some ⟨30,bM c1_0⟩],[]⟩):=by
 refine qJ func150 H (fun C hC H=>?_)
 refine gQ 11 ?_;refine gL 0 (aA.trs_len _) (fun hl2=>?_)
 try dsimp only at hl2
 refine bU (σ:=Unit) (fun i1 _=>⟨[(0,aR ps),(1,.fn 104 [.ptr 0 0]),(4,pI 0),(7,pN ps.length),(8,pN i1)],⟨[some ⟨30,bM c1_0⟩],[]⟩⟩) (fun _=>⟨[(4,pI 0)],⟨[some ⟨30,bM c1_0⟩],[]⟩⟩) (eK H) ?_ ?_
 ·rintro i1 ⟨⟩ H
  refine gQ 5 ?_;refine cS H (fun h3 h3l H=>?_) (fun h3 H=>?_)
  ·refine gQ 14 ?_;refine q1 (iI (aA.cs (aT ps i1))) (bK H fun x5 z4 H=>(q1 (bB.callVPE (pre:=⟨[some ⟨30,bM c1_0⟩],[]⟩) (st':=⟨[some ⟨30,bM c1_0⟩],[]⟩) (ps:= [_]) (cs:= [.ptr 0 0]) (qs:= [(aA.pv (aT ps i1)),.ptr 0 0]) [0] [] rfl rfl rfl func104 (by kernel_rfl) rfl rfl rfl (eZ.of ⟨⟨_,rfl,rfl,jN,rfl⟩,trivial⟩ trivial (by decide) (by decide)) jN rfl rfl rfl (afB fu (aT ps i1) c1_0 _ z4)) (qN ?_)))
   refine bC H (fun h6 H=>gE 5) fun h6 H=>?_;exact gE 5
  exact gE 0
 rintro⟨⟩ H
 exact gE 4
def gP(fu:Nat)(ps:List aA)(c1_0:aA):Option Bool:=bd (iT fu ps c1_0) fun x2=>some (decide (x2≥0))
theorem vK(fu:Nat)(ps:List aA)(c1_0:aA)(r:Bool)(H:gP fu ps c1_0=some r):b7 Tryz.prog 103 [aR ps,.fn 104 [.ptr 0 0]] ⟨[some ⟨30,bM c1_0⟩],[]⟩ (fun q t=>q=(pB r)∧t=⟨[some ⟨30,bM c1_0⟩],[]⟩):=by
 refine qJ func103 H (fun C hC H=>?_)
 refine gQ 8 ?_;refine bK H fun x2 z1 H=>(q1 (eU [0] [] func150 (yL fu ps c1_0 _ z1)) ?_)
 exact gE 3
def aaA(fu:Nat)(p8:LB)(p7:List aA):Nat→((List aK))→Option (LR ((List aK)) ((List aK))):=fun i1 v3=>gd (i1<(p8).length) (gd (i1<(p7).length) (gd ((v3).length+(([(aK.mk (aT p8 i1) (aT p7 i1))]:List aK)).length≤68719476736) (some (.next (v3++([(aK.mk (aT p8 i1) (aT p7 i1))]:List aK))))))
def OI(fu:Nat)(p8:LB)(p7:List aA):Option ((List aK)):=so (loopN (aaA fu p8 p7) (min p8.length p7.length-0) 0 ([])) fun v3=>some v3
theorem al3(fu:Nat)(p8:LB)(p7:List aA)(r:(List aK))(H:OI fu p8 p7=some r):bR Tryz.prog 106 [rS p8,aR p7] (fJ r):=by
 refine qJ func106 H (fun C hC H=>?_)
 refine gQ 6 ?_;refine q1 (qE ([]:List aK)) ?_;refine gQ 9 ?_;refine q1 (rMn) ?_;refine gQ 2 ?_;refine gL 0 (bV _) (fun hl4=>?_)
 try dsimp only at hl4
 refine bU (σ:=(List aK)) (fun i1 v3=>⟨[(0,rS p8),(1,aR p7),(4,.nil),(5,lS v3 0),(12,pN (min p8.length p7.length)),(13,pN i1)],⟨[],[⟨44,4,aK.trs (v3),false⟩]⟩⟩) (fun v3=>⟨[(4,.nil),(5,lS v3 0)],⟨[],[⟨44,4,aK.trs (v3),false⟩]⟩⟩) (eK H) ?_ ?_
 ·rintro i1 v3 H
  refine gQ 5 ?_;refine cS H (fun h5 h5l H=>?_) (fun h5 H=>?_)
  ·refine gQ 8 ?_;refine cC H fun z6 H=>(cC H fun z7 H=>(cC H fun z8 H=>(dW (dI [5] bF (dI [0] bF (dI [6] bF (dI [17,18] qF (dI [19] vM (dI [1] bF (dI [6] bF (dI [21,22] qF (dI [23] (iI (aA.cs (aT p7 i1))) (dI [20,24] rW ?_)))))))))))))
   refine dI [25] (iF ([(aK.mk (aT p8 i1) (aT p7 i1))]:List aK)) (dE [16,26] (lG z8) (dI [27] bF (dN ?_)))
   exact gE 4
  exact gE 0
 rintro v3 H
 exact gE 5
abbrev BD:=bG→ByteArray→aA→(List aA)→Option Int
def OP(m:BD):Prop:= ∀(pA:bG) (p5:ByteArray) (p6:aA) (pC:List aA) (r:Int),m pA p5 p6 pC=some r→b7 Tryz.prog 51 [.ptr 0 0,pS p5,(aA.pv p6),aR pC] ⟨[some ⟨145,[aO pA.aCN.aB2,bO pA.aCq]⟩],[]⟩ (fun q t=>q=(pI r:PV)∧t=⟨[some ⟨145,[aO pA.aCN.aB2,bO pA.aCq]⟩],[]⟩)
def QO(fu:Nat)(p2:BD)(pA:bG)(p5:ByteArray)(p6:aA)(pC:List aA):Option (Int⊕Unit):=sw (decide (p6.aB5=2)) (bd (FU fu p6.aB3) fun x3=>sw x3 (sw (decide ((p6.aB4.length:Int)=0)) (some (.inl 0)) (some (.inr ()))) (some (.inr ()))) (some (.inr ()))
def aaD(fu:Nat)(p2:BD)(pA:bG)(p5:ByteArray)(p6:aA)(pC:List aA)(x7:Int)(x10:aN)(x11:Int)(x12 x17:Bool)(x21:Int)(x24:List aK)(i27:Nat):Nat→Unit→Option (LR Unit (LR Unit Int)):=fun i31 _=>gd (qG x24) (gd (iC (aT ((aT x10.aB8 i27).aCm) i31)) (bd (p2 pA p5 (jU x24 (aT ((aT x10.aB8 i27).aCm) i31)) (pC++([p6]:List aA))) fun x36=>sw (!decide (x36=0)) (some (.ret (.ret x36))) (some (.next ()))))
def aaC(fu:Nat)(p2:BD)(pA:bG)(p5:ByteArray)(p6:aA)(pC:List aA)(x7:Int)(x10:aN)(x11:Int)(x12 x17:Bool)(x21:Int)(x24:List aK):Nat→Unit→Option (LR Unit Int):=fun i27 _=>so (loopN (aaD fu p2 pA p5 p6 pC x7 x10 x11 x12 x17 x21 x24 i27) (((aT x10.aB8 i27).aCm).length-0) 0 ()) fun _=>some (.next ())
def OO(fu:Nat)(p2:BD)(pA:bG)(p5:ByteArray)(p6:aA)(pC:List aA):Option Int:=so (QO fu p2 pA p5 p6 pC) fun _=>bd (mN fu pA.aCq (aG.mk p5 p6)) fun x7=>sw (decide (x7≥0)) (some 0) (bd (UF fu pA.aCN p6.aB3) fun(x10,x11,x12)=>sw (!decide (p6.aB5=2)) (some 1) (sw (!(x12)) (some 1) (sw (!decide ((x10.aCg.length:Int)=(p6.aB4.length:Int))) (some 1) (bd (gP fu pC p6) fun x17=>sw x17 (some 0) (sw (decide ((pC.length:Int)>30)) (some 3) (bd (lH fu p6) fun x21=>sw (decide (x21>400)) (some 3) (bd (OI fu x10.aCg p6.aB4) fun x24=>gd ((pC).length≤68719476735) (gd ((pC).length+(([p6]:List aA)).length≤68719476736) (so (loopN (aaC fu p2 pA p5 p6 pC x7 x10 x11 x12 x17 x21 x24) (x10.aB8.length-0) 0 ()) fun _=>some 0)))))))))
theorem afC(fu:Nat)(p2:BD)(pH:OP p2):OP (OO fu p2):=by
 intro pA p5 p6 pC r H
 refine qJ func51 H (fun C hC H=>?_)
 refine gQ 2 ?_;refine q1 (eX (bM p6)) ?_;refine gQ 3 ?_;refine nV (σ:=Unit) (fun _=>⟨[(0,.ptr 0 0),(1,pS p5),(3,aR pC),(6,.ptr 1 0),(8,pI 0)],⟨[some ⟨145,[aO pA.aCN.aB2,bO pA.aCq]⟩,some ⟨30,bM p6⟩],[]⟩⟩) (eK H) (fun H=>?_) ?_
 ·refine gQ 6 ?_;refine dH 22 H (fun g1 H=>?_) fun g1 H=>?_
  ·refine gQ 2 ?_;refine bK H fun x3 z2 H=>(qg g1 (bE func100 (YM fu p6.aB3 _ z2)) ?_)
   refine gQ 2 ?_;refine dH 27 H (fun g4 H=>?_) fun g4 H=>?_
   ·refine gQ 6 ?_;refine bC H (fun h5 H=>gE 4) fun h5 H=>?_;exact gE 1
   exact gE 8
  exact gE 13
 rintro⟨⟩ H
 refine gQ 2 ?_;refine bK H fun x7 z6 H=>(dW (dI [0] bF (dI [33] uL (dI [34] bZ (dD [35] eE (dI [1] bF (dD [6] (bW [pI p6.aB5,pS p6.aB3,aR p6.aB4]) (dI [37,38] rW (dI [36,39] (bE func101 (A8 fu pA.aCq (aG.mk p5 p6) _ z6)) (dI [40] rGe (dN ?_)))))))))))
 refine bC H (fun h8 H=>gE 4) fun h8 H=>?_;refine gQ 2 ?_;refine NR H fun x10 x11 x12 z9 H=>(dW (dI [0] bF (dI [43] uL (dI [44] bZ (dB [45] 0 1 (DU [aO pA.aCN.aB2]) (dI [6] bZ (dB [47] 0 1 uK (dI [46,48] (bE func102 (anU fu pA.aCN p6.aB3 _ z9)) (dI [49] bF ?_)))))))))
 iterate 3 refine dI [42] YR ?_
 refine dE [] tAl (kU [9,50] jO (dI [51] bF (dI [52] bF (dN ?_))))
 refine gQ 7 ?_;refine dH 56 H (fun g13 H=>gE 18) fun g13 H=>?_;refine gQ 4 ?_;refine dH 60 H (fun g14 H=>gE 14) fun g14 H=>?_;refine gQ 9 ?_;refine bC H (fun h15 H=>gE 4) fun h15 H=>?_;refine gQ 5 ?_;refine q1 rMf (bK H fun x17 z16 H=>(q1 (eU [1] [] func103 (vK fu pC p6 _ z16)) (qN ?_)))
 refine bC H (fun h18 H=>gE 4) fun h18 H=>?_;refine gQ 8 ?_;refine dH 75 H (fun g19 H=>gE 10) fun g19 H=>?_;refine qg g19 (bW [pI p6.aB5,pS p6.aB3,aR p6.aB4]) (bK H fun x21 z20 H=>(qg g19 (bE func105 (OG fu p6 _ z20)) ?_))
 refine gQ 3 ?_;refine bC H (fun h22 H=>gE 4) fun h22 H=>?_;refine gQ 7 ?_;refine bK H fun x24 z23 H=>(q1 (bE func106 (al3 fu x10.aCg p6.aB4 _ z23)) ?_)
 refine gQ 3 ?_;refine cC H fun z25 H=>(cC H fun z26 H=>(dW (dI [3] bF (dE [85] (bB.callOwn (pre:=⟨[],[]⟩) (B:= []) (R:=fun k=>gM pC k) (ps:= [_]) (qs:= [aR pC]) [] rfl rfl func107 (by kernel_rfl) rfl rfl rfl (eZ.of trivial trivial (by decide) (by decide)) rfl jN rfl rfl rfl (fun k k'=>Mv.acc) (ae0 pC z25)) (dB [6] 0 1 (DU [pI p6.aB5,pS p6.aB3,aR p6.aB4]) (dI [87] (iF ([p6]:List aA)) (dE [86,88] (lG z26) (dI [89] bF (dN ?_)))))))))
 refine gQ 8 ?_;refine gL 91 (aD.trs_len _) (fun hl28=>?_)
 try dsimp only at hl28
 refine bU (σ:=Unit) (fun i27 _=>⟨[(0,.ptr 0 0),(1,pS p5),(8,pI 0),(12,fJ x24),(13,gM (pC++([p6]:List aA)) 0),(91,dF x10.aB8),(92,pN x10.aB8.length),(93,pN i27)],⟨[some ⟨145,[aO pA.aCN.aB2,bO pA.aCq]⟩,some ⟨30,bM p6⟩,some ⟨39,jF x10⟩],[⟨30,3,aA.trs (pC++([p6]:List aA)),false⟩]⟩⟩) (fun _=>⟨[(8,pI 0)],⟨[some ⟨145,[aO pA.aCN.aB2,bO pA.aCq]⟩,some ⟨30,bM p6⟩,some ⟨39,jF x10⟩],[⟨30,3,aA.trs (pC++([p6]:List aA)),false⟩]⟩⟩) (eK H) ?_ ?_
 ·rintro i27 ⟨⟩ H
  refine gQ 5 ?_;refine cS H (fun h29 h29l H=>?_) (fun h29 H=>?_)
  ·refine gQ 6 ?_;refine q1 (iI (aD.cs (aT x10.aB8 i27))) ?_;refine gQ 7 ?_;refine YQ 98 (aA.trs_len _) (fun hl30=>?_)
   try dsimp only at hl30
   refine gQ 3 ?_;refine bU (σ:=Unit) (fun i31 _=>⟨[(0,.ptr 0 0),(1,pS p5),(8,pI 0),(12,fJ x24),(13,gM (pC++([p6]:List aA)) 0),(15,.ptr 3 0),(91,dF x10.aB8),(92,pN x10.aB8.length),(93,pN i27),(94,pB (decide ((i27:Int)<(x10.aB8.length:Int)))),(95,.eptr (aD.cs (aT x10.aB8 i27))),(96,(aD.pv (aT x10.aB8 i27))),(97,.ptr 3 1),(98,aR ((aT x10.aB8 i27).aCm)),(99,pN (((aT x10.aB8 i27).aCm).length)),(100,pN i31)],⟨[some ⟨145,[aO pA.aCN.aB2,bO pA.aCq]⟩,some ⟨30,bM p6⟩,some ⟨39,jF x10⟩,some ⟨46,[pS ((aT x10.aB8 i27).aB3),aR ((aT x10.aB8 i27).aCm)]⟩],[⟨30,3,aA.trs (pC++([p6]:List aA)),false⟩]⟩⟩) (fun _=>⟨[(0,.ptr 0 0),(1,pS p5),(8,pI 0),(12,fJ x24),(13,gM (pC++([p6]:List aA)) 0),(15,.ptr 3 0),(91,dF x10.aB8),(92,pN x10.aB8.length),(93,pN i27),(94,pB (decide ((i27:Int)<(x10.aB8.length:Int)))),(95,.eptr (aD.cs (aT x10.aB8 i27))),(96,(aD.pv (aT x10.aB8 i27))),(97,.ptr 3 1),(98,aR ((aT x10.aB8 i27).aCm)),(99,pN (((aT x10.aB8 i27).aCm).length))],⟨[some ⟨145,[aO pA.aCN.aB2,bO pA.aCq]⟩,some ⟨30,bM p6⟩,some ⟨39,jF x10⟩,some ⟨46,[pS ((aT x10.aB8 i27).aB3),aR ((aT x10.aB8 i27).aCm)]⟩],[⟨30,3,aA.trs (pC++([p6]:List aA)),false⟩]⟩⟩) (eK H) ?_ ?_
   ·rintro i31 ⟨⟩ H
    refine gQ 5 ?_;refine cS H (fun h32 h32l H=>?_) (fun h32 H=>?_)
    ·refine gQ 6 ?_;refine q1 (iI (aA.cs (aT ((aT x10.aB8 i27).aCm) i31))) ?_;refine gQ 8 ?_;refine q1 (bW [pI ((aT ((aT x10.aB8 i27).aCm) i31).aB5),pS ((aT ((aT x10.aB8 i27).aCm) i31).aB3),aR ((aT ((aT x10.aB8 i27).aCm) i31).aB4)]) (cC H fun z33 H=>(cC H fun z34 H=>(q1 (bE func16 (QE x24 (aT ((aT x10.aB8 i27).aCm) i31) z33 z34)) (q1 bF (bK H fun x36 z35 H=>(q1 (eU [0] [] func51 (pH pA p5 (jU x24 (aT ((aT x10.aB8 i27).aCm) i31)) (pC++([p6]:List aA)) _ z35)) ?_))))))
     refine gQ 7 ?_;refine bC H (fun h37 H=>?_) (fun h37 H=>?_)
     ·refine gQ 5 ?_;refine cQ.ret ?_
      obtain rfl:_=r:=(lkR (skL (lkR (vI H))):)
      exact V6
     exact gE 5
    exact gE 0
   rintro⟨⟩ H
   exact gE 4
  exact gE 0
 rintro⟨⟩ H
 exact gE 4
def rJ:Nat→bG→ByteArray→aA→(List aA)→Option Int
 |0,_,_,_,_=>none
 |fu+1,pA,p5,p6,pC=>OO fu (rJ fu) pA p5 p6 pC
theorem aiN(fu:Nat):OP (rJ fu):=by
 induction fu with
 |zero=>exact(fun pA p5 p6 pC r H=>by simp only [rJ] at H;cases H)
 |succ fu ih=>exact(fun pA p5 p6 pC r H=>by simp only [rJ] at H;exact afC fu (rJ fu) ih pA p5 p6 pC r H)
theorem al7(fu:Nat):OP (rJ fu):=(aiN fu)
end
end Go.Proofs.YtfcoaagbccmahaaGreat.W

namespace Go.Proofs.YtfcoaagbccmahaaGreat.W
set_option maxRecDepth 100000
set_option maxHeartbeats 40000000
noncomputable section
open Tryz Go.RowKit Go.Proofs
attribute [local irreducible] lt
abbrev uH:=aE→(List aJ)→aG→Int→Option (aH×Int)
abbrev wV:=aE→(List aJ)→aG→Int→Option (aH×Int)
def yE(m:uH):Prop:= ∀(p7:aE) (p1:List aJ) (p5:aG) (p9:Int) (r:aH×Int),m p7 p1 p5 p9=some r→bR Tryz.prog 62 [(aE.pv p7),bO p1,(aG.pv p5),pI p9] (.tup [(aH.pv r.1),pI r.2]:PV)
def GN(m:wV):Prop:= ∀(p7:aE) (p1:List aJ) (p5:aG) (p9:Int) (r:aH×Int),m p7 p1 p5 p9=some r→bR Tryz.prog 122 [(aE.pv p7),bO p1,(aG.pv p5),pI p9] (.tup [(aH.pv r.1),pI r.2]:PV)
def C6(fu:Nat)(p2:uH)(p3:wV)(p7:aE)(p1:List aJ)(p5:aG)(p9:Int):Option (aH×Int):=bd (kX fu p1 p5) fun x2=>sw (decide (x2≥0)) (gd (0≤x2∧x2.toNat<(p1).length) (lt (aT p1 (x2.toNat)) fun y5=>bd (jG fu (aH.mk 2 y5.aCF (aC.mk 0 0) []) y5.aCG) fun x8=>some (x8,0))) (sw (decide (p9≤0)) (some ((aH.mk 0 0 (aC.mk 0 0) []),3)) (bd (pZ fu p7 p5.aCa) fun(x11,x12,x13)=>sw (x11.aCA) (bd (kC fu p7 p1 p5 ([])) fun x16=>sw (!decide (x16=0)) (some ((aH.mk 0 0 (aC.mk 0 0) []),x16)) (some ((aH.mk 5 0 (aC.mk 0 0) []),0))) (sw (decide (p5.aB7.aB5=1)) (some ((aH.mk 0 0 (aC.mk 0 0) []),1)) (sw (decide (p5.aB7.aB5=3)) (some ((aH.mk 0 0 (aC.mk 0 0) []),1)) (sw (decide (p5.aB7.aB5=4)) (bd (mY fu p7 p5.aB7.aB3 p5.aCa) fun(x22,x23)=>sw x23 (bd (jG fu (aH.mk 4 0 (aC.mk 0 0) []) x22) fun x26=>some (x26,0)) (bd (p3 p7 p1 p5 p9) fun(x28,x29)=>some (x28,x29))) (bd (p3 p7 p1 p5 p9) fun(x31,x32)=>some (x31,x32)))))))
theorem XC(fu:Nat)(p2:uH)(p3:wV)(pA:yE p2)(p8:GN p3):yE (C6 fu p2 p3):=by
 intro p7 p1 p5 p9 r H
 refine qJ func62 H (fun C hC H=>?_)
 refine gQ 2 ?_;refine q1 (eX ([aO p7.aB2])) (q1 (eX (dL p5)) ?_)
 refine gQ 6 ?_;refine q1 (bW [pS p5.aCa,pI p5.aB7.aB5,pS p5.aB7.aB3,aR p5.aB7.aB4]) (bK H fun x2 z1 H=>(q1 (bE func14 (tW fu p1 p5 _ z1)) ?_))
 refine gQ 8 ?_;refine bC H (fun h3 H=>?_) (fun h3 H=>?_)
 ·refine qS (cC H fun z4 H=>(fZ H fun y5 h6 H=>(bK H fun x8 z7 H=>(dW (dI [1] bF (dI [10] bF (dI [22,23] (rIm h6 z4 aq8.h) (dI [24] wZ (dI [25] vM (dI [26] rW (dI [1] bF (dI [10] bF (dI [28,29] (rIm h6 z4 aq8.h) ?_)))))))))))))
  refine dI [30] wZ (dI [31] vM (dI [27,32] (bE func120 (xW fu (aH.mk 2 y5.aCF (aC.mk 0 0) []) y5.aCG _ z7)) (kU [8,33] jO (dI [] bF (dN ?_)))))
  exact gE 0
 refine gQ 7 ?_;refine bC H (fun h9 H=>gE 6) fun h9 H=>?_;refine gQ 3 ?_;refine q1 (bW [aO p7.aB2]) ?_;refine gQ 2 ?_;refine NR H fun x11 x12 x13 z10 H=>(q1 (bE func121 (B3 fu p7 p5.aCa _ z10)) ?_)
 refine gQ 15 ?_;refine bC H (fun h14 H=>?_) (fun h14 H=>?_)
 ·refine gQ 2 ?_;refine q1 (bW [aO p7.aB2]) (q1 bF (q1 (bW [pS p5.aCa,pI p5.aB7.aB5,pS p5.aB7.aB3,aR p5.aB7.aB4]) (q1 (qE ([]:List aA)) (bK H fun x16 z15 H=>(q1 (bE func52 (ag2 fu p7 p1 p5 ([]) _ z15)) ?_)))))
  refine gQ 8 ?_;refine bC H (fun h17 H=>gE 7) fun h17 H=>?_;exact gE 7
 refine gQ 9 ?_;refine dH 61 H (fun g18 H=>gE 13) fun g18 H=>?_;refine gQ 6 ?_;refine bC H (fun h19 H=>gE 6) fun h19 H=>?_;refine gQ 9 ?_;refine bC H (fun h20 H=>?_) (fun h20 H=>?_)
 ·refine gQ 2 ?_;refine q1 (bW [aO p7.aB2]) ?_;refine gQ 5 ?_;refine dP H fun x22 x23 z21 H=>(q1 (bE func58 (BT fu p7 p5.aB7.aB3 p5.aCa _ z21)) ?_)
  refine gQ 10 ?_;refine bC H (fun h24 H=>?_) (fun h24 H=>?_)
  ·refine gQ 4 ?_;refine bK H fun x26 z25 H=>(q1 (bE func120 (xW fu (aH.mk 4 0 (aC.mk 0 0) []) x22 _ z25)) ?_)
   exact gE 3
  refine gQ 3 ?_;refine q1 (bW [aO p7.aB2]) (q1 bF (q1 (bW [pS p5.aCa,pI p5.aB7.aB5,pS p5.aB7.aB3,aR p5.aB7.aB4]) (q1 bF (dP H fun x28 x29 z27 H=>(q1 (bE func122 (p8 p7 p1 p5 p9 _ z27)) ?_)))))
  exact gE 5
 refine gQ 3 ?_;refine q1 (bW [aO p7.aB2]) (q1 bF (q1 (bW [pS p5.aCa,pI p5.aB7.aB5,pS p5.aB7.aB3,aR p5.aB7.aB4]) (q1 bF (dP H fun x31 x32 z30 H=>(q1 (bE func122 (p8 p7 p1 p5 p9 _ z30)) ?_)))))
 exact gE 5
def S5(fu:Nat)(p2:uH)(p3:wV)(p7:aE)(p1:List aJ)(p5:aG)(p9:Int)(x2:aC)(x3:Int)(y6:aM)(y9:aI):Nat→((List aH))→Option (LR ((List aH)) (aH×Int)):=fun i13 v15=>gd (qG (eR y9.aCh p5.aB7)) (gd (iC ((aT y9.aCk i13).aB7)) (bd (p2 p7 p1 (aG.mk ((aT y9.aCk i13).aCa) (jU (eR y9.aCh p5.aB7) ((aT y9.aCk i13).aB7))) (aX (p9-1))) fun(x21,x22)=>sw (!decide (x22=0)) (some (.ret ((aH.mk 0 0 (aC.mk 0 0) []),x22))) (gd ((v15).length+(([x21]:List aH)).length≤68719476736) (some (.next (v15++([x21]:List aH)))))))
def M5(fu:Nat)(p2:uH)(p3:wV)(p7:aE)(p1:List aJ)(p5:aG)(p9:Int):Option (aH×Int):=bd (qY fu p7 p5) fun(x2,x3)=>sw (!decide (x3=0)) (some ((aH.mk 0 0 (aC.mk 0 0) []),x3)) (gd (0≤x2.aCf∧(x2.aCf).toNat<(p7.aB2).length) (lt (aT p7.aB2 ((x2.aCf).toNat)) fun y6=>gd (0≤x2.aCt∧(x2.aCt).toNat<(y6.aCe).length) (lt (aT y6.aCe ((x2.aCt).toNat)) fun y9=>gd (Tr.bulkL (aA.tr y9.aCh)≤68719476735) (gd (iC p5.aB7) (so (loopN (S5 fu p2 p3 p7 p1 p5 p9 x2 x3 y6 y9) (y9.aCk.length-0) 0 ([])) fun v15=>some ((aH.mk 1 0 x2 v15),0))))))
theorem ZO(fu:Nat)(p2:uH)(p3:wV)(pA:yE p2)(p8:GN p3):GN (M5 fu p2 p3):=by
 intro p7 p1 p5 p9 r H
 refine qJ func122 H (fun C hC H=>?_)
 refine gQ 2 ?_;refine q1 (eX ([aO p7.aB2])) (q1 (eX (dL p5)) ?_)
 refine gQ 5 ?_;refine q1 (bW [aO p7.aB2]) (q1 (bW [pS p5.aCa,pI p5.aB7.aB5,pS p5.aB7.aB3,aR p5.aB7.aB4]) (dP H fun x2 x3 z1 H=>(q1 (bE func160 (MT fu p7 p5 _ z1)) ?_)))
 refine gQ 13 ?_;refine bC H (fun h4 H=>gE 7) fun h4 H=>?_;refine gQ 2 ?_;refine cC H fun z5 H=>(fZ H fun y6 h7 H=>(cC H fun z8 H=>(fZ H fun y9 h10 H=>(dW (dI [4] bZ (dB [29] 0 1 uK (dI [10] bZ (dB [31] 0 1 uK (dI [30,32] (rIm h7 z5 aeW.h) (dI [33] wZ (dI [34] vM (dI [10] bZ (dB [36] 0 1 uK ?_)))))))))))))
 refine dI [35,37] (rIm h10 z8 Z4.h) (dI [38] (iI (aI.cs y9)) (dE [] tAl (kU [12,39] jO (dN ?_))))
 refine gQ 3 ?_;refine q1 (bW [pI y9.aCh.aB5,pS y9.aCh.aB3,aR y9.aCh.aB4]) (q1 bZ (q1 (bW [pI p5.aB7.aB5,pS p5.aB7.aB3,aR p5.aB7.aB4]) (cC H fun z11 H=>(cC H fun z12 H=>(q1 (bE func161 (aaS y9.aCh p5.aB7 z11 z12)) ?_)))))
 refine gQ 8 ?_;refine q1 (bW [pI x2.aCf,pI x2.aCt]) ?_;refine gQ 9 ?_;refine cQ.wk (Wk.regBox (k:=5) (j:=4) 55 5 (by decide) rfl rfl) ?_;refine cQ.fact (cI 4 5 rfl rfl rfl (aG.trs_len _)) (fun hl16=>?_)
 try dsimp only at hl16
 refine bU (σ:=(List aH)) (fun i13 v15=>⟨[(1,bO p1),(3,pI p9),(4,.ptr 0 0),(8,.ptr 2 0),(9,pI 0),(12,.ptr 4 0),(13,fJ (eR y9.aCh p5.aB7)),(15,.ptr 5 0),(16,pN i13)],⟨[some ⟨26,[aO p7.aB2]⟩,some ⟨32,dL p5⟩,some ⟨55,[pI 0,pI 0,pI 0,pI 0,.nil]⟩,some ⟨52,[pI x2.aCf,pI x2.aCt]⟩,some ⟨163,c8 y9⟩,some ⟨55,[pI 1,pI 0,pI x2.aCf,pI x2.aCt,rY v15 0]⟩],[⟨55,5,aH.trs (v15),false⟩]⟩⟩) (fun v15=>⟨[(8,.ptr 2 0),(9,pI 0),(15,.ptr 5 0)],⟨[some ⟨26,[aO p7.aB2]⟩,some ⟨32,dL p5⟩,some ⟨55,[pI 0,pI 0,pI 0,pI 0,.nil]⟩,some ⟨52,[pI x2.aCf,pI x2.aCt]⟩,some ⟨163,c8 y9⟩,some ⟨55,[pI 1,pI 0,pI x2.aCf,pI x2.aCt,rY v15 0]⟩],[⟨55,5,aH.trs (v15),false⟩]⟩⟩) (eK H) ?_ ?_
 ·rintro i13 v15 H
  refine gQ 9 ?_;refine cS H (fun h17 h17l H=>?_) (fun h17 H=>?_)
  ·refine gQ 4 ?_;refine cC H fun z18 H=>(cC H fun z19 H=>(dP H fun x21 x22 z20 H=>(dW (dB [4] 0 1 (DU [aO p7.aB2]) (dI [1] bF (dI [12] bZ (dB [60] 0 1 uK (dI [16] bF (dI [61,62] qF (dI [63] wZ (dI [64] vM (dI [13] bF (dI [12] bZ ?_)))))))))))))
   refine dB [67] 0 1 uK (dI [16] bF (dI [68,69] qF (dI [70] wZ (dI [71] (iI (aA.cs ((aT y9.aCk i13).aB7))) (dI [66,72] (bE func110 (RC (eR y9.aCh p5.aB7) ((aT y9.aCk i13).aB7) z18 z19)) (dI [65,73] rW (dI [3] bF (dI [75] rSw (dI [58,59,74,76] (bE func62 (pA p7 p1 (aG.mk ((aT y9.aCk i13).aCa) (jU (eR y9.aCh p5.aB7) ((aT y9.aCk i13).aB7))) (aX (p9-1)) _ z20)) (dI [77] bF ?_))))))))))
   iterate 2 refine dI [57] YR ?_
   refine dE [] tAl (kU [17,78] jO (dI [79] bF (dN ?_)))
   refine gQ 6 ?_;refine bC H (fun h23 H=>gE 7) fun h23 H=>?_;refine gQ 4 ?_;refine q1 (bW [pI x21.aB5,pI x21.aCL,pI x21.aCt.aCf,pI x21.aCt.aCt,fM x21.aB4]) (q1 (iF ([x21]:List aH)) (cC H fun z24 H=>(q1 (lG z24) ?_)))
   exact gE 8
  exact gE 0
 rintro v15 H
 refine gQ 2 ?_;refine q1 (bW [pI 1,pI 0,pI x2.aCf,pI x2.aCt,rY v15 0]) ?_;exact gE 3
mutual
def iS:Nat→aE→(List aJ)→aG→Int→Option (aH×Int)
 |0,_,_,_,_=>none
 |fu+1,p7,p1,p5,p9=>C6 fu (iS fu) (oJ fu) p7 p1 p5 p9
def oJ:Nat→aE→(List aJ)→aG→Int→Option (aH×Int)
 |0,_,_,_,_=>none
 |fu+1,p7,p1,p5,p9=>M5 fu (iS fu) (oJ fu) p7 p1 p5 p9
end
theorem ZP(fu:Nat):yE (iS fu)∧GN (oJ fu):=by
 induction fu with
 |zero=>exact⟨(fun p7 p1 p5 p9 r H=>by simp only [iS] at H;cases H),(fun p7 p1 p5 p9 r H=>by simp only [oJ] at H;cases H)⟩
 |succ fu ih=>exact⟨(fun p7 p1 p5 p9 r H=>by simp only [iS] at H;exact XC fu (iS fu) (oJ fu) ih.1 ih.2 p7 p1 p5 p9 r H),(fun p7 p1 p5 p9 r H=>by simp only [oJ] at H;exact ZO fu (iS fu) (oJ fu) ih.1 ih.2 p7 p1 p5 p9 r H)⟩
theorem adK(fu:Nat):yE (iS fu):=(ZP fu).1
abbrev wA:=bG→aG→Int→Option (aH×Int)
def JL(m:wA):Prop:= ∀(p6:bG) (p1:aG) (p0:Int) (r:aH×Int),m p6 p1 p0=some r→b7 Tryz.prog 61 [.ptr 0 0,(aG.pv p1),pI p0] ⟨[some ⟨145,[aO p6.aCN.aB2,bO p6.aCq]⟩],[]⟩ (fun q t=>q=(.tup [(aH.pv r.1),pI r.2]:PV)∧t=⟨[some ⟨145,[aO p6.aCN.aB2,bO p6.aCq]⟩],[]⟩)
def VU(fu:Nat)(p4:wA)(p6:bG)(p1:aG)(p0 x2:Int):Option ((aH×Int)⊕(ByteArray×(LB)×Bool×Bool×(List aF))):=bd (EO fu p6.aCN p1.aCa) fun(x16,x17,x18)=>sw x18 (sw (x16.aCA) (bd (rJ fu p6 p1.aCa p1.aB7 ([])) fun x22=>sw (!decide (x22=0)) (some (.inl ((aH.mk 0 0 (aC.mk 0 0) []),x22))) (some (.inl ((aH.mk 5 0 (aC.mk 0 0) []),0)))) (some (.inr (x16.aB3,x16.aCc,x16.aCA,x16.aCj,x16.aCp)))) (some (.inr (x16.aB3,x16.aCc,x16.aCA,x16.aCj,x16.aCp)))
def MA(fu:Nat)(p4:wA)(p6:bG)(p1:aG)(p0 x2:Int)(v10:ByteArray)(v11:LB)(v12 v13:Bool)(v14:List aF):Option (((aH×Int)⊕Unit)⊕Bool):=sw (decide (p1.aB7.aB5=1)) (some (.inr (decide (p1.aB7.aB5=1)))) (some (.inr (decide (p1.aB7.aB5=3))))
def L9(fu:Nat)(p4:wA)(p6:bG)(p1:aG)(p0 x2:Int)(v10:ByteArray)(v11:LB)(v12 v13:Bool)(v14:List aF):Option ((aH×Int)⊕Unit):=so (MA fu p4 p6 p1 p0 x2 v10 v11 v12 v13 v14) fun v24=>sw (v24) (some (.inl ((aH.mk 0 0 (aC.mk 0 0) []),1))) (sw (decide (p1.aB7.aB5=4)) (bd (kV fu p6.aCN p1.aB7.aB3 p1.aCa) fun(x29,x30)=>sw x30 (bd (gY fu (aH.mk 4 0 (aC.mk 0 0) []) x29) fun x33=>some (.inl (x33,0))) (some (.inr ()))) (some (.inr ())))
def VV(fu:Nat)(p4:wA)(p6:bG)(p1:aG)(p0 x2:Int)(v10:ByteArray)(v11:LB)(v12 v13:Bool)(v14:List aF)(x35:aC)(x36:Int)(x39:aI)(x40:Bool):Nat→((List aH))→Option (LR ((List aH)) (aH×Int)):=fun i43 v45=>gd (qG (eR x39.aCh p1.aB7)) (gd (iC ((aT x39.aCk i43).aB7)) (bd (p4 p6 (aG.mk ((aT x39.aCk i43).aCa) (jU (eR x39.aCh p1.aB7) ((aT x39.aCk i43).aB7))) (aX (p0+1))) fun(x51,x52)=>sw (!decide (x52=0)) (some (.ret ((aH.mk 0 0 (aC.mk 0 0) []),x52))) (gd ((v45).length+(([x51]:List aH)).length≤68719476736) (some (.next (v45++([x51]:List aH)))))))
def JK(fu:Nat)(p4:wA)(p6:bG)(p1:aG)(p0:Int):Option (aH×Int):=bd (mN fu p6.aCq p1) fun x2=>sw (decide (x2≥0)) (gd (0≤x2∧x2.toNat<(p6.aCq).length) (lt (aT p6.aCq (x2.toNat)) fun y5=>bd (gY fu (aH.mk 2 y5.aCF (aC.mk 0 0) []) y5.aCG) fun x8=>some (x8,0))) (sw (decide (p0≥12)) (some ((aH.mk 0 0 (aC.mk 0 0) []),3)) (so (VU fu p4 p6 p1 p0 x2) fun(v10,v11,v12,v13,v14)=>so (L9 fu p4 p6 p1 p0 x2 v10 v11 v12 v13 v14) fun _=>bd (qQ fu p6.aCN p1) fun(x35,x36)=>sw (!decide (x36=0)) (some ((aH.mk 0 0 (aC.mk 0 0) []),x36)) (bd (rH fu p6.aCN x35) fun(x39,x40)=>gd (Tr.bulkL (aA.tr x39.aCh)≤68719476735) (gd (iC p1.aB7) (so (loopN (VV fu p4 p6 p1 p0 x2 v10 v11 v12 v13 v14 x35 x36 x39 x40) (x39.aCk.length-0) 0 ([])) fun v45=>some ((aH.mk 1 0 x35 v45),0))))))
theorem ab7(fu:Nat)(p4:wA)(pD:JL p4):JL (JK fu p4):=by
 intro p6 p1 p0 r H
 refine qJ func61 H (fun C hC H=>?_)
 refine gQ 2 ?_;refine q1 (eX (dL p1)) ?_;refine gQ 5 ?_;refine bK H fun x2 z1 H=>(dW (dI [0] bF (dI [27] uL (dI [28] bZ (dD [29] eE (dD [4] (bW [pS p1.aCa,pI p1.aB7.aB5,pS p1.aB7.aB3,aR p1.aB7.aB4]) (dI [30,31] (bE func101 (A8 fu p6.aCq p1 _ z1)) (dI [32] bF (dN ?_)))))))))
 refine gQ 5 ?_;refine bC H (fun h3 H=>?_) (fun h3 H=>?_)
 ·refine gQ 7 ?_;refine cC H fun z4 H=>(fZ H fun y5 h6 H=>(q1 (rIm h6 z4 aq8.h) (q1 (iI (aJ.cs y5)) ?_)))
  refine gQ 10 ?_;refine bK H fun x8 z7 H=>(q1 (bE func114 (xL fu (aH.mk 2 y5.aCF (aC.mk 0 0) []) y5.aCG _ z7)) ?_)
  exact gE 3
 refine gQ 7 ?_;refine bC H (fun h9 H=>gE 6) fun h9 H=>?_;refine gQ 2 ?_;refine nV (σ:=ByteArray×(LB)×Bool×Bool×(List aF)) (fun(v10,v11,v12,v13,v14)=>⟨[(0,.ptr 0 0),(2,pI p0),(4,.ptr 1 0),(6,.ptr 2 0),(7,pI 0)],⟨[some ⟨145,[aO p6.aCN.aB2,bO p6.aCq]⟩,some ⟨32,dL p1⟩,some ⟨55,[pI 0,pI 0,pI 0,pI 0,.nil]⟩,some ⟨156,[pS v10,rS v11,pB v12,pB v13,gC v14]⟩],[]⟩⟩) (eK H) (fun H=>?_) ?_
 ·refine qS (NR H fun x16 x17 x18 z15 H=>(dW (dI [0] bF (dI [52] uL (dI [53] bZ (dB [54] 0 1 (DU [aO p6.aCN.aB2]) (dI [4] bZ (dB [56] 0 1 uK (dI [55,57] (bE func115 (QN fu p6.aCN p1.aCa _ z15)) (dI [58] bF ?_))))))))))
  iterate 3 refine dI [51] YR ?_
  refine dE [] tAl (kU [10,59] jO (dI [60] bF (dI [61] bF (dN ?_))))
  refine gQ 4 ?_;refine dH 63 H (fun g19 H=>?_) fun g19 H=>?_
  ·refine gQ 4 ?_;refine bC H (fun h20 H=>?_) (fun h20 H=>?_)
   ·refine gQ 7 ?_;refine q1 (bW [pI p1.aB7.aB5,pS p1.aB7.aB3,aR p1.aB7.aB4]) (bK H fun x22 z21 H=>(q1 (eU [0] [] func51 (al7 fu p6 p1.aCa p1.aB7 ([]) _ z21)) ?_))
    refine gQ 7 ?_;refine bC H (fun h23 H=>gE 7) fun h23 H=>?_;exact gE 7
   exact gE 1
  exact gE 6
 rintro⟨v10,v11,v12,v13,v14⟩ H
 refine qS ?_;refine nV (σ:=Unit) (fun _=>⟨[(0,.ptr 0 0),(2,pI p0),(4,.ptr 1 0),(6,.ptr 2 0),(7,pI 0)],⟨[some ⟨145,[aO p6.aCN.aB2,bO p6.aCq]⟩,some ⟨32,dL p1⟩,some ⟨55,[pI 0,pI 0,pI 0,pI 0,.nil]⟩,some ⟨156,[pS v10,rS v11,pB v12,pB v13,gC v14]⟩],[]⟩⟩) (eK H) (fun H=>?_) ?_
 ·refine gQ 8 ?_;refine nV (σ:=Bool) (fun v24=>⟨[(0,.ptr 0 0),(2,pI p0),(4,.ptr 1 0),(6,.ptr 2 0),(7,pI 0),(80,pI p1.aB7.aB5),(81,pB v24)],⟨[some ⟨145,[aO p6.aCN.aB2,bO p6.aCq]⟩,some ⟨32,dL p1⟩,some ⟨55,[pI 0,pI 0,pI 0,pI 0,.nil]⟩,some ⟨156,[pS v10,rS v11,pB v12,pB v13,gC v14]⟩],[]⟩⟩) (eK H) (fun H=>?_) ?_
  ·refine gQ 5 ?_;refine bC H (fun h25 H=>gE 1) fun h25 H=>?_;exact gE 4
  rintro v24 H
  refine bC H (fun h26 H=>gE 6) fun h26 H=>?_;refine gQ 5 ?_;refine bC H (fun h27 H=>?_) (fun h27 H=>?_)
  ·refine qS (dP H fun x29 x30 z28 H=>(dW (dI [0] bF (dI [88] uL (dI [89] bZ (dD [90] (bW [aO p6.aCN.aB2]) (dI [4] bZ (dI [92] bZ (dD [93] eE (dI [4] bZ (dD [95] eE (dI [91,94,96] (bE func116 (BA fu p6.aCN p1.aB7.aB3 p1.aCa _ z28)) (dI [97] bF ?_)))))))))))))
   iterate 2 refine dI [87] YR ?_
   refine dI [98] bF (dI [99] bF (dN ?_))
   refine gQ 4 ?_;refine bC H (fun h31 H=>?_) (fun h31 H=>?_)
   ·refine gQ 4 ?_;refine bK H fun x33 z32 H=>(q1 (bE func114 (xL fu (aH.mk 4 0 (aC.mk 0 0) []) x29 _ z32)) ?_)
    exact gE 3
   exact gE 1
  exact gE 1
 rintro⟨⟩ H
 refine qS (dP H fun x35 x36 z34 H=>(dW (dI [0] bF (dI [105] uL (dI [106] bZ (dB [107] 0 1 (DU [aO p6.aCN.aB2]) (dB [4] 0 1 (DU [pS p1.aCa,pI p1.aB7.aB5,pS p1.aB7.aB3,aR p1.aB7.aB4]) (dI [108,109] (bE func117 (L4 fu p6.aCN p1 _ z34)) (dI [110] bF ?_)))))))))
 iterate 2 refine dI [104] YR ?_
 refine dE [] tAl (kU [16,111] jO (dI [112] bF (dN ?_)))
 refine gQ 6 ?_;refine bC H (fun h37 H=>gE 7) fun h37 H=>?_;refine gQ 2 ?_;refine dP H fun x39 x40 z38 H=>(dW (dI [0] bF (dI [118] uL (dI [119] bZ (dB [120] 0 1 (DU [aO p6.aCN.aB2]) (dB [16] 0 1 (DU [pI x35.aCf,pI x35.aCt]) (dI [121,122] (bE func118 (uV fu p6.aCN x35 _ z38)) (dI [123] bF ?_))))))))
 iterate 2 refine dI [117] YR ?_
 refine dE [] tAl (kU [18,124] jO (dI [125] bF (dN ?_)))
 refine gQ 3 ?_;refine q1 (bW [pI x39.aCh.aB5,pS x39.aCh.aB3,aR x39.aCh.aB4]) (q1 bZ (q1 (bW [pI p1.aB7.aB5,pS p1.aB7.aB3,aR p1.aB7.aB4]) (cC H fun z41 H=>(cC H fun z42 H=>(q1 (bE func119 (Z8 x39.aCh p1.aB7 z41 z42)) ?_)))))
 refine gQ 8 ?_;refine q1 (bW [pI x35.aCf,pI x35.aCt]) ?_;refine gQ 12 ?_;refine cQ.wk (Wk.regBox (k:=6) (j:=4) 55 5 (by decide) rfl rfl) ?_;refine gL 137 (aG.trs_len _) (fun hl46=>?_)
 try dsimp only at hl46
 refine bU (σ:=(List aH)) (fun i43 v45=>⟨[(0,.ptr 0 0),(2,pI p0),(6,.ptr 2 0),(7,pI 0),(20,fJ (eR x39.aCh p1.aB7)),(22,.ptr 6 0),(137,bY x39.aCk),(138,pN x39.aCk.length),(139,pN i43)],⟨[some ⟨145,[aO p6.aCN.aB2,bO p6.aCq]⟩,some ⟨32,dL p1⟩,some ⟨55,[pI 0,pI 0,pI 0,pI 0,.nil]⟩,some ⟨156,[pS v10,rS v11,pB v12,pB v13,gC v14]⟩,some ⟨52,[pI x35.aCf,pI x35.aCt]⟩,some ⟨163,c8 x39⟩,some ⟨55,[pI 1,pI 0,pI x35.aCf,pI x35.aCt,rY v45 0]⟩],[⟨55,5,aH.trs (v45),false⟩]⟩⟩) (fun v45=>⟨[(6,.ptr 2 0),(7,pI 0),(22,.ptr 6 0)],⟨[some ⟨145,[aO p6.aCN.aB2,bO p6.aCq]⟩,some ⟨32,dL p1⟩,some ⟨55,[pI 0,pI 0,pI 0,pI 0,.nil]⟩,some ⟨156,[pS v10,rS v11,pB v12,pB v13,gC v14]⟩,some ⟨52,[pI x35.aCf,pI x35.aCt]⟩,some ⟨163,c8 x39⟩,some ⟨55,[pI 1,pI 0,pI x35.aCf,pI x35.aCt,rY v45 0]⟩],[⟨55,5,aH.trs (v45),false⟩]⟩⟩) (eK H) ?_ ?_
 ·rintro i43 v45 H
  refine gQ 5 ?_;refine cS H (fun h47 h47l H=>?_) (fun h47 H=>?_)
  ·refine gQ 6 ?_;refine q1 (iI (aG.cs (aT x39.aCk i43))) ?_;refine gQ 4 ?_;refine cC H fun z48 H=>(cC H fun z49 H=>(dP H fun x51 x52 z50 H=>(dWa (dI [0] bF (dI [24] bZ (dBz [145] 0 0 uK (dI [20] bF (dI [24] bZ (dBz [148] 0 0 (DU [pI (((aT x39.aCk i43).aB7).aB5),pS (((aT x39.aCk i43).aB7).aB3),aR (((aT x39.aCk i43).aB7).aB4)]) (dI [147,149] (bE func16 (QE (eR x39.aCh p1.aB7) ((aT x39.aCk i43).aB7) z48 z49)) (dI [146,150] rW (dI [2] bF (dI [152] rAw ?_)))))))))))))
   refine dEz [144,151,153] (fun _ z=>by cases z<;>exact eU [0] [] func61 (pD p6 (aG.mk ((aT x39.aCk i43).aCa) (jU (eR x39.aCh p1.aB7) ((aT x39.aCk i43).aB7))) (aX (p0+1)) _ z50)) ?_;refine dI [154] bF ?_
   iterate 2 refine dI [143] YR ?_
   refine dA (fun _ st h=>vAl h atH.h) (dZ 25 [25,155] jO (dI [156] bF (dN ?_)))
   refine gQ 6 ?_;refine bC H (fun h53 H=>gE 7) fun h53 H=>?_;refine gQ 4 ?_;refine q1 (bW [pI x51.aB5,pI x51.aCL,pI x51.aCt.aCf,pI x51.aCt.aCt,fM x51.aB4]) (q1 (iF ([x51]:List aH)) (cC H fun z54 H=>(q1 (lG z54) ?_)))
   exact gE 7
  exact gE 0
 rintro v45 H
 refine gQ 2 ?_;refine q1 (bW [pI 1,pI 0,pI x35.aCf,pI x35.aCt,rY v45 0]) ?_;exact gE 3
def lM:Nat→bG→aG→Int→Option (aH×Int)
 |0,_,_,_=>none
 |fu+1,p6,p1,p0=>JK fu (lM fu) p6 p1 p0
theorem afD(fu:Nat):JL (lM fu):=by
 induction fu with
 |zero=>exact(fun p6 p1 p0 r H=>by simp only [lM] at H;cases H)
 |succ fu ih=>exact(fun p6 p1 p0 r H=>by simp only [lM] at H;exact ab7 fu (lM fu) ih p6 p1 p0 r H)
theorem aiO(fu:Nat):JL (lM fu):=(afD fu)
def af3(fu:Nat)(pw:aE)(pC:List aG)(pg:aG):Option (aH×Int):=bd (u7 fu pw pC) fun x2=>bd (iS fu pw x2 pg 12) fun(x4,x5)=>some (x4,x5)
theorem amM(fu:Nat)(pw:aE)(pC:List aG)(pg:aG)(r:aH×Int)(H:af3 fu pw pC pg=some r):bR Tryz.prog 19 [(aE.pv pw),bY pC,(aG.pv pg)] (.tup [(aH.pv r.1),pI r.2]):=by
 refine qJ func19 H (fun C hC H=>?_)
 refine gQ 2 ?_;refine q1 (eX ([aO pw.aB2])) (q1 (eX (dL pg)) ?_)
 refine gQ 4 ?_;refine bK H fun x2 z1 H=>(dP H fun x4 x5 z3 H=>(dW ?_))
 iterate 2 refine dD [3] (bW [aO pw.aB2]) ?_
 refine dI [1] bF (dI [9,10] (bE func15 (TR fu pw pC _ z1)) (dD [5] (bW [pS pg.aCa,pI pg.aB7.aB5,pS pg.aB7.aB3,aR pg.aB7.aB4]) (dI [8,11,12] (bE func62 (adK fu pw x2 pg 12 _ z3)) ?_)))
 iterate 2 refine dI [13] YR ?_
 refine kU [6,14] jO (dI [15] bF (dN ?_))
 exact gE 0
end
end Go.Proofs.YtfcoaagbccmahaaGreat.W

namespace Go.Proofs.YtfcoaagbccmahaaGreat.W
attribute [local irreducible] lt
open Go.RowKit Go.Proofs
def fU(w:aE)(g:aG):List aC:=(fE w).filter fun o=>rC w g o
def yK(w:aE)(l:List aC)(o:aC):Bool:=l.any fun p=>ET (b6 w p).aCh (b6 w o).aCh
def DM(w:aE)(g:aG)(o:aC):aC×Int:=bif ((b6 w o).aCv&& !uQ g.aB7) then(.mk 0 0,2) else(o,0)
def f6(w:aE)(g:aG):aC×Int:=match(fU w g).find? (fun o=> !yK w (fU w g) o) with
 |some o=>DM w g o
 |none=>(.mk 0 0,1)
theorem D4{w:aE}{g:aG}{o:aC}(h:o∈fU w g):mO w o:=UJ (List.mem_filter.1 h).1
theorem aa4{α β:Type}{p:α→Bool}{r:α→β}{l:List α}{m:Option (β⊕Unit)}{f:Unit→Option β}(hm:m=some (match l.find? p with|some x=> .inl (r x)|none=> .inr ())){b:β}(hf:f ()=some b):so m f=some (match l.find? p with|some x=>r x|none=>b):=by
 cases hq:l.find? p with
 |none=>
  rw [hq] at hm
  exact X2 hm hf
 |some x=>
  rw [hq] at hm
  exact soL hm
theorem akM{α:Type}(q:α→Bool): ∀(l:List α) (b:Bool),l.foldl (fun v x=>v&& !q x) b=(b&& !l.any q)
 | [],b=>by simp
 |a::l,b=>by
  rw [List.foldl_cons,akM q l,List.any_cons]
  cases b<;>cases q a<;>simp
theorem UD{β:Type}{w:aE}{o:aC}(h:mO w o){f:aM→aI→Option β}{z:Option β}(k: ∀p,f p (b6 w o)=z):gd (0≤o.aCf∧(o.aCf).toNat<(w.aB2).length) (lt (aT w.aB2 ((o.aCf).toNat)) (fun y=>gd (0≤o.aCt∧(o.aCt).toNat<(y.aCe).length) (lt (aT y.aCe ((o.aCt).toNat)) (fun z=>f y z))))=z:=by
 obtain⟨p,q,rfl,hp,hq⟩:=h
 exact gO ⟨by show(0:Int)≤p;omega,by show((p:Nat):Int).toNat<_;omega⟩ (Q0 rfl (gO ⟨by show(0:Int)≤q;omega,by show((q:Nat):Int).toNat<(aT w.aB2 p).aCe.length;omega⟩ (Q0 rfl (k _))))
section
variable {fu:Nat} {w:aE} (hw:wt w≤13000000) {g:aG} (hg:iC g.aB7)
include hw hg
theorem amK(hf:13000000<fu):l7 fu w g=some (fU w g):=by
 have hl:=U1 hw
 have hr:=OW (fun o=> !rC w g o) (fE w) (fE w).length 0 rfl
 rw [List.drop_zero] at hr
 simp only [Bool.not_not] at hr
 have h:=wG (F:=n5 fu w g (fE w)) (n:=(fE w).length) (g:=fun i=>bif !rC w g (aT (fE w) i) then [] else [aT (fE w) i]) (M:=68719476736) (fun i v hi hv=>by
  have hR:=UJ (cD hi)
  unfold n5
  generalize aT (fE w) i=o at hR hv ⊢
  refine UD hR fun p=>?_
  have hB:=rZ hw hR
  unfold rC at hv ⊢
  cases h1:decide ((b6 w o).aCa=g.aCa) with
  |false=>exact gW rfl (by rw [Bool.false_and,Bool.not_false,cond_true,List.append_nil])
  |true=>
   cases h2:iY (b6 w o).aCh g.aB7 with
   |false=>exact jI rfl (gO hB (gO hg (gW rfl (by rw [Bool.and_false,Bool.not_false,cond_true,List.append_nil]))))
   |true=>
    rw [h1,h2] at hv
    exact jI rfl (gO hB (gO hg (jI rfl (gO hv rfl))))) _ 0 [] rfl (by
  rw [Nat.sub_zero,hr,List.length_nil,Nat.zero_add]
  have:=List.length_filter_le (fun o=>rC w g o) (fE w)
  omega)
 rw [Nat.sub_zero,hr] at h
 unfold l7
 rw [apY fu w (by omega) (aE.small_wt hw hf) (fun i hi=>(aE.len_at hw i hi).2.2)]
 refine(congrArg (fun x=>so x _) h).trans rfl
omit hg in
theorem ai1(i:Nat)(p:aM)(o:aC)(ho:mO w o):
 t2 fu w g (fU w g) i p (b6 w o)=some (.inr (!yK w (fU w g) o)):=by
 unfold t2
 rw [kO (l:=fU w g) (g:=fun v p=>v&& !ET (b6 w p).aCh (b6 w o).aCh) (fun _ _=>True) (fun j v hj _=>⟨?_,trivial⟩) trivial,akM,Bool.true_and]
 ·rfl
 ·have hR:=D4 (cD hj)
  unfold BS
  generalize aT (fU w g) j=r at hR ⊢
  have h1:=rZ hw hR
  have h2:=rZ hw ho
  refine UD hR fun p=>?_
  cases v with
  |true=>exact jI rfl (gO h1 (gO h2 rfl))
  |false=>exact gW rfl rfl
theorem ap2(hf:13000000<fu):qY fu w g=some (f6 w g):=by
 unfold qY
 refine fY (amK hw hg hf) ?_
 unfold f6
 refine(aa4 (l:=fU w g) (p:=fun o=> !yK w (fU w g) o) (r:=DM w g) (b:=(aC.mk 0 0,1)) ?_ rfl).trans (by cases(fU w g).find? (fun o=> !yK w (fU w g) o)<;>rfl)
 refine mR (l:=fU w g) (p:=fun o=> !yK w (fU w g) o) (r:=DM w g) (fun i hi=>?_)
 have hR:=D4 (cD hi)
 unfold BR DM
 generalize aT (fU w g) i=o at hR ⊢
 refine UD hR fun p=>?_;refine X2 (ai1 hw i p o hR) ?_
 unfold BP
 cases yK w (fU w g) o with
 |true=>exact X2 (s:=(false,false,false)) (gW rfl rfl) (gW rfl rfl)
 |false=>
  cases hd:(b6 w o).aCv with
  |false=>exact X2 (s:=(false,false,false)) (jI rfl (gW rfl rfl)) (jI rfl rfl)
  |true=>
   cases hgr:uQ g.aB7 with
   |true=>exact X2 (s:=(true,true,false)) (jI rfl (jI rfl (gO hg (gW rfl rfl)))) (jI rfl rfl)
   |false=>exact soL (jI rfl (jI rfl (gO hg (jI rfl rfl))))
omit hg in
theorem al1(l:List aC)(hl: ∀p∈l,mO w p)(o:aC)(ho:mO w o):cK fu l w (b6 w o)=some (yK w l o):=by
 have h1:dR fu l w (b6 w o)=some (match l.findIdx? (fun p=>ET (b6 w p).aCh (b6 w o).aCh) with|some i=>((i:Nat):Int)|none=> -1):=by
  unfold dR
  rw [xS (l:=l) (p:=fun p=>ET (b6 w p).aCh (b6 w o).aCh) fun i hi=>by
   have hR:=hl _ (cD hi)
   unfold iM sW
   rw [IB fu w _ hR]
   refine fY (gO (rZ hw hR) (gO (rZ hw ho) rfl)) ?_
   show sw (ET (b6 w (aT l i)).aCh (b6 w o).aCh) _ _=_
   cases ET (b6 w (aT l i)).aCh (b6 w o).aCh<;>rfl]
  cases l.findIdx? fun p=>ET (b6 w p).aCh (b6 w o).aCh<;>rfl
 unfold cK
 exact fY h1 (congrArg some QJ)
theorem apJ:qQ fu w g=some (f6 w g):=by
 unfold qQ
 refine gO hw (gO hg ?_)
 unfold f6
 refine(aa4 (l:=fU w g) (p:=fun o=> !yK w (fU w g) o) (r:=DM w g) (b:=(aC.mk 0 0,1)) ?_ rfl).trans (by cases(fU w g).find? (fun o=> !yK w (fU w g) o)<;>rfl)
 rw [show List.filter (fun o=>rC w g o) (fE w)=fU w g from rfl]
 refine mR (l:=fU w g) (p:=fun o=> !yK w (fU w g) o) (r:=DM w g) (fun i hi=>?_)
 have hR:=D4 (cD hi)
 unfold A9 DM
 rw [show List.filter (fun o=>rC w g o) (fE w)=fU w g from rfl]
 generalize aT (fU w g) i=o at hR ⊢
 refine Q0 rfl ?_
 rw [IB fu w o hR]
 show bd (cK fu (fU w g) w (b6 w o)) _=_
 refine fY (al1 hw _ (fun p hp=>D4 hp) o hR) ?_
 show sw _ _ (sw (b6 w o).aCv _ _)=_
 cases yK w (fU w g) o with
 |true=>exact jI rfl rfl
 |false=>
  refine gW rfl ?_
  cases hd:(b6 w o).aCv with
  |false=>exact gW rfl rfl
  |true=>
   refine jI rfl (gO hg ?_)
   cases hgr:uQ g.aB7 with
   |true=>exact gW rfl rfl
   |false=>exact jI rfl rfl
end
end Go.Proofs.YtfcoaagbccmahaaGreat.W

namespace Go.Proofs.YtfcoaagbccmahaaGreat.W
open Go.RowKit Go.WalkArith Go.Proofs
attribute [local irreducible] lt
def X8(Q:aA→Prop)(R:Int→ByteArray→Nat→Prop):Prop:= ∀k n xs,Q (.mk k n xs)↔R k n xs.length∧ ∀x∈xs,Q x
def RU(U:LB)(k:Int)(n:ByteArray)(m:Nat):Prop:=(k=1→n∈U)∧m≤68719476735
theorem l5(U:LB):X8 (Gd U) (RU U):=fun k n xs=>by
 rw [Gd,w6]
 unfold RU
 constructor
 ·rintro⟨h1,h2,h3⟩;exact⟨⟨h1,h2⟩,h3⟩
 ·rintro⟨⟨h1,h2⟩,h3⟩;exact⟨h1,h2,h3⟩
section
variable {Q:aA→Prop} {R:Int→ByteArray→Nat→Prop}
theorem X8.args(hQ:X8 Q R){t:aA}(h:Q t): ∀x∈t.aB4,Q x:=by
 obtain⟨k,n,xs⟩:=t
 exact((hQ k n xs).1 h).2
def BQ(Q:aA→Prop)(l:List aK):Prop:= ∀b∈l,Q b.aB7
theorem BQ.nil:BQ Q []:=fun b hb=>by simp at hb
theorem afJ: ∀(ps:List aA),(∀x∈ps,∀t s s',j0 x t s=some s'→BQ Q s→Q t→BQ Q s')→ ∀ts s s',lW ps ts s=some s'→BQ Q s→(∀t∈ts,Q t)→BQ Q s'
 | [],_,ts,s,s',h,hb,_=>by
  rw [lW] at h
  obtain rfl:=Option.some.inj h
  exact hb
 |p::ps,hp,ts,s,s',h,hb,ht=>by
  cases ts with
  |nil=>simp [lW] at h
  |cons t ts=>
   rw [lW] at h
   cases hq:j0 p t s with
   |none=>rw [hq] at h;cases h
   |some s1=>
    rw [hq] at h
    exact afJ ps (fun x hx=>hp x (List.mem_cons_of_mem _ hx)) ts s1 s' h (hp p (by simp) t s s1 hq hb (ht t (by simp))) (fun x hx=>ht x (List.mem_cons_of_mem _ hx))
theorem anY(hQ:X8 Q R): ∀(p t:aA) (s s':List aK),j0 p t s=some s'→BQ Q s→Q t→BQ Q s':=by
 refine aA.ind fun k n ps ih t s s' h hb ht=>?_
 rw [j0] at h
 split at h
 ·split at h
  ·split at h
   ·obtain rfl:=Option.some.inj h
    exact hb
   ·cases h
  ·obtain rfl:=Option.some.inj h
   intro b hb'
   rcases List.mem_append.1 hb' with h1|h1
   ·exact hb b h1
   ·obtain rfl:=List.mem_singleton.1 h1
    exact ht
 ·split at h
  ·split at h
   ·split at h
    ·exact afJ ps ih _ _ _ h hb (hQ.args ht)
    ·cases h
   ·cases h
  ·cases h
theorem wH(hQ:X8 Q R)(p t:aA)(ht:Q t):BQ Q (eR p t):=by
 unfold eR
 cases hq:j0 p t [] with
 |none=>exact BQ.nil
 |some s=>exact anY hQ p t [] s hq BQ.nil ht
theorem U2(hQ:X8 Q R){l:List aK}(hl:BQ Q l): ∀t,Q t→Q (jU l t):=by
 refine aA.ind fun k n xs ih h=>?_
 have h1:=(hQ k n xs).1 h
 have h2:Q (.mk k n (HW l xs)):=by
  rw [hQ,FK,List.length_map]
  refine⟨h1.1,fun y hy=>?_⟩
  obtain⟨x,hx,rfl⟩:=List.mem_map.1 hy
  exact ih x hx (h1.2 x hx)
 rw [jU]
 split
 ·split
  ·rename_i hk
   unfold II D3 at hk
   unfold DL D3
   cases hq:l.find? fun b=>decide (b.aCH=n) with
   |none=>rw [hq] at hk;cases hk
   |some b=>exact hl b (List.mem_of_find?_eq_some hq)
  ·exact h2
 ·exact h2
end
mutual
def szT:aA→Int
 | .mk _ _ xs=>szL 1 xs
def szL:Int→List aA→Int
 |a,[]=>a
 |a,x::l=>szL (aX (a+szT x)) l
end
theorem XX: ∀(l:List aA) (a:Int),szL a l=l.foldl (fun a x=>aX (a+szT x)) a
 | [],a=>rfl
 |x::l,a=>by rw [szL,XX l,List.foldl_cons]
def U4(vs:LB)(ts:List aA):List aK:=(List.range' 0 vs.length).map fun i=>aK.mk (aT vs i) (aT ts i)
theorem abS{Q:aA→Prop}{vs:LB}{ts:List aA}(hl:vs.length=ts.length)(ht: ∀t∈ts,Q t):BQ Q (U4 vs ts):=fun b hb=>by
 obtain⟨i,hi,rfl⟩:=List.mem_map.1 hb
 rw [List.mem_range'_1] at hi
 exact ht _ (cD (by omega))
theorem Z2{U:LB}(hU:U.length≤68719476736){l:List aK}(h:BQ (Gd U) l):qG l:=fun b hb=>⟨U,hU,h b hb⟩
def P4(n:ByteArray):Bool:=decide (n=eG)||decide (n=eD)
def mK{α:Type}(f:α→Int):List α→Int
 | []=>0
 |t::l=>if f t=0 then mK f l else f t
def t6(w:aE)(t:aA):Bool:=decide (t.aB5=2)&&((KG w t.aB3).2.2&&decide ((KG w t.aB3).1.aCg.length=t.aB4.length))
def yJ(b:Bool)(t:aA):Bool:=decide (t.aB5=2)&&(P4 t.aB3&&(b||decide (t.aB4.length=0)))
def T8(w:aE)(t f:aA):aA:=jU (U4 (KG w t.aB3).1.aCg t.aB4) f
def q9(b:Bool)(w:aE)(l:List aJ)(tr:ByteArray):Nat→List aA→aA→Int
 |0,_,_=>3
 |k+1,op,t=>
  bif yJ b t then 0 else
  bif decide (s5 l (.mk tr t)≥0) then 0 else
  bif !t6 w t then 1 else
  bif op.any (fun u=>aA.eq u t) then 0 else
  bif decide (30<op.length)||decide (szT t>400) then 3 else
  mK (fun c=>mK (fun f=>q9 b w l tr k (op++ [t]) (T8 w t f)) (aD.aCm c)) (KG w t.aB3).1.aB8
def zEv:aH:= .mk 0 0 (.mk 0 0) []
def VZ(out:aH)(n:Int):aH:= .mk 3 n (.mk 0 0) [out]
def ab9(x:aH)(steps:List Int):aH:=steps.foldl VZ x
def G7(f:aG→aH×Int):List aG→List aH→List aH×Int
 | [],out=>(out,0)
 |b::r,out=>if(f b).2=0 then G7 f r (out++ [(f b).1]) else([],(f b).2)
def ao5(l:List aJ)(g:aG):aH:=ab9 (.mk 2 (aT l (s5 l g).toNat).aCF (.mk 0 0) []) (aT l (s5 l g).toNat).aCG
def SF(w:aE)(o:aC)(g b:aG):aG:= .mk b.aCa (jU (eR (b6 w o).aCh g.aB7) b.aB7)
def kS(b:Bool)(w:aE)(l:List aJ):Nat→aG→aH×Int
 |0,g=>bif decide (s5 l g≥0) then(ao5 l g,0) else(zEv,3)
 |k+1,g=>
  bif decide (s5 l g≥0) then(ao5 l g,0) else
  bif (tM w g.aCa).1.aCA then(if q9 b w l g.aCa 32 [] g.aB7=0 then(.mk 5 0 (.mk 0 0) [],0) else(zEv,q9 b w l g.aCa 32 [] g.aB7)) else
  bif decide (g.aB7.aB5=1)||decide (g.aB7.aB5=3) then(zEv,1) else
  bif decide (g.aB7.aB5=4)&&(jS w 8 g.aB7.aB3 g.aCa).2 then(ab9 (.mk 4 0 (.mk 0 0) []) (jS w 8 g.aB7.aB3 g.aCa).1,0) else
  if(f6 w g).2=0 then
   (if(G7 (fun x=>kS b w l k (SF w (f6 w g).1 g x)) (b6 w (f6 w g).1).aCk []).2=0 then
    (.mk 1 0 (f6 w g).1 (G7 (fun x=>kS b w l k (SF w (f6 w g).1 g x)) (b6 w (f6 w g).1).aCk []).1,0)
   else(zEv,(G7 (fun x=>kS b w l k (SF w (f6 w g).1 g x)) (b6 w (f6 w g).1).aCk []).2))
  else(zEv,(f6 w g).2)
structure WQ (Q:aA→Prop) (w:aE):Prop where
 wh: ∀o,mO w o→ ∀b∈(b6 w o).aCk,Q b.aB7
 fl: ∀n,∀c∈(KG w n).1.aB8,∀f∈c.aCm,Q f
 ac: ∀o,mO w o→Q (b6 w o).aCj
def aiQ(x:aI):LB:=(x.aCk.flatMap fun b=>F4 b.aB7)++F4 x.aCj
def amD(d:aN):LB:=d.aB8.flatMap fun c=>c.aCm.flatMap F4
def wI(w:aE):LB:=w.aB2.flatMap fun p=>p.aCe.flatMap aiQ++p.aCb.flatMap amD
theorem A6{α β:Type}[Wt α](f:α→List β)(h: ∀x,(f x).length≤wt x+1): ∀l:List α,(l.flatMap f).length≤wl l
 | []=>Nat.zero_le _
 |x::l=>by
  rw [List.flatMap_cons,List.length_append,ad4]
  have:=h x
  have:=A6 f h l
  omega
theorem acE(t:aA):(F4 t).length≤wt t+1:=by
 have h:=afN t
 rw [NS] at h
 omega
theorem an0(w:aE):(wI w).length≤wt w:=by
 have hI: ∀x:aI,(aiQ x).length≤wt x+1:=fun x=>by
  have h1:=A6 (fun b:aG=>F4 b.aB7) (fun b=>by
   have:=acE b.aB7
   have:=aG.wt_eq b
   show(F4 b.aB7).length≤_
   omega) x.aCk
  have h2:=acE x.aCj
  have h3:=aI.wt_eq x
  unfold aiQ
  rw [List.length_append]
  omega
 have hD: ∀d:aN,(amD d).length≤wt d+1:=fun d=>by
  have h1:=A6 (fun c:aD=>c.aCm.flatMap F4) (fun c=>by
   have h2:=A6 F4 acE c.aCm
   have:=aD.wt_eq c
   show(c.aCm.flatMap F4).length≤_
   omega) d.aB8
  have:=aN.wt_eq d
  unfold amD
  omega
 have h:=A6 (fun p:aM=>p.aCe.flatMap aiQ++p.aCb.flatMap amD) (fun p=>by
  have h1:=A6 aiQ hI p.aCe
  have h2:=A6 amD hD p.aCb
  have:=aM.wt_eq p
  show(p.aCe.flatMap aiQ++p.aCb.flatMap amD).length≤_
  rw [List.length_append]
  omega) w.aB2
 have:=aE.wt_eq w
 unfold wI
 omega
theorem akP(w:aE)(n:ByteArray):(KG w n).1=aN.mk s_ [] []∨ ∃p∈w.aB2,(KG w n).1∈p.aCb:=by
 unfold KG
 cases hq:(List.range' 0 w.aB2.length).findSome? (dQ w n) with
 |none=>exact .inl rfl
 |some r=>
  obtain⟨i,hi,hq⟩:=List.exists_of_findSome?_eq_some hq
  unfold dQ at hq
  obtain⟨k,hk,hq⟩:=List.exists_of_findSome?_eq_some hq
  rw [List.mem_range'_1] at hi hk
  split at hq
  ·cases hq
   exact .inr ⟨_,cD (by omega:i<w.aB2.length),cD (by omega:k<(aT w.aB2 i).aCb.length)⟩
  ·cases hq
theorem VS{w:aE}{o:aC}(h:mO w o): ∃p∈w.aB2,b6 w o∈p.aCe:=by
 obtain⟨i,k,rfl,hi,hk⟩:=h
 exact⟨_,cD hi,cD (l:=(aT w.aB2 i).aCe) hk⟩
theorem WQ.of{Q:aA→Prop}{w:aE}(hI: ∀p∈w.aB2,∀x∈p.aCe,(∀b∈x.aCk,Q b.aB7)∧Q x.aCj)(hD: ∀p∈w.aB2,∀d∈p.aCb,∀c∈d.aB8,∀f∈c.aCm,Q f):WQ Q w where
 wh:=fun o ho=>by obtain⟨p,hp,hx⟩:=VS ho;exact(hI p hp _ hx).1
 fl:=fun n c hc f hf=>by
  rcases akP w n with h|⟨p,hp,hd⟩
  ·rw [h] at hc;simp at hc
  ·exact hD p hp _ hd c hc f hf
 ac:=fun o ho=>by obtain⟨p,hp,hx⟩:=VS ho;exact(hI p hp _ hx).2
theorem vH{w:aE}(hw:wt w≤13000000){V:LB}:WQ (Gd (wI w++V)) w:=by
 have key: ∀t:aA,wt t≤13000000→(∀n∈F4 t,n∈wI w)→Gd (wI w++V) t:=fun t ht hn=>
  (Gd.own t (by rw [NS];omega)).mono (fun n h=>List.mem_append_left _ (hn n h)) t
 have hP: ∀p∈w.aB2,wt p≤13000000:=fun p hp=>by
  have:=aE.wt_eq w
  have:=CB hp
  omega
 refine WQ.of (fun p hp x hx=>?_) (fun p hp d hd c hc f hf=>?_)
 ·have h1:=hP p hp
  have h2:=aM.wt_eq p
  have h3:=CB hx
  have h4:=aI.wt_eq x
  have hin: ∀n∈aiQ x,n∈wI w:=fun n hn=>List.mem_flatMap.2 ⟨p,hp,List.mem_append_left _ (List.mem_flatMap.2 ⟨x,hx,hn⟩)⟩
  refine⟨fun b hb=>key _ ?_ fun n hn=>hin n (List.mem_append_left _ (List.mem_flatMap.2 ⟨b,hb,hn⟩)),key _ (by omega) fun n hn=>hin n (List.mem_append_right _ hn)⟩
  have h5:=CB hb
  have h6:=aG.wt_eq b
  omega
 ·have h1:=hP p hp
  have h2:=aM.wt_eq p
  have h3:=CB hd
  have h4:=aN.wt_eq d
  have h5:=CB hc
  have h6:=aD.wt_eq c
  have h7:=CB hf
  refine key _ (by omega) fun n hn=>List.mem_flatMap.2 ⟨p,hp,List.mem_append_right _ (List.mem_flatMap.2 ⟨d,hd,List.mem_flatMap.2 ⟨c,hc,List.mem_flatMap.2 ⟨f,hf,hn⟩⟩⟩)⟩
theorem akF{Q:aA→Prop}{R:Int→ByteArray→Nat→Prop}(hQ:X8 Q R){w:aE}(hW:WQ Q w){o:aC}(ho:mO w o){g b:aG}(hg:Q g.aB7)(hb:b∈(b6 w o).aCk):Q (SF w o g b).aB7:=
 U2 hQ (wH hQ _ _ hg) _ (hW.wh o ho b hb)
theorem aoS{Q:aA→Prop}{R:Int→ByteArray→Nat→Prop}(hQ:X8 Q R){w:aE}(hW:WQ Q w){t:aA}(ht:Q t)(hc:t6 w t=true){c:aD}(hm:c∈(KG w t.aB3).1.aB8){f:aA}(hf:f∈c.aCm):Q (T8 w t f):=by
 unfold t6 at hc
 rw [Bool.and_eq_true,Bool.and_eq_true,decide_eq_true_eq,decide_eq_true_eq] at hc
 exact U2 hQ (abS hc.2.2 (hQ.args ht)) _ (hW.fl _ c hm f hf)
theorem JV{w:aE}{g:aG}(h:(f6 w g).2=0):mO w (f6 w g).1:=by
 unfold f6 at h ⊢
 cases hq:(fU w g).find? fun o=> !yK w (fU w g) o with
 |none=>rw [hq] at h;cases h
 |some o=>
  rw [hq] at h
  show mO w (DM w g o).1
  replace h:(DM w g o).2=0:=h
  unfold DM at h ⊢
  cases hp:(b6 w o).aCv&& !uQ g.aB7 with
  |true=>rw [hp] at h;cases h
  |false=>exact D4 (List.mem_of_find?_eq_some hq)
end Go.Proofs.YtfcoaagbccmahaaGreat.W

namespace Go.Proofs.YtfcoaagbccmahaaGreat.W
open Go.RowKit Go.WalkArith Go.Proofs
attribute [local irreducible] lt
theorem GB: ∀t:aA,bQ fun fu=>lI fu t=some (szT t):=by
 refine aA.ind fun k n xs ih=>?_;refine bQ.succ ((bQ.list ih).imp fun fu hf=>?_)
 simp only [lI,IR,aA.aB4.eq_1]
 rw [kO (l:=xs) (g:=fun a x=>aX (a+szT x)) (fun _ _=>True) (fun i s hi _=>⟨?_,trivial⟩) trivial,szT,XX]
 ·rfl
 ·rw [O3]
  exact fY (hf _ (cD hi)) rfl
theorem FS: ∀t:aA,bQ fun fu=>lH fu t=some (szT t):=by
 refine aA.ind fun k n xs ih=>?_;refine bQ.succ ((bQ.list ih).imp fun fu hf=>?_)
 simp only [lH,H9,aA.aB4.eq_1]
 rw [kO (l:=xs) (g:=fun a x=>aX (a+szT x)) (fun _ _=>True) (fun i s hi _=>⟨?_,trivial⟩) trivial,szT,XX]
 ·rfl
 ·rw [OF]
  exact fY (hf _ (cD hi)) rfl
mutual
def abC:aH→Prop
 | .mk _ _ _ xs=>xs.length≤68719476735∧aeA xs
def aeA:List aH→Prop
 | []=>True
 |x::l=>abC x∧aeA l
end
theorem Z5: ∀ {l:List aH},aeA l↔ ∀x∈l,abC x
 | []=>by simp [aeA]
 |a::l=>by rw [aeA,Z5 (l:=l)];simp
theorem abV{k n:Int}{o:aC}{xs:List aH}:abC (.mk k n o xs)↔xs.length≤68719476735∧ ∀x∈xs,abC x:=by rw [abC,Z5]
theorem AJ{k n:Int}{o:aC}:abC (.mk k n o []):=abV.2 ⟨by simp,by simp⟩
theorem V2{α β:Type}[Inhabited α]{f:Nat→List α→Option (LR (List α) β)}{l:List α}(hs: ∀i,i<l.length→(l.take i).length=i→f i (l.take i)=some (.next (l.take i++ [aT l i]))):loopN f (l.length-0) 0 []=some (.inr l):=by
 have key: ∀k i,l.length-i=k→i≤l.length→loopN f k i (l.take i)=some (.inr l):=by
  intro k
  induction k with
  |zero=>
   intro i hk hi
   rw [loopN,List.take_of_length_le (by omega)]
  |succ k ih=>
   intro i hk hi
   have h:i<l.length:=by omega
   rw [loopN,hs i h (by rw [List.length_take];omega),← I5 h]
   exact ih (i+1) (by omega) (by omega)
 exact key _ 0 (by omega) (Nat.zero_le _)
theorem aiZ{fu:Nat}{xs:List aH}(hl:xs.length≤68719476735)(hf: ∀x∈xs,kB fu x=some x):lF (fu+1) xs=some xs:=by
 simp only [lF,GK]
 rw [V2 (l:=xs) fun i hi hn=>?_]
 ·rfl
 ·rw [LC]
  exact fY (hf _ (cD hi)) (gO (by rw [hn];simp;omega) rfl)
theorem RD: ∀e:aH,abC e→bQ fun fu=>kB fu e=some e:=by
 refine aH.ind fun k n o xs ih h=>?_
 rw [abV] at h
 refine bQ.succ (bQ.succ ((bQ.list fun x hx=>ih x hx (h.2 x hx)).imp fun fu hf=>?_))
 simp only [kB,M4]
 exact fY (aiZ h.1 hf) rfl
theorem aiJ{fu:Nat}{xs:List aH}(hl:xs.length≤68719476735)(hf: ∀x∈xs,eH fu x=some x):gS (fu+1) xs=some xs:=by
 simp only [gS,vW]
 refine gO (by omega) ?_
 rw [V2 (l:=xs) fun i hi hn=>?_]
 ·exact gO rfl rfl
 ·rw [CN]
  exact fY (hf _ (cD hi)) (gO hn.symm rfl)
theorem QF: ∀e:aH,abC e→bQ fun fu=>eH fu e=some e:=by
 refine aH.ind fun k n o xs ih h=>?_
 rw [abV] at h
 refine bQ.succ (bQ.succ ((bQ.list fun x hx=>ih x hx (h.2 x hx)).imp fun fu hf=>?_))
 simp only [eH,yN]
 exact fY (aiJ h.1 hf) rfl
def D5(e:aH):Int×Int×Int×Int×List aH:=(e.aB5,e.aCL,e.aCt.aCf,e.aCt.aCt,e.aB4)
theorem NT(e:aH):aH.mk (D5 e).1 (D5 e).2.1 (.mk (D5 e).2.2.1 (D5 e).2.2.2.1) (D5 e).2.2.2.2=e:=by
 obtain⟨k,n,⟨p,a⟩,xs⟩:=e
 rfl
theorem aaH{β:Type}{f:Nat→(Int×Int×Int×Int×List aH)→Option (LR (Int×Int×Int×Int×List aH) β)}{l:List Int}(hs: ∀i e,i<l.length→f i (D5 e)=some (.next (D5 (VZ e (aT l i)))))(e:aH):loopN f (l.length-0) 0 (D5 e)=some (.inr (D5 (ab9 e l))):=by
 have key: ∀k i e,l.length-i=k→i≤l.length→loopN f k i (D5 e)=some (.inr (D5 (ab9 e (l.drop i)))):=by
  intro k
  induction k with
  |zero=>
   intro i e hk hi
   rw [loopN,List.drop_of_length_le (by omega)]
   rfl
  |succ k ih=>
   intro i e hk hi
   have h:i<l.length:=by omega
   rw [loopN,hs i e h,oT h]
   exact ih (i+1) _ (by omega) (by omega)
 have:=key _ 0 e rfl (Nat.zero_le _)
 rwa [List.drop_zero] at this
theorem WK{fu:Nat}{e:aH}(h:kB fu e=some e)(l:List Int):jG fu e l=some (ab9 e l):=by
 unfold jG
 refine fY h ?_
 rw [show(e.aB5,e.aCL,e.aCt.aCf,e.aCt.aCt,e.aB4)=D5 e from rfl,aaH (l:=l) fun i e' hi=>by rw [xV,NT];rfl]
 exact congrArg some (NT _)
theorem VG{fu:Nat}{e:aH}(h:eH fu e=some e)(l:List Int):gY fu e l=some (ab9 e l):=by
 unfold gY
 refine fY h ?_
 rw [show(e.aB5,e.aCL,e.aCt.aCf,e.aCt.aCt,e.aB4)=D5 e from rfl,aaH (l:=l) fun i e' hi=>by rw [xK,NT];rfl]
 exact congrArg some (NT _)
structure awG (l:List aH):Prop where
 n:l.length≤68719476735
 v: ∀x∈l,abC x
end Go.Proofs.YtfcoaagbccmahaaGreat.W

namespace Go.Proofs.YtfcoaagbccmahaaGreat.W
open Go.RowKit Go.WalkArith Go.Proofs
attribute [local irreducible] lt KG
theorem ai0(fu:Nat)(a b:aG):zX fu a b=some (aG.eq a b):=by
 obtain⟨n,x⟩:=a
 obtain⟨m,y⟩:=b
 unfold zX
 rw [aG.eq,P3]
 show sw (decide (n=m)) (some (aA.eq x y)) (some false)=_
 cases decide (n=m)<;>rfl
theorem bQ.succ'{P:Nat→Prop}(h:bQ P):bQ fun n=>P (n+1):=by
 obtain⟨a,h⟩:=h
 exact⟨a,fun n hn=>h (n+1) (by omega)⟩
theorem RF(fu:Nat)(l:List aJ)(g:aG):kX fu l g=some (s5 l g):=by
 unfold kX s5
 rw [xS (p:=fun a=>aG.eq a.aCy g) (fun i hi=>by
  unfold BL
  refine Q0 rfl ?_
  rw [ai0]
  show sw (aG.eq (aT l i).aCy g) _ _=_
  cases aG.eq (aT l i).aCy g<;>rfl)]
 cases l.findIdx? fun a=>aG.eq a.aCy g<;>rfl
theorem UC{l:List aJ}{g:aG}(h:s5 l g≥0):(s5 l g).toNat<l.length:=by
 unfold s5 at h ⊢
 cases hq:l.findIdx? fun a=>aG.eq a.aCy g with
 |none=>rw [hq] at h;exact absurd h (by decide)
 |some i=>
  rw [List.findIdx?_eq_some_iff_getElem] at hq
  exact hq.1
theorem NQ{α β:Type}[Inhabited α]{f:α→Int}{l:List α}{F:Nat→Unit→Option (LR Unit β)}(g:Int→β)(hs: ∀i,i<l.length→F i ()=some (if f (aT l i)=0 then .next () else .ret (g (f (aT l i))))):loopN F (l.length-0) 0 ()=some (if mK f l=0 then .inr () else .inl (g (mK f l))):=by
 have key: ∀k i,l.length-i=k→loopN F k i ()=some (if mK f (l.drop i)=0 then .inr () else .inl (g (mK f (l.drop i)))):=by
  intro k
  induction k with
  |zero=>
   intro i hk
   rw [loopN,List.drop_of_length_le (by omega)]
   rfl
  |succ k ih=>
   intro i hk
   have h:i<l.length:=by omega
   rw [loopN,hs i h,oT h,mK]
   by_cases h0:f (aT l i)=0
   ·rw [if_pos h0,if_pos h0]
    exact ih (i+1) (by omega)
   ·rw [if_neg h0,if_neg h0,if_neg h0]
 have:=key _ 0 rfl
 rwa [List.drop_zero] at this
theorem aoQ{x:Int}:so (some (if x=0 then(.inr ():Int⊕Unit) else .inl x)) (fun _=>some 0)=some x:=by
 by_cases h:x=0
 ·rw [if_pos h,h];rfl
 ·rw [if_neg h];rfl
theorem ak6{x:Int}:so (some (if x=0 then(.inr ():(LR Unit Int)⊕Unit) else .inl (.ret x))) (fun _=>some (.next ()))=some (if x=0 then(.next ():LR Unit Int) else .ret x):=by
 by_cases h:x=0
 ·rw [if_pos h,if_pos h];rfl
 ·rw [if_neg h,if_neg h];rfl
theorem aoV{x:Int}:sw (!decide (x=0)) (some (.ret (.ret x))) (some (.next ()))=some (if x=0 then(.next ():LR Unit (LR Unit Int)) else .ret (.ret x)):=by
 by_cases h:x=0
 ·rw [if_pos h];exact gW (by simp [h]) rfl
 ·rw [if_neg h];exact jI (by simp [h]) rfl
theorem sw3{α:Type}{b1 b2 b3 c:Bool}{x y z:α}(h:(b1&&(b2&&b3))=c)(k:(bif !c then x else y)=z):sw (!b1) x (sw (!b2) x (sw (!b3) x y))=z:=by
 subst h
 rw [← k]
 cases b1<;>cases b2<;>cases b3<;>rfl
theorem abT(w:aE)(t:aA):(decide ((t.aB5:Int)=2)&&((KG w t.aB3).2.2&&decide ((((KG w t.aB3).1.aCg.length:Nat):Int)=((t.aB4.length:Nat):Int))))=t6 w t:=
 congrArg (fun b=>decide (t.aB5=2)&&((KG w t.aB3).2.2&&b)) (decide_eq_decide.2 Int.ofNat_inj)
theorem Z1{β:Type}{vs:LB}{ts:List aA}(hv:vs.length≤68719476736){F:Nat→List aK→Option (LR (List aK) β)}(hs: ∀i v,i<vs.length→v.length+1≤68719476736→F i v=some (.next (v++ [aK.mk (aT vs i) (aT ts i)]))):loopN F (vs.length-0) 0 []=some (.inr (U4 vs ts)):=by
 have h:=ES (F:=F) (g:=fun i=>aK.mk (aT vs i) (aT ts i)) (n:=vs.length) (M:=68719476736) hs (vs.length-0) 0 [] rfl (by rw [List.length_nil];omega)
 rw [List.nil_append] at h
 exact h
theorem alZ(fu:Nat){vs:LB}{ts:List aA}(hl:vs.length=ts.length)(hv:vs.length≤68719476736):OI fu vs ts=some (U4 vs ts):=by
 unfold OI
 rw [show min vs.length ts.length=vs.length by omega,Z1 (ts:=ts) hv fun i v hi hn=>by
  unfold aaA
  exact gO hi (gO (by omega) (gO (by simpa using hn) rfl))]
 rfl
theorem ae5(fu:Nat)(l:List aA)(t:aA):gP fu l t=some (l.any fun u=>aA.eq u t):=by
 have h1:iT fu l t=some (match l.findIdx? (fun u=>aA.eq u t) with|some i=>((i:Nat):Int)|none=> -1):=by
  unfold iT
  rw [xS (l:=l) (p:=fun u=>aA.eq u t) fun i hi=>by
   unfold oU L8
   show sw (aA.eq (aT l i) t) _ _=_
   cases aA.eq (aT l i) t<;>rfl]
  cases l.findIdx? fun u=>aA.eq u t<;>rfl
 unfold gP
 exact fY h1 (congrArg some QJ)
theorem ae3(fu:Nat)(r:BD)(q:bG)(tr:ByteArray)(t:aA)(op:List aA):QO fu r q tr t op=some (bif yJ false t then .inl 0 else .inr ()):=by
 unfold QO FU yJ P4
 rw [show decide ((((t.aB4.length:Nat):Int):Int)=0)=decide (t.aB4.length=0) from decide_eq_decide.2 (by omega)]
 cases decide (t.aB5=2)<;>cases decide (t.aB3=eG)<;>cases decide (t.aB3=eD)<;>cases decide (t.aB4.length=0)<;>rfl
theorem afX(fu:Nat)(r:oH)(w:aE)(l:List aJ)(g:aG)(op:List aA):I1 fu r w l g op=some (bif yJ true g.aB7 then .inl 0 else bif decide (s5 l g≥0) then .inl 0 else .inr ()):=by
 unfold I1 AW yJ P4
 rw [RF]
 cases decide (g.aB7.aB5=2)<;>cases decide (g.aB7.aB3=eG)<;>cases decide (g.aB7.aB3=eD)<;>cases h:decide (s5 l g≥0)<;>simp [sw,bd,h]
section
variable {U:LB} (hU:U.length≤68719476736) {w:aE} (hw:wt w≤13000000) (hW:WQ (Gd U) w) (l:List aJ) (tr:ByteArray)
include hU hw hW
theorem ahN{n:ByteArray}:(KG w n).1.aCg.length≤68719476736:=by
 have _:=hU;have _:=hW
 rcases akP w n with h|⟨p,hp,hd⟩
 ·rw [h];simp
 ·have:=aE.wt_eq w
  have:=CB hp
  have:=aM.wt_eq p
  have:=CB hd
  have:=aN.wt_eq (KG w n).1
  have:=aZ (KG w n).1.aCg
  omega
theorem aoT{M:Nat→aA→Option Int}{f:aA→Int}{t:aA}(ht:Gd U t)(h: ∀x,Gd U x→bQ fun fu=>M fu x=some (f x)):bQ fun fu=>t6 w t=true→ ∀c∈(KG w t.aB3).1.aB8,∀x∈c.aCm,M fu (T8 w t x)=some (f (T8 w t x)):=by
 have _:=hU;have _:=hw
 by_cases hc:t6 w t=true
 ·exact(bQ.list (l:=(KG w t.aB3).1.aB8) (P:=fun c fu=> ∀x∈c.aCm,M fu (T8 w t x)=some (f (T8 w t x))) fun c hm=>bQ.list fun x hx=>h _ (aoS (l5 U) hW ht hc hm hx)).imp fun fu h _=>h
 ·exact .all fun fu hk=>absurd hk hc
theorem anT: ∀(k:Nat) (op:List aA) (t:aA),op.length+k=31→Gd U t→bQ fun fu=>rJ fu (bG.mk w l) tr t op=some (q9 false w l tr (k+1) op t):=by
 intro k
 induction k with
 |zero=>
  intro op t hk ht
  refine bQ.succ ((FS t).imp fun fu hs=>?_)
  rw [rJ,q9]
  unfold OO
  rw [ae3]
  cases h1:yJ false t with
  |true=>rfl
  |false=>
   refine X2 rfl (fY (JH fu l _) ?_)
   cases h2:decide (s5 l (.mk tr t)≥0) with
   |true=>exact jI rfl rfl
   |false=>
    refine gW rfl (fY (ae8 fu w t.aB3) (sw3 (c:=t6 w t) (abT w t) ?_))
    cases h3:t6 w t with
    |false=>rfl
    |true=>
     refine fY (ae5 fu op t) ?_
     cases h4:op.any fun u=>aA.eq u t with
     |true=>rfl
     |false=>
      rw [decide_eq_true (show 30<op.length by omega)]
      exact gW rfl (jI (decide_eq_true (by omega)) rfl)
 |succ k ih=>
  intro op t hk ht
  have hsub:=aoT (w:=w) hU hw hW (M:=fun fu x=>rJ fu (bG.mk w l) tr x (op++ [t])) (f:=fun x=>q9 false w l tr (k+1) (op++ [t]) x) ht fun x hx=>ih (op++ [t]) x (by rw [List.length_append,List.length_singleton];omega) hx
  refine bQ.succ (((FS t).and hsub).imp fun fu hf=>?_)
  obtain⟨hs,hf⟩:=hf
  rw [rJ,q9]
  unfold OO
  rw [ae3]
  cases h1:yJ false t with
  |true=>rfl
  |false=>
   refine X2 rfl (fY (JH fu l _) ?_)
   cases h2:decide (s5 l (.mk tr t)≥0) with
   |true=>exact jI rfl rfl
   |false=>
    refine gW rfl (fY (ae8 fu w t.aB3) (sw3 (c:=t6 w t) (abT w t) ?_))
    cases h3:t6 w t with
    |false=>rfl
    |true=>
     refine fY (ae5 fu op t) ?_
     cases h4:op.any fun u=>aA.eq u t with
     |true=>rfl
     |false=>
      rw [decide_eq_false (show ¬30<op.length by omega)]
      refine gW rfl (gW (decide_eq_false (by omega)) (fY hs ?_))
      cases h5:decide (szT t>400) with
      |true=>exact jI rfl rfl
      |false=>
       have hl:(KG w t.aB3).1.aCg.length=t.aB4.length:=by
        have:=h3
        unfold t6 at this
        rw [Bool.and_eq_true,Bool.and_eq_true,decide_eq_true_eq,decide_eq_true_eq] at this
        exact this.2.2
       refine gW rfl (fY (alZ fu hl (ahN hU hw hW)) (gO (by omega) (gO (by rw [List.length_singleton];omega) ?_)))
       have hb:qG (U4 (KG w t.aB3).1.aCg t.aB4):=Z2 hU (abS hl ((l5 U).args ht))
       rw [NQ (l:=(KG w t.aB3).1.aB8) (f:=fun c=>mK (fun x=>q9 false w l tr (k+1) (op++ [t]) (T8 w t x)) c.aCm) (fun x=>x) fun i hi=>?_]
       ·exact aoQ
       ·unfold aaC
        have hc:=cD hi
        have hf2:=hf h3 _ hc
        have hg2:=fun x hx=>hW.fl t.aB3 _ hc x hx
        generalize hgc:aT (KG w t.aB3).1.aB8 i=c at hf2 hg2 ⊢
        rw [NQ (l:=c.aCm) (f:=fun x=>q9 false w l tr (k+1) (op++ [t]) (T8 w t x)) (fun x=> .ret x) fun j hj=>?_]
        ·exact ak6
        ·unfold aaD
         rw [hgc]
         refine gO hb (gO ⟨U,hU,hg2 _ (cD hj)⟩ (fY (hf2 _ (cD hj)) aoV))
theorem aoE: ∀(k:Nat) (op:List aA) (t:aA),op.length+k=31→Gd U t→(∀u∈op,t6 w u=true)→bQ fun fu=>kC fu w l (.mk tr t) op=some (q9 true w l tr (k+1) op t):=by
 intro k
 induction k with
 |zero=>
  intro op t hk ht ho
  refine bQ.succ (((GB t).and (bQ.ge 13000001)).imp fun fu hs=>?_)
  rw [kC,q9]
  unfold GL
  rw [afX]
  cases h1:yJ true t with
  |true=>simp only [aG.aB7.eq_1,h1];rfl
  |false=>
   simp only [aG.aB7.eq_1,h1]
   cases h2:decide (s5 l (.mk tr t)≥0) with
   |true=>rfl
   |false=>
    refine X2 rfl ?_
    rw [mR (l:=op) (p:=fun u=>aA.eq u t) (r:=fun _=>0) (fun i hi=>by unfold I2;show sw (aA.eq (aT op i) t) _ _=_;cases aA.eq (aT op i) t<;>rfl)]
    cases h4:op.find? fun u=>aA.eq u t with
    |some u=>
     have hm:=List.mem_of_find?_eq_some h4
     have he:=(aA.eq_iff _ _).1 (List.find?_some (p:=fun u=>aA.eq u t) h4)
     have hc:=ho u hm
     rw [he] at hc
     rw [hc,List.any_eq_true.2 ⟨u,hm,List.find?_some (p:=fun u=>aA.eq u t) h4⟩]
     rfl
    |none=>
     rw [show op.any (fun u=>aA.eq u t)=false from List.any_eq_false.2 fun u hu=>List.find?_eq_none.1 h4 u hu]
     refine X2 rfl (fY (WE fu w t.aB3 (aE.small_wt hw (by omega))) (sw3 (c:=t6 w t) (abT w t) ?_))
     cases h3:t6 w t with
     |false=>rfl
     |true=>
      rw [decide_eq_true (show 30<op.length by omega)]
      exact jI (decide_eq_true (by omega)) rfl
 |succ k ih=>
  intro op t hk ht ho
  have hsub:bQ fun fu=>t6 w t=true→ ∀c∈(KG w t.aB3).1.aB8,∀x∈c.aCm,kC fu w l (.mk tr (T8 w t x)) (op++ [t])=some (q9 true w l tr (k+1) (op++ [t]) (T8 w t x)):=by
   by_cases hc:t6 w t=true
   ·refine aoT (w:=w) hU hw hW (M:=fun fu x=>kC fu w l (.mk tr x) (op++ [t])) (f:=fun x=>q9 true w l tr (k+1) (op++ [t]) x) ht fun x hx=>ih (op++ [t]) x (by rw [List.length_append,List.length_singleton];omega) hx fun u hu=>?_
    rcases List.mem_append.1 hu with h|h
    ·exact ho u h
    ·rw [List.mem_singleton.1 h];exact hc
   ·exact .all fun fu h=>absurd h hc
  refine bQ.succ ((((GB t).and (bQ.ge 13000001)).and hsub).imp fun fu hf=>?_)
  obtain⟨⟨hs,hfu⟩,hf⟩:=hf
  rw [kC,q9]
  unfold GL
  rw [afX]
  cases h1:yJ true t with
  |true=>simp only [aG.aB7.eq_1,h1];rfl
  |false=>
   simp only [aG.aB7.eq_1,h1]
   cases h2:decide (s5 l (.mk tr t)≥0) with
   |true=>rfl
   |false=>
    refine X2 rfl ?_
    rw [mR (l:=op) (p:=fun u=>aA.eq u t) (r:=fun _=>0) (fun i hi=>by unfold I2;show sw (aA.eq (aT op i) t) _ _=_;cases aA.eq (aT op i) t<;>rfl)]
    cases h4:op.find? fun u=>aA.eq u t with
    |some u=>
     have hm:=List.mem_of_find?_eq_some h4
     have he:=(aA.eq_iff _ _).1 (List.find?_some (p:=fun u=>aA.eq u t) h4)
     have hc:=ho u hm
     rw [he] at hc
     rw [hc,List.any_eq_true.2 ⟨u,hm,List.find?_some (p:=fun u=>aA.eq u t) h4⟩]
     rfl
    |none=>
     rw [show op.any (fun u=>aA.eq u t)=false from List.any_eq_false.2 fun u hu=>List.find?_eq_none.1 h4 u hu]
     refine X2 rfl (fY (WE fu w t.aB3 (aE.small_wt hw (by omega))) (sw3 (c:=t6 w t) (abT w t) ?_))
     cases h3:t6 w t with
     |false=>rfl
     |true=>
      rw [decide_eq_false (show ¬30<op.length by omega)]
      refine gW (decide_eq_false (by omega)) (fY hs ?_)
      cases h5:decide (szT t>400) with
      |true=>exact jI rfl rfl
      |false=>
       have hl:(KG w t.aB3).1.aCg.length=t.aB4.length:=by
        have:=h3
        unfold t6 at this
        rw [Bool.and_eq_true,Bool.and_eq_true,decide_eq_true_eq,decide_eq_true_eq] at this
        exact this.2.2
       have hb:qG (U4 (KG w t.aB3).1.aCg t.aB4):=Z2 hU (abS hl ((l5 U).args ht))
       refine gW rfl (X2 (s:=U4 (KG w t.aB3).1.aCg t.aB4) (Z1 (ts:=t.aB4) (ahN hU hw hW) fun i v hi hn=>?_) (gO (by rw [List.length_nil];omega) (gO (by simp only [List.nil_append,List.length_singleton];omega) ?_)))
       ·unfold S2
        exact gO (by show i<t.aB4.length;omega) (gO (by simpa using hn) rfl)
       ·rw [NQ (l:=(KG w t.aB3).1.aB8) (f:=fun c=>mK (fun x=>q9 true w l tr (k+1) (op++ [t]) (T8 w t x)) c.aCm) (fun x=>x) fun i hi=>?_]
        ·exact aoQ
        ·unfold S3
         have hc:=cD hi
         have hf2:=hf h3 _ hc
         have hg2:=fun x hx=>hW.fl t.aB3 _ hc x hx
         generalize hgc:aT (KG w t.aB3).1.aB8 i=c at hf2 hg2 ⊢
         rw [NQ (l:=c.aCm) (f:=fun x=>q9 true w l tr (k+1) (op++ [t]) (T8 w t x)) (fun x=> .ret x) fun j hj=>?_]
         ·exact ak6
         ·unfold S4
          rw [hgc]
          refine gO hb (gO ⟨U,hU,hg2 _ (cD hj)⟩ (fY (hf2 _ (cD hj)) aoV))
end
end Go.Proofs.YtfcoaagbccmahaaGreat.W

namespace Go.Proofs.YtfcoaagbccmahaaGreat.W
open Go.RowKit Go.WalkArith Go.Proofs
attribute [local irreducible] lt KG tM
theorem aeS{f:aG→aH×Int}{l:List aG}{F:Nat→List aH→Option (LR (List aH) (aH×Int))}(hl:l.length≤68719476736)(hs: ∀i v,i<l.length→v.length=i→F i v=some (if(f (aT l i)).2=0 then .next (v++ [(f (aT l i)).1]) else .ret (zEv,(f (aT l i)).2))):loopN F (l.length-0) 0 []=some (if(G7 f l []).2=0 then .inr (G7 f l []).1 else .inl (zEv,(G7 f l []).2)):=by
 have key: ∀k i v,l.length-i=k→i≤l.length→v.length=i→loopN F k i v=some (if(G7 f (l.drop i) v).2=0 then .inr (G7 f (l.drop i) v).1 else .inl (zEv,(G7 f (l.drop i) v).2)):=by
  intro k
  induction k with
  |zero=>
   intro i v hk hi hv
   rw [loopN,List.drop_of_length_le (by omega)]
   rfl
  |succ k ih=>
   intro i v hk hi hv
   have h:i<l.length:=by omega
   rw [loopN,hs i v h hv,oT h,G7]
   by_cases h0:(f (aT l i)).2=0
   ·rw [if_pos h0,if_pos h0]
    exact ih (i+1) _ (by omega) (by omega) (by rw [List.length_append,List.length_singleton];omega)
   ·rw [if_neg h0,if_neg h0,if_neg h0]
 have:=key _ 0 [] rfl (Nat.zero_le _) rfl
 rwa [List.drop_zero] at this
theorem aoU{v:List aH}{x:aH}{c:Int}{i:Nat}(hn:v.length=i)(hi:i+1≤68719476736):sw (!decide (c=0)) (some (.ret (zEv,c))) (gd (v.length+([x]:List aH).length≤68719476736) (some (.next (v++ [x]))))=some (if c=0 then(.next (v++ [x]):LR (List aH) (aH×Int)) else .ret (zEv,c)):=by
 by_cases h:c=0
 ·rw [if_pos h];exact gW (by simp [h]) (gO (by rw [List.length_singleton];omega) rfl)
 ·rw [if_neg h];exact jI (by simp [h]) rfl
theorem aoP{r:List aH×Int}{o:aC}:so (some (if r.2=0 then(.inr r.1:(aH×Int)⊕List aH) else .inl (zEv,r.2))) (fun v=>some (aH.mk 1 0 o v,0))=some (if r.2=0 then(aH.mk 1 0 o r.1,0) else(zEv,r.2)):=by
 by_cases h:r.2=0
 ·rw [if_pos h,if_pos h];rfl
 ·rw [if_neg h,if_neg h];rfl
theorem nd0{c:Int}(h:c=0):(!decide (c=0))=false:=by rw [decide_eq_true h];rfl
theorem nd1{c:Int}(h: ¬c=0):(!decide (c=0))=true:=by rw [decide_eq_false h];rfl
theorem ahM{w:aE}{n:ByteArray}(h:(tM w n).1.aCA=true):(tM w n).2.2=true:=by
 unfold tM at h ⊢
 cases hq:(List.range' 0 w.aB2.length).findSome? (tQ w n) with
 |none=>rw [hq] at h;cases h
 |some r=>
  obtain⟨i,hi,hq⟩:=List.exists_of_findSome?_eq_some hq
  unfold tQ at hq
  obtain⟨k,hk,hq⟩:=List.exists_of_findSome?_eq_some hq
  split at hq
  ·cases hq;rfl
  ·cases hq
section
variable {U:LB} (hU:U.length≤68719476736) {w:aE} (hw:wt w≤13000000) (hW:WQ (Gd U) w) (l:List aJ)
include hU hw hW
theorem al2: ∀(k:Nat) (n:Int),n+k=12→0≤n→ ∀g:aG,Gd U g.aB7→bQ fun fu=>lM fu (bG.mk w l) g n=some (kS false w l k g):=by
 intro k
 induction k with
 |zero=>
  intro n hk hn g hg
  refine bQ.succ ((QF (.mk 2 (aT l (s5 l g).toNat).aCF (.mk 0 0) []) AJ).imp fun fu hs=>?_)
  rw [lM,kS]
  unfold JK
  refine fY (JH fu l g) ?_
  cases h2:decide (s5 l g≥0) with
  |true=>exact jI rfl (gO ⟨of_decide_eq_true h2,UC (of_decide_eq_true h2)⟩ (Q0 rfl (fY (VG hs _) rfl)))
  |false=>exact gW rfl (jI (decide_eq_true (by omega)) rfl)
 |succ k ih=>
  intro n hk hn g hg
  have hg':iC g.aB7:=⟨U,hU,hg⟩
  have hsub:bQ fun fu=>(f6 w g).2=0→ ∀b∈(b6 w (f6 w g).1).aCk,lM fu (bG.mk w l) (SF w (f6 w g).1 g b) (n+1)=some (kS false w l k (SF w (f6 w g).1 g b)):=by
   by_cases hs:(f6 w g).2=0
   ·exact(bQ.list fun b hb=>ih (n+1) (by omega) (by omega) _ (akF (l5 U) hW (JV hs) hg hb)).imp fun fu h _=>h
   ·exact .all fun fu h=>absurd h hs
  refine bQ.succ (((((QF (.mk 2 (aT l (s5 l g).toNat).aCF (.mk 0 0) []) AJ).and (QF (.mk 4 0 (.mk 0 0) []) AJ)).and (anT hU hw hW l g.aCa 31 [] g.aB7 rfl hg)).and (hsub.and (bQ.ge 100))).imp fun fu hf=>?_)
  obtain⟨⟨⟨hs,hs4⟩,hau⟩,hf,hfu⟩:=hf
  rw [lM,kS]
  unfold JK
  refine fY (JH fu l g) ?_
  cases h2:decide (s5 l g≥0) with
  |true=>exact jI rfl (gO ⟨of_decide_eq_true h2,UC (of_decide_eq_true h2)⟩ (Q0 rfl (fY (VG hs _) rfl)))
  |false=>
   refine gW rfl (gW (decide_eq_false (by omega)) ?_)
   unfold VU
   cases h3:(tM w g.aCa).1.aCA with
   |true=>
    rw [cond_false,cond_true]
    by_cases h4:q9 false w l g.aCa 32 [] g.aB7=0
    ·rw [if_pos h4]
     exact soL (fY (EP fu w g.aCa) (jI (ahM h3) (jI h3 (fY hau (gW (nd0 h4) rfl)))))
    ·rw [if_neg h4]
     exact soL (fY (EP fu w g.aCa) (jI (ahM h3) (jI h3 (fY hau (jI (nd1 h4) rfl)))))
   |false=>
    rw [cond_false,cond_false]
    refine X2 (s:=((tM w g.aCa).1.aB3,(tM w g.aCa).1.aCc,(tM w g.aCa).1.aCA,(tM w g.aCa).1.aCj,(tM w g.aCa).1.aCp)) (fY (EP fu w g.aCa) ?_) ?_
    ·show sw (tM w g.aCa).2.2 (sw (tM w g.aCa).1.aCA _ _) _=_
     cases(tM w g.aCa).2.2 with
     |true=>exact jI rfl (gW h3 rfl)
     |false=>exact gW rfl rfl
    ·show so (L9 fu _ (bG.mk w l) g n (s5 l g) _ _ _ _ _) _=_
     unfold L9
     have hC3: ∀r a1 a2 a3 a4 a5,MA fu r (bG.mk w l) g n (s5 l g) a1 a2 a3 a4 a5=some (.inr (decide (g.aB7.aB5=1)||decide (g.aB7.aB5=3))):=fun r a1 a2 a3 a4 a5=>by
      unfold MA
      cases decide (g.aB7.aB5=1)<;>rfl
     rw [hC3]
     cases h4:decide (g.aB7.aB5=1)||decide (g.aB7.aB5=3) with
     |true=>rfl
     |false=>
      rw [cond_false]
      have hP:=ae6 fu hfu w g.aB7.aB3 g.aCa
      have hC2: ∀(X:Unit→Option (aH×Int)) (R:aH×Int),X ()=some R→so (so (some (.inr false:((aH×Int)⊕Unit)⊕Bool)) (fun v24=>sw v24 (some (.inl ((aH.mk 0 0 (aC.mk 0 0) [],1):aH×Int))) (sw (decide ((g.aB7.aB5:Int)=4)) (bd (kV fu w g.aB7.aB3 g.aCa) (fun(x29,x30)=>sw (x30) (bd (gY fu (aH.mk 4 0 (aC.mk 0 0) []) x29) (fun x33=>some (.inl (x33,0)))) (some (.inr ())))) (some (.inr ()))))) X=some (bif decide (g.aB7.aB5=4)&&(jS w 8 g.aB7.aB3 g.aCa).2 then(ab9 (.mk 4 0 (.mk 0 0) []) (jS w 8 g.aB7.aB3 g.aCa).1,0) else R):=fun X R hX=>by
       cases h5:decide (g.aB7.aB5=4) with
       |false=>exact hX
       |true=>
        rw [hP]
        show so (sw (jS w 8 g.aB7.aB3 g.aCa).2 (bd (gY fu _ (jS w 8 g.aB7.aB3 g.aCa).1) _) _) _=_
        cases h6:(jS w 8 g.aB7.aB3 g.aCa).2 with
        |false=>exact hX
        |true=>exact soL (jI rfl (fY (VG hs4 _) rfl))
      refine hC2 _ _ (fY (apJ hw hg') ?_)
      by_cases h7:(f6 w g).2=0
      ·rw [if_pos h7]
       have hR:=JV h7
       have hf:=hf h7
       refine gW (nd0 h7) (fY (IB fu w (f6 w g).1 hR) (gO (rZ hw hR) (gO hg' ?_)))
       have h1:=ab5 hw hR
       have h2:=aI.wt_eq (b6 w (f6 w g).1)
       have h3:=aZ (b6 w (f6 w g).1).aCk
       rw [aeS (l:=(b6 w (f6 w g).1).aCk) (f:=fun x=>kS false w l k (SF w (f6 w g).1 g x)) (by omega) fun i v hi hv=>?_]
       ·exact aoP
       ·unfold VV
        have hm:=cD hi
        refine gO (Z2 hU (wH (l5 U) _ _ hg)) (gO ⟨U,hU,hW.wh _ hR _ hm⟩ ?_)
        rw [DA (by omega) (by omega)]
        exact fY (hf _ hm) (aoU hv (by omega))
      ·rw [if_neg h7]
       exact jI (nd1 h7) rfl
theorem amL: ∀(k:Nat),k≤12→ ∀g:aG,Gd U g.aB7→bQ fun fu=>iS fu w l g (k:Int)=some (kS true w l k g):=by
 intro k
 induction k with
 |zero=>
  intro hk g hg
  refine bQ.succ ((RD (.mk 2 (aT l (s5 l g).toNat).aCF (.mk 0 0) []) AJ).imp fun fu hs=>?_)
  rw [iS,kS]
  unfold C6
  refine fY (RF fu l g) ?_
  cases h2:decide (s5 l g≥0) with
  |true=>exact jI rfl (gO ⟨of_decide_eq_true h2,UC (of_decide_eq_true h2)⟩ (Q0 rfl (fY (WK hs _) rfl)))
  |false=>exact gW rfl (jI (decide_eq_true (by omega)) rfl)
 |succ k ih=>
  intro hk g hg
  have hg':iC g.aB7:=⟨U,hU,hg⟩
  have hsub:bQ fun fu=>(f6 w g).2=0→ ∀b∈(b6 w (f6 w g).1).aCk,iS fu w l (SF w (f6 w g).1 g b) (k:Int)=some (kS true w l k (SF w (f6 w g).1 g b)):=by
   by_cases hs:(f6 w g).2=0
   ·exact(bQ.list fun b hb=>ih (by omega) _ (akF (l5 U) hW (JV hs) hg hb)).imp fun fu h _=>h
   ·exact .all fun fu h=>absurd h hs
  refine bQ.succ (bQ.succ ((hsub.and (bQ.ge 27000000)).imp2 (bQ.succ' (((RD (.mk 2 (aT l (s5 l g).toNat).aCF (.mk 0 0) []) AJ).and (RD (.mk 4 0 (.mk 0 0) []) AJ)).and (aoE hU hw hW l g.aCa 31 [] g.aB7 rfl hg (by simp)))) fun fu hf hf1=>?_))
  obtain⟨hf,hfu⟩:=hf
  obtain⟨⟨hs,hs4⟩,hau⟩:=hf1
  have hau':kC (fu+1) w l g []=some (q9 true w l g.aCa 32 [] g.aB7):=by cases g;exact hau
  have hI:oJ (fu+1) w l g ((k+1:Nat):Int)=some (if(f6 w g).2=0 then(if(G7 (fun x=>kS true w l k (SF w (f6 w g).1 g x)) (b6 w (f6 w g).1).aCk []).2=0 then(aH.mk 1 0 (f6 w g).1 (G7 (fun x=>kS true w l k (SF w (f6 w g).1 g x)) (b6 w (f6 w g).1).aCk []).1,0) else(zEv,(G7 (fun x=>kS true w l k (SF w (f6 w g).1 g x)) (b6 w (f6 w g).1).aCk []).2)) else(zEv,(f6 w g).2)):=by
   rw [oJ]
   unfold M5
   refine fY (ap2 hw hg' (by omega)) ?_
   by_cases h7:(f6 w g).2=0
   ·rw [if_pos h7]
    have hR:=JV h7
    have hf:=hf h7
    refine gW (nd0 h7) (UD hR fun p=>gO (rZ hw hR) (gO hg' ?_))
    have h1:=ab5 hw hR
    have h2:=aI.wt_eq (b6 w (f6 w g).1)
    have h3:=aZ (b6 w (f6 w g).1).aCk
    rw [aeS (l:=(b6 w (f6 w g).1).aCk) (f:=fun x=>kS true w l k (SF w (f6 w g).1 g x)) (by omega) fun i v hi hv=>?_]
    ·exact aoP
    ·unfold S5
     have hm:=cD hi
     refine gO (Z2 hU (wH (l5 U) _ _ hg)) (gO ⟨U,hU,hW.wh _ hR _ hm⟩ ?_)
     rw [show aX (((k+1:Nat):Int)-1)=(k:Int) by rw [DA (by omega) (by omega)];omega]
     exact fY (hf _ hm) (aoU hv (by omega))
   ·rw [if_neg h7]
    exact jI (nd1 h7) rfl
  rw [iS,kS]
  unfold C6
  refine fY (RF _ l g) ?_
  cases h2:decide (s5 l g≥0) with
  |true=>exact jI rfl (gO ⟨of_decide_eq_true h2,UC (of_decide_eq_true h2)⟩ (Q0 rfl (fY (WK hs _) rfl)))
  |false=>
   refine gW rfl (gW (decide_eq_false (by omega)) (fY (CV _ w g.aCa (aE.small_wt hw (by omega))) ?_))
   show sw (tM w g.aCa).1.aCA _ _=_
   cases h3:(tM w g.aCa).1.aCA with
   |true=>
    rw [cond_false,cond_true]
    by_cases h4:q9 true w l g.aCa 32 [] g.aB7=0
    ·rw [if_pos h4]
     exact jI rfl (fY hau' (gW (nd0 h4) rfl))
    ·rw [if_neg h4]
     exact jI rfl (fY hau' (jI (nd1 h4) rfl))
   |false=>
    rw [cond_false,cond_false]
    refine gW rfl ?_
    cases h4:decide (g.aB7.aB5=1) with
    |true=>rfl
    |false=>
     cases h5:decide (g.aB7.aB5=3) with
     |true=>rfl
     |false=>
      refine gW rfl (gW rfl ?_)
      show _=some (bif _ then _ else _)
      cases h6:decide (g.aB7.aB5=4) with
      |false=>exact gW rfl (fY hI rfl)
      |true=>
       refine jI rfl (fY (af1 hw (by omega) g.aB7.aB3 g.aCa) ?_)
       show sw (jS w 8 g.aB7.aB3 g.aCa).2 (bd (jG _ _ (jS w 8 g.aB7.aB3 g.aCa).1) _) _=_
       cases h8:(jS w 8 g.aB7.aB3 g.aCa).2 with
       |false=>exact gW rfl (fY hI rfl)
       |true=>exact jI rfl (fY (WK hs4 _) rfl)
end
section
variable {w:aE} (hw:wt w≤13000000) {l:List aG} (hl:l.length≤1000) (hb: ∀b∈l,iC b.aB7) {g:aG} (hg:wt g.aB7≤13000000)
include hw hl hb hg
end
def AG(w:aE)(l:List aG)(g:aG):aH×Int:=kS false w (DE w l) 12 g
def qO(w:aE)(l:List aG)(g:aG):aH×Int:=kS true w (DE w l) 12 g
end Go.Proofs.YtfcoaagbccmahaaGreat.W

namespace Go.Proofs.YtfcoaagbccmahaaGreat.W
open Go.RowKit Go.WalkArith Go.Proofs
def Pt{α:Type}(o:Option α)(P:α→Prop):Prop:= ∀r,o=some r→P r
theorem Pt.some{α:Type}{P:α→Prop}{a:α}(h:P a):Pt (some a) P:=fun r e=>by cases e;exact h
theorem Pt.bd{α β:Type}{P:α→Prop}{o:Option β}{f:β→Option α}{Q:β→Prop}(h:Pt o Q)(k: ∀a,Q a→Pt (f a) P):Pt (bd o f) P:=fun r e=>by
 cases o with
 |none=>cases e
 |some a=>exact k a (h a rfl) r e
theorem Pt.any{α β:Type}{P:α→Prop}{o:Option β}{f:β→Option α}(k: ∀a,Pt (f a) P):Pt (Go.Proofs.YtfcoaagbccmahaaGreat.bd o f) P:=Pt.bd (Q:=fun _=>True) (fun _ _=>trivial) fun a _=>k a
theorem Pt.sw{α:Type}{P:α→Prop}{c:Bool}{a b:Option α}(ht:c=true→Pt a P)(hf:c=false→Pt b P):Pt (sw c a b) P:=by
 cases c
 ·exact hf rfl
 ·exact ht rfl
theorem Pt.gd{α:Type}{P:α→Prop}{g:Prop}{a:Option α}(k:Pt a P):Pt (gd g a) P:=fun r e=>by
 by_cases h:g
 ·rw [gO h rfl] at e;exact k r e
 ·rw [gdF h] at e;cases e
theorem Pt.lt{α β:Type}{P:α→Prop}{x:β}{f:β→Option α}(k: ∀y,y=x→Pt (f y) P):Pt (lt x f) P:=k x rfl
theorem Pt.so{α σ:Type}{P:α→Prop}{o:Option (α⊕σ)}{f:σ→Option α}{E:σ→Prop}(h:Pt o (PS P E))(k: ∀s,E s→Pt (f s) P):Pt (so o f) P:=fun r e=>by
 cases o with
 |none=>cases e
 |some x=>
  cases x with
  |inl y=>cases e;exact h _ rfl
  |inr s=>exact k s (h _ rfl) r e
theorem Pt.loop{α σ:Type}{P:α→Prop}{E:σ→Prop}{F:Nat→σ→Option (LR σ α)}{n:Nat}(I:Nat→σ→Prop)(hE: ∀s,I n s→E s)(hs: ∀i s,i<n→I i s→Pt (F i s) (PL P (I (i+1)) E)): ∀k i s,n-i=k→i≤n→I i s→Pt (loopN F k i s) (PS P E)
 |0,i,s,hk,hi,h=>by
  obtain rfl:i=n:=by omega
  exact Pt.some (hE s h)
 |k+1,i,s,hk,hi,h=>fun r e=>by
  rw [loopN] at e
  cases hq:F i s with
  |none=>rw [hq] at e;cases e
  |some x=>
   rw [hq] at e
   have hx:=hs i s (by omega) h x hq
   cases x with
   |next s'=>exact Pt.loop I hE hs k (i+1) s' (by omega) (by omega) hx r e
   |brk s'=>cases e;exact hx
   |ret x=>cases e;exact hx
theorem Pt.all{γ σ:Type}[Inhabited γ]{P:Bool→Prop}{l:List γ}{F:Nat→σ→Option (LR σ Bool)}{s:σ}(R:γ→Prop)(hs: ∀i v,i<l.length→Pt (F i v) (PL P (fun _=>R (aT l i)) fun _=>False)):Pt (loopN F (l.length-0) 0 s) (PS P fun _=> ∀x∈l,R x):=
 Pt.loop (fun i _=> ∀x∈l.take i,R x) (fun s h=>by rwa [List.take_length] at h) (fun i v hi h r e=>by
  have h1:=hs i v hi r e
  cases r with
  |next s'=>
   intro x hx
   rw [I5 hi] at hx
   rcases List.mem_append.1 hx with h2|h2
   ·exact h x h2
   ·rw [List.mem_singleton.1 h2];exact h1
  |brk s'=>exact h1.elim
  |ret x=>exact h1) _ 0 s rfl (Nat.zero_le _) (by simp)
theorem no{X:Prop}:false=true→X:=fun h=>nomatch h
theorem OU{b:Bool}(h:(!b)=false):b=true:=by cases b<;>first|rfl|cases h
theorem Pt.mono{α:Type}{P Q:α→Prop}{o:Option α}(h:Pt o P)(k: ∀a,P a→Q a):Pt o Q:=fun r e=>k r (h r e)
end Go.Proofs.YtfcoaagbccmahaaGreat.W

namespace Go.Proofs.YtfcoaagbccmahaaGreat.W
open Go.RowKit Go.WalkArith Go.Proofs
def RN(k:Int)(n:ByteArray)(m:Nat):Prop:=k=2→P4 n=true→m=0
mutual
def NI:aA→Prop
 | .mk k n xs=>RN k n xs.length∧NIL xs
def NIL:List aA→Prop
 | []=>True
 |x::l=>NI x∧NIL l
end
theorem akW: ∀l:List aA,NIL l↔ ∀x∈l,NI x
 | []=>by rw [NIL];simp
 |x::l=>by rw [NIL,akW l,List.forall_mem_cons]
theorem qT:X8 NI RN:=fun k n xs=>by rw [NI,akW]
theorem qH{t:aA}(h:NI t):NI (.mk t.aB5 t.aB3 t.aB4):=by cases t;exact h
theorem UG{s:ByteArray}:NI (.mk 2 s []):=(qT _ _ _).2 ⟨fun _ _=>rfl,by simp⟩
theorem F3{s:ByteArray}{xs:List aA}(h:P4 s=false)(hx: ∀x∈xs,NI x):NI (.mk 2 s xs):=(qT _ _ _).2 ⟨fun _ e=>(by rw [h] at e;cases e),hx⟩
theorem Q3{k:Int}{s:ByteArray}{xs:List aA}(h:k≠2)(hx: ∀x∈xs,NI x):NI (.mk k s xs):=(qT _ _ _).2 ⟨fun e=>absurd e h,hx⟩
theorem acD{s:ByteArray}:NI (.mk 1 s []):=Q3 (by decide) (by simp)
theorem IJ{P:aA→Prop}{x:aA}(h:P x): ∀y∈ [x],P y:=fun y hy=>by rw [List.mem_singleton.1 hy];exact h
theorem acC{P:aA→Prop}{x y:aA}(h:P x)(k:P y): ∀z∈ [x,y],P z:=fun z hz=>by
 rcases List.mem_cons.1 hz with rfl|hz
 ·exact h
 ·rw [List.mem_singleton.1 hz];exact k
structure IOk (x:aI):Prop where
 w: ∀b∈x.aCk,NI b.aB7
 n:x.aCk.length≤4
 a:NI x.aCj
def DOk(d:aN):Prop:=P4 d.aB3=false∧ ∀c∈d.aB8,∀f∈c.aCm,NI f
def POk(p:aM):Prop:=(∀d∈p.aCb,DOk d)∧ ∀x∈p.aCe,IOk x
def WOk(w:aE):Prop:= ∀p∈w.aB2,POk p
theorem aoA(fu:Nat)(s:ByteArray):Pt (c6 fu s) fun b=>b=true→P4 s=false:=by
 unfold c6
 refine Pt.any fun x2=>Pt.sw (fun _=>Pt.some no) fun _=>?_
 unfold xB
 refine Pt.bd (Q:=fun b=>b=false→P4 s=false) ?_ fun x5 h=>Pt.sw (fun _=>Pt.some no) fun e r _ _=>h e
 rw [R7]
 refine Pt.bd (Q:=fun b=>b=false→P4 s=false) (Pt.some fun h=>?_) fun x h=>Pt.some h
 have h1:s≠eG:=by
  rintro rfl
  cases h
 have h2:s≠eD:=by
  rintro rfl
  cases h
 unfold P4
 rw [decide_eq_false h1,decide_eq_false h2]
 rfl
theorem an8: ∀fu t,Pt (lQ fu t) fun b=>b=true→NI t
 |0,t=>fun r e=>by rw [lQ] at e;cases e
 |fu+1,t=>by
  rw [lQ]
  unfold J5
  refine Pt.bd (aoA fu _) fun x2 h2=>?_;refine Pt.so (E:=fun v=>v=true→RN t.aB5 t.aB3 t.aB4.length) ?_ fun v3 h3=>?_
  ·unfold XL
   refine Pt.so (E:=fun v=>v=true→t.aB5≠2) ?_ fun v4 h4=>?_
   ·unfold XM
    refine Pt.sw (fun h=>Pt.some fun h e=>?_) fun h=>Pt.some fun h e=>?_
    ·have:=of_decide_eq_true h;omega
    ·have:=of_decide_eq_true h;omega
   ·have hz: ∀x:Bool,Pt (sw x (some (.inr (decide ((((t.aB4.length:Nat):Int):Int)=0)))) (some (.inr false)):Option (Bool⊕Bool)) (PS (fun b=>b=true→NI t) fun v=>v=true→RN t.aB5 t.aB3 t.aB4.length):=fun x=>
     Pt.sw (fun _=>Pt.some fun h _ _=>by have:=of_decide_eq_true h;omega) fun _=>Pt.some no
    refine Pt.sw (fun e4=>Pt.sw (fun _=>Pt.some fun _ e=>absurd e (h4 e4)) fun _=>Pt.some no) fun _=>Pt.sw (fun e=>Pt.sw (fun _=>Pt.some fun _ e2=>?_) fun _=>Pt.some no) fun _=>Pt.sw (fun _=>Pt.sw (fun e=>Pt.sw (fun _=>Pt.some fun _ _ k=>?_) fun _=>Pt.any hz) fun _=>Pt.any hz) fun _=>Pt.some no
    ·have:=of_decide_eq_true e;omega
    ·rw [h2 e] at k;cases k
  ·refine Pt.so (E:=fun v=>v=true→v3=true∧ ∀x∈t.aB4,NI x) (Pt.loop (fun i v=>v=true→v3=true∧ ∀x∈t.aB4.take i,NI x) (fun s h=>by rwa [List.take_length] at h) (fun i v hi h=>?_) _ 0 v3 rfl (Nat.zero_le _) fun h=>⟨h,by simp⟩) fun v h=>Pt.some fun e=>?_
   ·unfold XN
    refine Pt.sw (fun ev=>Pt.bd (an8 fu _) fun x hx=>Pt.some fun ex=>⟨(h ev).1,fun y hy=>?_⟩) fun _=>Pt.some no
    rw [I5 hi] at hy
    rcases List.mem_append.1 hy with h1|h1
    ·exact(h ev).2 y h1
    ·rw [List.mem_singleton.1 h1];exact hx ex
   ·obtain⟨h1,h2⟩:=h e
    have:=(qT t.aB5 t.aB3 t.aB4).2 ⟨h3 h1,h2⟩
    cases t
    exact this
theorem arL(fu:Nat)(t:aA):Pt (iH fu t) fun b=>b=true→NI t:=by
 unfold iH
 exact Pt.any fun _=>Pt.sw (fun _=>Pt.any fun _=>Pt.sw (fun _=>Pt.bd (an8 fu t) fun _ h=>Pt.some h) fun _=>Pt.some no) fun _=>Pt.some no
theorem aiU(fu:Nat)(t:aA)(vs:LB):Pt (l3 fu t vs) fun b=>b=true→NI t:=by
 unfold l3 S1
 exact Pt.any fun _=>Pt.so (Pt.all (fun _=>True) fun _ _ _=>Pt.any fun _=>Pt.sw (fun _=>Pt.some no) fun _=>Pt.some trivial) fun _ _=>Pt.bd (arL fu t) fun _ h=>Pt.some h
theorem as0(fu:Nat)(l:List aA)(vs:LB):Pt (AP fu l vs) fun b=>b=true→ ∀t∈l,NI t:=by
 unfold AP W1
 exact Pt.so (Pt.all NI fun _ _ _=>Pt.bd (aiU fu _ vs) fun _ h=>Pt.sw (fun _=>Pt.some no) fun e=>Pt.some (h (OU e))) fun _ h=>Pt.some fun _=>h
theorem apR(fu:Nat)(l:List aG)(vs:LB):Pt (uG fu l vs) fun b=>b=true→(∀x∈l,NI x.aB7)∧l.length≤4:=by
 unfold uG O6
 exact Pt.so (Pt.all (γ:=aG) (fun b=>NI b.aB7) fun _ _ _=>Pt.any fun _=>Pt.sw (fun _=>Pt.some no) fun _=>Pt.bd (aiU fu _ vs) fun _ h=>Pt.sw (fun _=>Pt.some no) fun e=>Pt.any fun _=>Pt.sw (fun _=>Pt.some no) fun _=>Pt.some (h (OU e))) fun _ h=>Pt.some fun e=>⟨h,by have:=of_decide_eq_true e;omega⟩
theorem arF(fu:Nat)(d:aN):Pt (j7 fu d) fun b=>b=true→DOk d:=by
 unfold j7 zF
 exact Pt.so (Pt.all (γ:=aD) (fun c=> ∀f∈c.aCm,NI f) fun _ _ _=>Pt.sw (fun _=>Pt.some no) fun _=>Pt.bd (as0 fu _ _) fun _ h=>Pt.sw (fun _=>Pt.some no) fun e=>Pt.gd (Pt.some (h (OU e)))) fun _ h=>Pt.bd (aoA fu _) fun _ hn=>Pt.sw (fun e=>Pt.any fun _=>Pt.sw (fun _=>Pt.sw (fun _=>Pt.any fun _=>Pt.some fun _=>⟨hn e,h⟩) fun _=>Pt.some no) fun _=>Pt.some no) fun _=>Pt.some no
theorem arM(fu:Nat)(t:aA):Pt (n9 fu t) fun b=>b=true→NI t:=by
 unfold n9
 refine Pt.sw (fun e=>Pt.sw (fun _=>Pt.some fun h=>?_) fun _=>Pt.some no) fun _=>Pt.some no
 have h1:=of_decide_eq_true e
 have h2:=of_decide_eq_true h
 cases t with
 |mk k n xs=>
  replace h2:((xs.length:Nat):Int)=0:=h2
  replace h1:k=0:=h1
  obtain rfl:xs= []:=List.eq_nil_of_length_eq_zero (by omega)
  exact Q3 (by omega) (by simp)
theorem arH(fu:Nat)(x:aI):Pt (j8 fu x) fun b=>b=true→IOk x:=by
 unfold j8
 refine Pt.any fun _=>Pt.sw (fun _=>Pt.some no) fun _=>Pt.any fun _=>Pt.sw (fun _=>Pt.some no) fun _=>Pt.any fun _=>Pt.sw (fun _=>Pt.some no) fun _=>Pt.any fun _=>Pt.sw (fun _=>Pt.some no) fun _=>Pt.sw (fun _=>Pt.some no) fun _=>Pt.bd (apR fu _ _) fun _ hw=>Pt.sw (fun _=>Pt.some no) fun ew=>?_
 obtain⟨h1,h2⟩:=hw (OU ew)
 unfold zJ zI zK
 refine Pt.so (Pt.all (fun _=>True) fun _ _ _=>Pt.any fun _=>Pt.sw (fun _=>Pt.some no) fun _=>Pt.some trivial) fun _ _=>Pt.so (E:=fun _=>NI x.aCj) ?_ fun _ ha=>?_
 ·exact Pt.sw (fun _=>Pt.bd (aiU fu _ _) fun _ h=>Pt.sw (fun _=>Pt.some no) fun e=>Pt.some (h (OU e))) fun _=>Pt.bd (arM fu _) fun _ h=>Pt.sw (fun _=>Pt.some no) fun e=>Pt.some (h (OU e))
 ·exact Pt.so (Pt.all (fun _=>True) fun _ _ _=>Pt.lt fun _ _=>Pt.sw (fun _=>Pt.some no) fun _=>Pt.any fun _=>Pt.sw (fun _=>Pt.some no) fun _=>Pt.any fun _=>Pt.sw (fun _=>Pt.some no) fun _=>Pt.gd (Pt.some trivial)) fun _ _=>Pt.any fun _=>Pt.some fun _=>⟨h1,h2,ha⟩
theorem apQ(fu:Nat)(p:aM):Pt (yA fu p) fun b=>b=true→POk p:=by
 unfold yA PB PC PD PE
 refine Pt.so (Pt.all (fun _=>True) fun _ _ _=>Pt.any fun _=>Pt.sw (fun _=>Pt.some no) fun _=>Pt.some trivial) fun _ _=>Pt.so (Pt.all DOk fun _ _ _=>Pt.bd (arF fu _) fun _ h=>Pt.sw (fun _=>Pt.some no) fun e=>Pt.some (h (OU e))) fun _ hd=>Pt.so (Pt.all IOk fun _ _ _=>Pt.lt fun y hy=>Pt.bd (arH fu y) fun _ h=>Pt.sw (fun _=>Pt.some no) fun e=>Pt.some (hy ▸ h (OU e))) fun _ hi=>Pt.so (Pt.all (fun _=>True) fun _ _ _=>Pt.lt fun _ _=>Pt.any fun _=>Pt.sw (fun _=>Pt.some no) fun _=>Pt.some trivial) fun _ _=>Pt.some fun _=>⟨hd,hi⟩
theorem arI(fu:Nat)(p:aM):Pt (mW fu p) fun b=>b=true→POk p:=by
 unfold mW
 exact Pt.any fun⟨_,_,_,_⟩=>Pt.any fun _=>Pt.sw (fun _=>Pt.some no) fun _=>Pt.any fun _=>Pt.sw (fun _=>Pt.some no) fun _=>Pt.any fun _=>Pt.sw (fun _=>Pt.some no) fun _=>Pt.sw (fun _=>Pt.some no) fun _=>Pt.any fun _=>Pt.sw (fun _=>Pt.any fun _=>Pt.sw (fun _=>Pt.any fun _=>Pt.sw (fun _=>Pt.any fun _=>Pt.sw (fun _=>Pt.bd (apQ fu p) fun _ h=>Pt.some h) fun _=>Pt.some no) fun _=>Pt.some no) fun _=>Pt.some no) fun _=>Pt.some no
theorem afS{n:ByteArray}{l:LB}{a:List aU}{f:List aP}:POk (.mk n l a [] [] f):=⟨fun d hd=>by simp [aM.aCb] at hd,fun d hd=>by simp [aM.aCe] at hd⟩
theorem av7(fu:Nat)(x:aB):Pt (mX fu x) fun r=>POk r.1:=by
 unfold mX BO
 refine Pt.any fun _=>Pt.any fun⟨_,_⟩=>Pt.any fun _=>Pt.any fun _=>Pt.sw (fun _=>Pt.some afS) fun _=>Pt.sw (fun _=>Pt.some afS) fun _=>Pt.gd (Pt.sw (fun _=>Pt.some afS) fun _=>Pt.gd (Pt.sw (fun _=>Pt.some afS) fun _=>Pt.sw (fun _=>Pt.some afS) fun _=>Pt.so (E:=fun _=>True) ?_ fun⟨_,_,_,_,_,_⟩ _=>Pt.bd (arI fu _) fun _ h=>Pt.sw (fun _=>Pt.some afS) fun e=>Pt.some (h (OU e))))
 by_cases hn:3≤x.aB6.length
 ·exact Pt.loop (fun _ _=>True) (fun _ _=>trivial) (fun i ⟨_,_,_,_,_,_⟩ _ _=>Pt.any fun⟨_,_⟩=>Pt.sw (fun _=>Pt.some afS) fun _=>Pt.some trivial) _ 3 _ rfl hn trivial
 ·rw [show x.aB6.length-3=0 by omega]
  exact Pt.some trivial
theorem arJ(fu:Nat)(s:ByteArray):Pt (o5 fu s) fun r=>WOk r.1:=by
 unfold o5 E5
 have h0:WOk (.mk []):=fun p hp=>by simp [aE.aB2] at hp
 refine Pt.any fun l=>Pt.so (E:=fun v=> ∀p∈v,POk p) (Pt.loop (fun _ v=> ∀p∈v,POk p) (fun _ h=>h) (fun i v _ h=>?_) _ 0 _ rfl (Nat.zero_le _) (by simp)) fun v h=>Pt.some h
 refine Pt.any fun _=>Pt.sw (fun _=>Pt.some h) fun _=>Pt.bd (Q:=fun r=>POk r.1) ?_ fun⟨p,_⟩ hp=>Pt.sw (fun _=>Pt.some h0) fun _=>Pt.sw (fun _=>Pt.some h0) fun _=>Pt.gd (Pt.some fun q hq=>?_)
 ·unfold tL
  exact Pt.any fun⟨_,_⟩=>Pt.sw (fun _=>Pt.some afS) fun _=>Pt.bd (av7 fu _) fun⟨_,_⟩ h=>Pt.some h
 ·rcases List.mem_append.1 hq with h1|h1
  ·exact h q h1
  ·rw [List.mem_singleton.1 h1];exact hp
theorem EW(fu:Nat)(s:ByteArray)(l:List aA):Pt (eY fu s l) fun t=>t= .mk 2 s l:=Pt.gd (Pt.some rfl)
theorem an7: ∀fu,(∀t,Pt (iE fu t) fun r=>r=t)∧ ∀l,Pt (iB fu l) fun r=>r=l
 |0=>⟨fun t r e=>(by rw [iE] at e;cases e),fun l r e=>(by rw [iB] at e;cases e)⟩
 |fu+1=>by
  obtain⟨h1,h2⟩:=an7 fu
  refine⟨fun t=>?_,fun l=>?_⟩
  ·rw [iE]
   exact Pt.bd (h2 _) fun x hx=>Pt.some (by subst hx;cases t;rfl)
  ·rw [iB]
   unfold yF GS
   refine Pt.so (E:=fun v=>v=l) (Pt.loop (fun i v=>v=l.take i) (fun s h=>by rwa [List.take_length] at h) (fun i v hi h=>Pt.bd (h1 _) fun x hx=>Pt.gd (Pt.some ?_)) _ 0 _ rfl (Nat.zero_le _) rfl) fun v h=>Pt.some h
   show v++ [x]=l.take (i+1)
   rw [I5 hi,h,hx]
theorem arK: ∀fu c vs d,Pt (l9 fu c vs d) fun r=>NI r.1
 |0,c,vs,d=>fun r e=>by rw [l9] at e;cases e
 |fu+1,c,vs,d=>by
  have L0: ∀ {e:DS} {l:LB},Pt (lt (e.after l.length) fun d5=>lt (e.pick l) fun y=>bd (eY fu y []) fun x=>some (aA.mk x.aB5 x.aB3 x.aB4,d5)) fun r=>NI r.1:=Pt.lt fun _ _=>Pt.lt fun _ _=>Pt.bd (EW fu _ _) fun x hx=>Pt.some (qH (hx ▸ UG))
  rw [l9]
  unfold UL
  have ih:=arK fu
  have L1: ∀ {e:DS} {k:Int},Pt (lt (e.after ([cH,cH,o6]:LB).length) fun d33=>lt (e.pick ([cH,cH,o6]:LB)) fun y35=>bd (l9 fu d33 vs k) fun(x38,x39)=>bd (eY fu y35 ([(aA.mk x38.aB5 x38.aB3 x38.aB4)]:List aA)) fun x41=>some ((aA.mk x41.aB5 x41.aB3 x41.aB4),x39)) fun r=>NI r.1:=fun {e k}=>Pt.lt fun _ _=>Pt.lt fun y hy=>Pt.bd (ih _ _ _) fun⟨x,_⟩ hx=>Pt.bd (EW fu _ _) fun z hz=>Pt.some (qH (hz ▸ F3 (hy ▸ by
   have:=e.pick_mem (l:= [cH,cH,o6]) (by decide)
   simp only [List.mem_cons,List.not_mem_nil,or_false] at this
   rcases this with h|h|h<;>rw [h]<;>rfl) (IJ (qH hx))))
  have L2: ∀ {e:DS} {k k2:Int},Pt (bd (l9 fu e vs k) fun(x26,x27)=>bd (l9 fu x27 vs k2) fun(x29,x30)=>bd (eY fu lY ([(aA.mk x26.aB5 x26.aB3 x26.aB4),(aA.mk x29.aB5 x29.aB3 x29.aB4)]:List aA)) fun x32=>some ((aA.mk x32.aB5 x32.aB3 x32.aB4),x30)) fun r=>NI r.1:=Pt.bd (ih _ _ _) fun⟨x,_⟩ hx=>Pt.bd (ih _ _ _) fun⟨y,_⟩ hy=>Pt.bd (EW fu _ _) fun z hz=>Pt.some (qH (hz ▸ F3 rfl (acC (qH hx) (qH hy))))
  exact Pt.lt fun _ _=>Pt.sw (fun _=>Pt.sw (fun _=>Pt.lt fun _ _=>Pt.gd (Pt.some acD)) fun _=>Pt.sw (fun _=>L0) fun _=>Pt.sw (fun _=>L0) fun _=>Pt.sw (fun _=>L2) fun _=>L1) fun _=>Pt.sw (fun _=>L0) fun _=>Pt.sw (fun _=>L0) fun _=>Pt.sw (fun _=>L2) fun _=>L1
theorem V5(fu:Nat)(s:ByteArray){t:aA}(h:NI t):Pt (uJ fu s t) NI:=Pt.bd ((an7 fu).1 _) fun x hx=>Pt.some (Q3 (by decide) (IJ (hx ▸ h)))
theorem an9(fu:Nat)(c:DS)(d:Int):Pt (sQ fu c d) fun r=>NI r.1:=by
 unfold sQ
 exact Pt.bd (arK fu _ _ _) fun⟨x,_⟩ hx=>Pt.lt fun _ _=>Pt.sw (fun _=>Pt.lt fun _ _=>Pt.lt fun _ _=>Pt.bd (V5 fu _ (qH hx)) fun _ h=>Pt.some (qH h)) fun _=>Pt.sw (fun _=>Pt.bd (V5 fu _ (qH hx)) fun _ h=>Pt.bd (EW fu _ _) fun _ hz=>Pt.some (qH (hz ▸ F3 rfl (IJ (qH h))))) fun _=>Pt.sw (fun _=>Pt.some (Q3 (by decide) (by simp))) fun _=>Pt.some (qH hx)
theorem apO(fu:Nat)(c:DS):Pt (BX fu c) fun r=>DOk r.1:=by
 unfold BX
 refine Pt.bd (Q:=NI) (Pt.some acD) fun x hx=>Pt.bd (EW fu _ _) fun y hy=>?_
 replace hy:NI y:=hy ▸ F3 rfl (IJ hx)
 have h2: ∀ {n m:ByteArray} {l:List aA},(∀f∈l,NI f)→ ∀c∈([.mk n l,.mk m [x,y]]:List aD),∀f∈c.aCm,NI f:=fun {n m l} hl c hc f hf=>by
  rcases List.mem_cons.1 hc with rfl|hc
  ·exact hl f hf
  ·rw [List.mem_singleton.1 hc] at hf
   exact acC hx hy f hf
 exact Pt.lt fun _ _=>Pt.sw (fun _=>Pt.lt fun _ _=>Pt.lt fun _ _=>Pt.gd (Pt.some ⟨rfl,h2 (by simp)⟩)) fun _=>Pt.sw (fun _=>Pt.lt fun _ _=>Pt.gd (Pt.some ⟨rfl,fun c hc=>h2 (by simp) c (List.mem_of_mem_take (List.mem_of_mem_drop hc))⟩)) fun _=>Pt.sw (fun _=>Pt.bd (an9 fu _ _) fun⟨_,_⟩ hf=>Pt.some ⟨rfl,h2 (IJ hf)⟩) fun _=>Pt.sw (fun _=>Pt.lt fun _ _=>Pt.lt fun _ _=>Pt.some ⟨rfl,h2 (by simp)⟩) fun _=>Pt.some ⟨rfl,h2 (by simp)⟩
theorem apP(fu:Nat)(c:DS):Pt (BY fu c) fun r=>IOk r.1:=by
 unfold BY
 refine Pt.lt fun _ _=>Pt.lt fun _ _=>Pt.lt fun _ _=>Pt.any fun _=>Pt.so (E:=fun v=>(∀b∈v.2.2.2.2.1,NI b.aB7)∧v.2.2.2.2.1.length≤1) ?_ fun⟨v9,v10,v11,v12,v13,v14⟩ ⟨h1,h2⟩=>Pt.so (E:=fun v=>NI (.mk v.2.2.1 v.2.2.2.1 v.1)) ?_ fun⟨v38,v35,v36,v37,v34⟩ h3=>?_
 ·unfold SY
  have hb: ∀ {n s:ByteArray},(∀b∈([.mk n (.mk 1 s [])]:List aG),NI b.aB7)∧([.mk n (.mk 1 s [])]:List aG).length≤1:=fun {n s}=>⟨fun b hb=>by rw [List.mem_singleton.1 hb];exact acD,Nat.le_refl _⟩
  have h0:(∀b∈([]:List aG),NI b.aB7)∧([]:List aG).length≤1:=⟨by simp,by simp⟩
  exact Pt.lt fun _ _=>Pt.sw (fun _=>Pt.any fun _=>Pt.some h0) fun _=>Pt.sw (fun _=>Pt.bd (Q:=fun t=>t= .mk 1 fW []) (Pt.some rfl) fun _ e=>Pt.any fun _=>Pt.some (e ▸ hb)) fun _=>Pt.sw (fun _=>Pt.any fun _=>Pt.any fun _=>Pt.any fun _=>Pt.some h0) fun _=>Pt.bd (Q:=fun t=>t= .mk 1 fW []) (Pt.some rfl) fun _ e=>Pt.some (e ▸ hb)
 ·unfold S0
  exact Pt.lt fun _ _=>Pt.sw (fun _=>Pt.bd (arK fu _ _ _) fun⟨_,_⟩ h=>Pt.some (qH h)) fun _=>Pt.some (Q3 (show(0:Int)≠2 by decide) (by simp))
 ·have hI: ∀ {a:ByteArray} {v:LB} {t:aA} {b b2:Bool} {m:List aQ},IOk (.mk a v t v13 b b2 (.mk v36 v37 v38) m):=⟨h1,Nat.le_trans h2 (by decide),h3⟩
  refine Pt.lt fun _ _=>Pt.lt fun _ _=>Pt.sw (fun _=>Pt.any fun⟨_,_⟩=>Pt.some hI) fun _=>Pt.sw (fun _=>Pt.lt fun _ _=>Pt.lt fun _ _=>Pt.gd (Pt.some hI)) fun _=>Pt.sw (fun _=>Pt.bd (an9 fu _ _) fun⟨x,_⟩ hx=>Pt.gd (Pt.some ⟨fun b hb=>?_,?_,h3⟩)) fun _=>Pt.sw (fun _=>Pt.any fun⟨_,_⟩=>Pt.some hI) fun _=>Pt.sw (fun _=>Pt.bd (Q:=NI) (Pt.bd (EW fu _ _) fun _ e=>Pt.some (e ▸ UG)) fun _ h=>Pt.some ⟨h1,Nat.le_trans h2 (by decide),h⟩) fun _=>Pt.sw (fun _=>Pt.some hI) fun _=>Pt.some hI
  ·rcases List.mem_append.1 hb with h|h
   ·exact h1 b h
   ·rw [List.mem_singleton.1 h];exact hx
  ·show(v13++_).length≤4
   replace h2:v13.length≤1:=h2
   rw [List.length_append,List.length_singleton]
   omega
theorem adY{α:Type}{P:α→Prop}{l:List α}{x:α}(h: ∀a∈l,P a)(hx:P x): ∀a∈l++ [x],P a:=fun a ha=>by
 rcases List.mem_append.1 ha with h1|h1
 ·exact h a h1
 ·rw [List.mem_singleton.1 h1];exact hx
def PkS(v:List aU×List aN×List aI×List aP×DS):Prop:=(∀d∈v.2.1,DOk d)∧ ∀x∈v.2.2.1,IOk x
theorem arG(fu:Nat)(c:DS):Pt (E8 fu c) fun r=>POk r.1:=by
 unfold E8 W5
 refine Pt.lt fun _ _=>Pt.so (E:=PkS) (Pt.loop (fun _=>PkS) (fun _ h=>h) (fun i ⟨v9,v10,v11,v12,v4⟩ _ ⟨h1,h2⟩=>?_) _ 0 _ rfl (Nat.zero_le _) ⟨by simp,by simp⟩) fun⟨v9,v10,v11,v12,v4⟩ ⟨h1,h2⟩=>?_
 ·exact Pt.lt fun _ _=>Pt.sw (fun _=>Pt.any fun⟨_,_⟩=>Pt.gd (Pt.some ⟨h1,h2⟩)) fun _=>Pt.sw (fun _=>Pt.bd (apO fu _) fun⟨_,_⟩ h=>Pt.gd (Pt.some ⟨adY h1 h,h2⟩)) fun _=>Pt.sw (fun _=>Pt.bd (apP fu _) fun⟨_,_⟩ h=>Pt.gd (Pt.some ⟨h1,adY h2 h⟩)) fun _=>Pt.any fun⟨_,_⟩=>Pt.gd (Pt.some ⟨h1,h2⟩)
 ·exact Pt.lt fun _ _=>Pt.sw (fun _=>Pt.lt fun _ _=>Pt.lt fun _ _=>Pt.some ⟨h1,h2⟩) fun _=>Pt.sw (fun _=>Pt.lt fun _ _=>Pt.lt fun _ _=>Pt.gd (Pt.some ⟨h1,h2⟩)) fun _=>Pt.some ⟨h1,h2⟩
theorem apS(fu:Nat)(c:DS):Pt (yB fu c) fun r=>WOk r.1:=by
 unfold yB GI
 exact Pt.bd (Q:=fun r=>WOk r.1) (Pt.any fun⟨_,_⟩=>Pt.bd (arJ fu _) fun⟨_,_⟩ h=>Pt.some h) fun⟨_,_⟩ h=>Pt.lt fun _ _=>Pt.sw (fun _=>Pt.bd (arG fu _) fun⟨_,_⟩ hp=>Pt.gd (Pt.some (adY h hp))) fun _=>Pt.some h
theorem aoY{w:aE}(h:WOk w):WQ NI w:=WQ.of (fun p hp x hx=>⟨((h p hp).2 x hx).w,((h p hp).2 x hx).a⟩) fun p hp d hd=>((h p hp).1 d hd).2
end Go.Proofs.YtfcoaagbccmahaaGreat.W

namespace Go.Proofs.YtfcoaagbccmahaaGreat.W
open Go.RowKit Go.WalkArith Go.Proofs
theorem U3{α:Type}{f g:α→Int}: ∀ {l:List α},(∀x∈l,f x=g x)→mK f l=mK g l
 | [],_=>rfl
 |x::l,h=>by rw [mK,mK,h x (by simp),U3 fun y hy=>h y (List.mem_cons_of_mem _ hy)]
theorem ZZ{f g:aG→aH×Int}: ∀ {l:List aG} {out:List aH},(∀x∈l,f x=g x)→G7 f l out=G7 g l out
 | [],_,_=>rfl
 |x::l,out,h=>by rw [G7,G7,h x (by simp),ZZ fun y hy=>h y (List.mem_cons_of_mem _ hy)]
theorem ao9{t:aA}(h:NI t):yJ true t=yJ false t:=by
 cases t with
 |mk k n xs=>
  have hr:=((qT k n xs).1 h).1
  unfold yJ
  show(decide (k=2)&&(P4 n&&(true||decide (xs.length=0))))=(decide (k=2)&&(P4 n&&(false||decide (xs.length=0))))
  by_cases hk:k=2
  ·cases hn:P4 n
   ·rw [Bool.false_and,Bool.false_and]
   ·rw [decide_eq_true (hr hk hn)];rfl
  ·rw [decide_eq_false hk];rfl
section
variable {w:aE} (hW:WQ NI w) (l:List aJ)
include hW
theorem akN(tr:ByteArray): ∀k op t,NI t→q9 true w l tr k op t=q9 false w l tr k op t
 |0,_,_,_=>rfl
 |k+1,op,t,h=>by
  rw [q9,q9,ao9 h]
  cases hc:t6 w t with
  |false=>rfl
  |true=>rw [U3 fun c hm=>U3 fun f hf=>akN tr k (op++ [t]) _ (aoS qT hW h hc hm hf)]
theorem ahH: ∀k g,NI g.aB7→kS true w l k g=kS false w l k g
 |0,_,_=>rfl
 |k+1,g,h=>by
  rw [kS,kS,akN hW l _ _ _ _ h]
  by_cases hs:(f6 w g).2=0
  ·rw [ZZ fun x hx=>ahH k _ (akF qT hW (JV hs) h hx)]
  ·rw [if_neg hs,if_neg hs]
end
theorem arZ{w:aE}(hW:WQ NI w)(l:List aG){g:aG}(h:NI g.aB7):qO w l g=AG w l g:=ahH hW _ 12 g h
def vJ(w:aE)(t:aA):Prop:= ∃V:LB,V.length≤13000000∧Gd (wI w++V) t
theorem vJ.of{w:aE}{t:aA}(h:wt t≤1000000):vJ w t:=⟨F4 t,by
 have:=acE t
 omega,(Gd.own t (by rw [NS];omega)).mono (fun n h=>List.mem_append_right _ h) t⟩
theorem VB{w:aE}(hw:wt w≤13000000){V:LB}(h:V.length≤13000000):(wI w++V).length≤68719476736:=by
 have:=an0 w
 rw [List.length_append]
 omega
theorem vJ.ty{w:aE}(hw:wt w≤13000000){t:aA}(h:vJ w t):iC t:=let⟨_,h1,h2⟩:=h;⟨_,VB hw h1,h2⟩
theorem aiL{w:aE}{l:List aG}(h:xJ w l){g:aG}(hg:vJ w g.aB7):bQ fun fu=>lM fu (bG.mk w (DE w l)) g 0=some (AG w l g):=by
 obtain⟨V,h1,h2⟩:=hg
 exact al2 (VB h.hw h1) h.hw (vH h.hw) (DE w l) 12 0 rfl (Int.le_refl _) g h2
theorem ai2(w:aE)(l:List aG)(g:aG)(h:xJ w l)(hg:vJ w g.aB7):bR Tryz.prog 19 [(aE.pv w),bY l,(aG.pv g)] (.tup [(aH.pv (qO w l g).1),pI (qO w l g).2]):=by
 obtain⟨V,h1,h2⟩:=hg
 obtain⟨fu,hf⟩:=((amL (VB h.hw h1) h.hw (vH h.hw) (DE w l) 12 (Nat.le_refl _) g h2).and (bQ.ge 27000000)).get
 refine amM fu w l g (qO w l g) ?_
 unfold af3
 exact fY ((apZ h.hw hf.2 h.hl h.ht).trans (congrArg some (alS h.hw hf.2 l))) (fY hf.1 rfl)
theorem QZ: ∀(l:List Int) (e:aH),(ab9 e l).aB5=e.aB5∨(ab9 e l).aB5=3
 | [],e=> .inl rfl
 |n::l,e=>by
  rcases QZ l (VZ e n) with h|h
  ·exact .inr h
  ·exact .inr h
theorem GU{b:Bool}{w:aE}{l:List aJ}{k:Nat}{g:aG}(h:(kS b w l k g).1.aB5=1):mO w (kS b w l k g).1.aCt:=by
 have hA:(ao5 l g).aB5≠1:=by
  unfold ao5
  rcases QZ (aT l (s5 l g).toNat).aCG (.mk 2 (aT l (s5 l g).toNat).aCF (.mk 0 0) []) with h|h<;>rw [h]
  ·exact show(2:Int)≠1 by decide
  ·decide
 cases k with
 |zero=>
  rw [kS] at h
  cases hq:decide (s5 l g≥0) with
  |true=>rw [hq] at h;exact absurd h hA
  |false=>rw [hq] at h;cases h
 |succ k=>
  rw [kS] at h ⊢
  cases h1:decide (s5 l g≥0) with
  |true=>rw [h1] at h;exact absurd h hA
  |false=>
   rw [h1,cond_false] at h
   rw [cond_false]
   cases h2:(tM w g.aCa).1.aCA with
   |true=>
    rw [h2,cond_true] at h
    split at h<;>cases h
   |false=>
    rw [h2,cond_false] at h
    rw [cond_false]
    cases h3:decide (g.aB7.aB5=1)||decide (g.aB7.aB5=3) with
    |true=>rw [h3] at h;cases h
    |false=>
     rw [h3,cond_false] at h
     rw [cond_false]
     cases h4:decide (g.aB7.aB5=4)&&(jS w 8 g.aB7.aB3 g.aCa).2 with
     |true=>
      rw [h4,cond_true] at h
      rcases QZ (jS w 8 g.aB7.aB3 g.aCa).1 (.mk 4 0 (.mk 0 0) []) with h5|h5<;>rw [h5] at h<;>cases h
     |false=>
      rw [h4,cond_false] at h
      rw [cond_false]
      by_cases h5:(f6 w g).2=0
      ·rw [if_pos h5] at h ⊢
       split at h
       ·rename_i h6
        rw [if_pos h6]
        exact JV h5
       ·cases h
      ·rw [if_neg h5] at h
       cases h
end Go.Proofs.YtfcoaagbccmahaaGreat.W

namespace Go.Proofs.YtfcoaagbccmahaaGreat.W
set_option maxRecDepth 100000
set_option maxHeartbeats 40000000
noncomputable section
open Tryz Go.RowKit Go.Proofs
attribute [local irreducible] lt
def rO(fu:Nat)(pw:aE)(po:aC)(p5:aA):Option (aA×Bool):=bd (AB fu pw po) fun(x2,x3)=>gd (Tr.bulkL (aA.tr x2.aCh)≤68719476735) (gd (iC p5) (sw (!(x3)) (some ((aA.mk 0 s_ []),false)) (sw (!(x2.aCx)) (some ((aA.mk 0 s_ []),false)) (sw (!(iY x2.aCh p5)) (some ((aA.mk 0 s_ []),false)) (gd (qG (eR x2.aCh p5)) (gd (iC x2.aCj) (some ((jU (eR x2.aCh p5) x2.aCj),true))))))))
theorem TQ(fu:Nat)(pw:aE)(po:aC)(p5:aA)(r:aA×Bool)(H:rO fu pw po p5=some r):bR Tryz.prog 143 [(aE.pv pw),(aC.pv po),(aA.pv p5)] (.tup [(aA.pv r.1),pB r.2]):=by
 refine qJ func143 H (fun C hC H=>?_)
 refine gQ 2 ?_;refine q1 (eX ([aO pw.aB2])) (q1 (eX ([pI po.aCf,pI po.aCt])) (q1 (eX (bM p5)) ?_))
 refine gQ 5 ?_;refine q1 (bW [aO pw.aB2]) (q1 (bW [pI po.aCf,pI po.aCt]) (dP H fun x2 x3 z1 H=>(q1 (bE func170 (ZI fu pw po _ z1)) ?_)))
 refine gQ 10 ?_;refine q1 (bW [pI x2.aCh.aB5,pS x2.aCh.aB3,aR x2.aCh.aB4]) (q1 (bW [pI p5.aB5,pS p5.aB3,aR p5.aB4]) (cC H fun z4 H=>(cC H fun z5 H=>(q1 (bE func161 (aaS x2.aCh p5 z4 z5)) ?_))))
 refine gQ 12 ?_;refine AL.weak (s':=⟨[(6,.ptr 3 0),(7,pB false),(8,.ptr 4 0),(10,fJ (eR x2.aCh p5)),(11,pB (iY x2.aCh p5)),(27,pB (!(x3)))],⟨[some ⟨26,[aO pw.aB2]⟩,some ⟨52,[pI po.aCf,pI po.aCt]⟩,some ⟨30,bM p5⟩,some ⟨30,[pI 0,pS s_,.nil]⟩,some ⟨163,c8 x2⟩],[]⟩⟩) FE ?_;refine dH 27 H (fun g6 H=>gE 16) fun g6 H=>?_;refine gQ 5 ?_;refine AL.weak (s':=⟨[(6,.ptr 3 0),(7,pB false),(8,.ptr 4 0),(10,fJ (eR x2.aCh p5)),(11,pB (iY x2.aCh p5)),(32,pB (!(x2.aCx)))],⟨[some ⟨26,[aO pw.aB2]⟩,some ⟨52,[pI po.aCf,pI po.aCt]⟩,some ⟨30,bM p5⟩,some ⟨30,[pI 0,pS s_,.nil]⟩,some ⟨163,c8 x2⟩],[]⟩⟩) FE ?_;refine dH 32 H (fun g7 H=>gE 11) fun g7 H=>?_;refine gQ 4 ?_;refine bC H (fun h8 H=>gE 6) fun h8 H=>?_;refine gQ 5 ?_;refine q1 (bW [pI x2.aCj.aB5,pS x2.aCj.aB3,aR x2.aCj.aB4]) (cC H fun z9 H=>(cC H fun z10 H=>(q1 (bE func110 (RC (eR x2.aCh p5) x2.aCj z9 z10)) ?_)))
 exact gE 3
abbrev sN:=aE→(List aG)→aA→Int→Option (aA×Int)
abbrev AQ:=aE→(List aG)→(List aA)→Int→Option ((List aA)×Int)
def vG(m:sN):Prop:= ∀(pF:aE) (p7:List aG) (p8:aA) (pJ:Int) (r:aA×Int),m pF p7 p8 pJ=some r→bR Tryz.prog 91 [(aE.pv pF),bY p7,(aA.pv p8),pI pJ] (.tup [(aA.pv r.1),pI r.2]:PV)
def JY(m:AQ):Prop:= ∀(pw:aE) (p4:List aG) (p9:List aA) (pA:Int) (r:(List aA)×Int),m pw p4 p9 pA=some r→bR Tryz.prog 142 [(aE.pv pw),bY p4,aR p9,pI pA] (.tup [aR r.1,pI r.2]:PV)
def AF(fu:Nat)(p3:sN)(p6:AQ)(pF:aE)(p7:List aG)(p8:aA)(pJ:Int):Option (aA×Int):=bd (p6 pF p7 p8.aB4 pJ) fun(x2,x3)=>sw (!decide (x3=0)) (some ((aA.mk 0 s_ []),x3)) (bd (lI fu (aA.mk p8.aB5 p8.aB3 x2)) fun x6=>sw (decide (x6>400)) (some ((aA.mk 0 s_ []),2)) (sw (!decide (p8.aB5=3)) (some ((aA.mk p8.aB5 p8.aB3 x2),0)) (sw (!decide ((x2.length:Int)=1)) (some ((aA.mk p8.aB5 p8.aB3 x2),0)) (sw (decide (pJ=0)) (some ((aA.mk 0 s_ []),2)) (gd (0<x2.length) (gd (xJ pF p7) (gd (vJ pF (aG.aB7 (aG.mk p8.aB3 (aT x2 0)))) (sw (!decide (((qO pF p7 (aG.mk p8.aB3 (aT x2 0))).2:Int)=0)) (some ((aA.mk 0 s_ []),1)) (sw (!decide ((((qO pF p7 (aG.mk p8.aB3 (aT x2 0))).1).aB5:Int)=1)) (some ((aA.mk p8.aB5 p8.aB3 x2),0)) (bd (rO fu pF (((qO pF p7 (aG.mk p8.aB3 (aT x2 0))).1).aCt) (aT x2 0)) fun(x17,x18)=>sw (!(x18)) (some ((aA.mk 0 s_ []),1)) (bd (p3 pF p7 x17 (aX (pJ-1))) fun(x21,x22)=>some (x21,x22))))))))))))
theorem T7(fu:Nat)(p3:sN)(p6:AQ)(pE:vG p3)(pH:JY p6):vG (AF fu p3 p6):=by
 intro pF p7 p8 pJ r H
 refine qJ func91 H (fun C hC H=>?_)
 refine gQ 2 ?_;refine q1 (eX ([aO pF.aB2])) (q1 (eX (bM p8)) ?_)
 refine gQ 5 ?_;refine q1 (bW [aO pF.aB2]) ?_;refine gQ 4 ?_;refine dP H fun x2 x3 z1 H=>(q1 (bE func142 (pH pF p7 p8.aB4 pJ _ z1)) ?_)
 refine gQ 12 ?_;refine bC H (fun h4 H=>gE 7) fun h4 H=>?_;refine gQ 15 ?_;refine q1 (bW [pI p8.aB5,pS p8.aB3,aR x2]) (bK H fun x6 z5 H=>(q1 (bE func109 (O4 fu (aA.mk p8.aB5 p8.aB3 x2) _ z5)) ?_))
 refine gQ 2 ?_;refine bC H (fun h7 H=>gE 6) fun h7 H=>?_;refine gQ 8 ?_;refine AL.weak (s':=⟨[(1,bY p7),(3,pI pJ),(4,.ptr 0 0),(6,.ptr 1 0),(8,.ptr 2 0),(9,pI 0),(10,aR x2),(12,.ptr 3 0),(43,pB (!decide (p8.aB5=3)))],⟨[some ⟨26,[aO pF.aB2]⟩,some ⟨30,bM p8⟩,some ⟨30,[pI 0,pS s_,.nil]⟩,some ⟨30,[pI p8.aB5,pS p8.aB3,aR x2]⟩],[]⟩⟩) FE ?_;refine dH 43 H (fun g8 H=>?_) fun g8 H=>?_
 ·refine gQ 8 ?_;refine q1 (bW [pI p8.aB5,pS p8.aB3,aR x2]) ?_;exact gE 3
 refine gQ 5 ?_;refine bC H (fun h9 H=>?_) (fun h9 H=>?_)
 ·refine gQ 2 ?_;refine q1 (bW [pI p8.aB5,pS p8.aB3,aR x2]) ?_;exact gE 3
 refine gQ 7 ?_;refine bC H (fun h10 H=>gE 6) fun h10 H=>?_;refine gQ 2 ?_;refine cC H fun z11 H=>(cC H fun z12 H=>(cC H fun z13 H=>(dW (dB [4] 0 1 (DU [aO pF.aB2]) (dI [1] bF (dI [6] bZ (dB [55] 0 1 uK (dI [10] bF (dI [57] qF (dI [58] (iI (aA.cs (aT x2 0))) (dI [56,59] rW (dI [53,54,60] (bE func19 (ai2 pF p7 (aG.mk p8.aB3 (aT x2 0)) z12 z13)) (dI [61] bF ?_)))))))))))))
 iterate 2 refine dI [52] YR ?_
 refine dE [] tAl (kU [13,62] jO (dI [63] bF (dN ?_)))
 refine gQ 6 ?_;refine bC H (fun h14 H=>gE 6) fun h14 H=>?_;refine gQ 8 ?_;refine bC H (fun h15 H=>?_) (fun h15 H=>?_)
 ·refine gQ 2 ?_;refine q1 (bW [pI p8.aB5,pS p8.aB3,aR x2]) ?_;exact gE 3
 refine gQ 2 ?_;refine dP H fun x17 x18 z16 H=>(dW (dB [4] 0 1 (DU [aO pF.aB2]) (dI [13] bZ (dB [73] 0 1 (DU [pI ((((qO pF p7 (aG.mk p8.aB3 (aT x2 0))).1).aCt).aCf),pI ((((qO pF p7 (aG.mk p8.aB3 (aT x2 0))).1).aCt).aCt)]) (dI [10] bF (dI [75] qF (dI [76] (iI (aA.cs (aT x2 0))) (dI [72,74,77] (bE func143 (TQ fu pF (((qO pF p7 (aG.mk p8.aB3 (aT x2 0))).1).aCt) (aT x2 0) _ z16)) (dI [78] bF ?_)))))))))
 iterate 2 refine dI [71] YR ?_
 refine dE [] tAl (kU [15,79] jO (dI [80] bF (dN ?_)))
 refine gQ 6 ?_;refine bC H (fun h19 H=>gE 6) fun h19 H=>?_;refine gQ 3 ?_;refine q1 (bW [aO pF.aB2]) (q1 bF (q1 (bW [pI x17.aB5,pS x17.aB3,aR x17.aB4]) ?_))
 refine gQ 2 ?_;refine dP H fun x21 x22 z20 H=>(q1 (bE func91 (pE pF p7 x17 (aX (pJ-1)) _ z20)) ?_)
 exact gE 5
def XD(fu:Nat)(p3:sN)(p6:AQ)(pw:aE)(p4:List aG)(p9:List aA)(pA:Int):Nat→((List aA))→Option (LR ((List aA)) ((List aA)×Int)):=fun i1 v3=>bd (p3 pw p4 (aT p9 i1) pA) fun(x7,x8)=>sw (!decide (x8=0)) (some (.ret (([]),x8))) (gd ((v3).length+(([x7]:List aA)).length≤68719476736) (some (.next (v3++([x7]:List aA)))))
def R9(fu:Nat)(p3:sN)(p6:AQ)(pw:aE)(p4:List aG)(p9:List aA)(pA:Int):Option ((List aA)×Int):=so (loopN (XD fu p3 p6 pw p4 p9 pA) (p9.length-0) 0 ([])) fun v3=>some (v3,0)
theorem adL(fu:Nat)(p3:sN)(p6:AQ)(pE:vG p3)(pH:JY p6):JY (R9 fu p3 p6):=by
 intro pw p4 p9 pA r H
 refine qJ func142 H (fun C hC H=>?_)
 refine gQ 2 ?_;refine q1 (eX ([aO pw.aB2])) ?_;refine gQ 5 ?_;refine q1 (qE ([]:List aA)) ?_;refine gQ 7 ?_;refine gL 2 (aA.trs_len _) (fun hl4=>?_)
 try dsimp only at hl4
 refine bU (σ:=(List aA)) (fun i1 v3=>⟨[(1,bY p4),(2,aR p9),(3,pI pA),(4,.ptr 0 0),(8,.nil),(9,pI 0),(10,gM v3 0),(11,pN i1)],⟨[some ⟨26,[aO pw.aB2]⟩],[⟨30,3,aA.trs (v3),false⟩]⟩⟩) (fun v3=>⟨[(8,.nil),(9,pI 0),(10,gM v3 0)],⟨[some ⟨26,[aO pw.aB2]⟩],[⟨30,3,aA.trs (v3),false⟩]⟩⟩) (eK H) ?_ ?_
 ·rintro i1 v3 H
  refine gQ 8 ?_;refine cS H (fun h5 h5l H=>?_) (fun h5 H=>?_)
  ·refine gQ 4 ?_;refine dP H fun x7 x8 z6 H=>(dW (dB [4] 0 1 (DU [aO pw.aB2]) (dI [1] bF (dI [2] bF (dI [11] bF (dI [24,25] qF (dI [26] (iI (aA.cs (aT p9 i1))) (dI [3] bF (dI [22,23,27,28] (bE func91 (pE pw p4 (aT p9 i1) pA _ z6)) (dI [29] bF ?_))))))))))
   iterate 2 refine dI [21] YR ?_
   refine dE [] tAl (kU [12,30] jO (dI [31] bF (dN ?_)))
   refine gQ 6 ?_;refine bC H (fun h9 H=>?_) (fun h9 H=>?_)
   ·refine gQ 2 ?_;refine q1 (qE ([]:List aA)) ?_;exact gE 4
   refine gQ 3 ?_;refine q1 (bW [pI x7.aB5,pS x7.aB3,aR x7.aB4]) (q1 (iF ([x7]:List aA)) (cC H fun z10 H=>(q1 (lG z10) ?_)))
   exact gE 7
  exact gE 0
 rintro v3 H
 exact gE 6
mutual
def fH:Nat→aE→(List aG)→aA→Int→Option (aA×Int)
 |0,_,_,_,_=>none
 |fu+1,pF,p7,p8,pJ=>AF fu (fH fu) (sM fu) pF p7 p8 pJ
def sM:Nat→aE→(List aG)→(List aA)→Int→Option ((List aA)×Int)
 |0,_,_,_,_=>none
 |fu+1,pw,p4,p9,pA=>R9 fu (fH fu) (sM fu) pw p4 p9 pA
end
theorem XE(fu:Nat):vG (fH fu)∧JY (sM fu):=by
 induction fu with
 |zero=>exact⟨(fun pF p7 p8 pJ r H=>by simp only [fH] at H;cases H),(fun pw p4 p9 pA r H=>by simp only [sM] at H;cases H)⟩
 |succ fu ih=>exact⟨(fun pF p7 p8 pJ r H=>by simp only [fH] at H;exact T7 fu (fH fu) (sM fu) ih.1 ih.2 pF p7 p8 pJ r H),(fun pw p4 p9 pA r H=>by simp only [sM] at H;exact adL fu (fH fu) (sM fu) ih.1 ih.2 pw p4 p9 pA r H)⟩
theorem ZQ(fu:Nat):vG (fH fu):=(XE fu).1
def O1(fu:Nat)(pw:aE)(p4:List aG)(pt:aA):Option (aA×Int):=bd (fH fu pw p4 pt 12) fun(x2,x3)=>some (x2,x3)
theorem Y1(fu:Nat)(pw:aE)(p4:List aG)(pt:aA)(r:aA×Int)(H:O1 fu pw p4 pt=some r):bR Tryz.prog 37 [(aE.pv pw),bY p4,(aA.pv pt)] (.tup [(aA.pv r.1),pI r.2]):=by
 refine qJ func37 H (fun C hC H=>?_)
 refine gQ 2 ?_;refine q1 (eX ([aO pw.aB2])) (q1 (eX (bM pt)) ?_)
 refine gQ 5 ?_;refine q1 (bW [aO pw.aB2]) (q1 bF (q1 (bW [pI pt.aB5,pS pt.aB3,aR pt.aB4]) (dP H fun x2 x3 z1 H=>(q1 (bE func91 (ZQ fu pw p4 pt 12 _ z1)) ?_))))
 exact gE 5
def rF(fu:Nat)(pw:aE)(po:aC)(p5:aA):Option (aA×Bool):=bd (rH fu pw po) fun(x2,x3)=>sw (!(x3)) (some ((aA.mk 0 s_ []),false)) (sw (!(x2.aCx)) (some ((aA.mk 0 s_ []),false)) (gd (Tr.bulkL (aA.tr x2.aCh)≤68719476735) (gd (iC p5) (sw (!(iY x2.aCh p5)) (some ((aA.mk 0 s_ []),false)) (gd (qG (eR x2.aCh p5)) (gd (iC x2.aCj) (some ((jU (eR x2.aCh p5) x2.aCj),true))))))))
theorem TI(fu:Nat)(pw:aE)(po:aC)(p5:aA)(r:aA×Bool)(H:rF fu pw po p5=some r):bR Tryz.prog 141 [(aE.pv pw),(aC.pv po),(aA.pv p5)] (.tup [(aA.pv r.1),pB r.2]):=by
 refine qJ func141 H (fun C hC H=>?_)
 refine gQ 2 ?_;refine q1 (eX ([aO pw.aB2])) (q1 (eX ([pI po.aCf,pI po.aCt])) (q1 (eX (bM p5)) ?_))
 refine gQ 5 ?_;refine q1 (bW [aO pw.aB2]) (q1 (bW [pI po.aCf,pI po.aCt]) (dP H fun x2 x3 z1 H=>(q1 (bE func118 (uV fu pw po _ z1)) ?_)))
 refine gQ 13 ?_;refine AL.weak (s':=⟨[(5,.ptr 2 0),(6,.ptr 3 0),(7,pB false),(8,.ptr 4 0),(20,pB (!(x3)))],⟨[some ⟨26,[aO pw.aB2]⟩,some ⟨52,[pI po.aCf,pI po.aCt]⟩,some ⟨30,bM p5⟩,some ⟨30,[pI 0,pS s_,.nil]⟩,some ⟨163,c8 x2⟩],[]⟩⟩) FE ?_;refine dH 20 H (fun g4 H=>gE 12) fun g4 H=>?_;refine gQ 5 ?_;refine bC H (fun h5 H=>gE 6) fun h5 H=>?_;refine gQ 4 ?_;refine q1 (bW [pI x2.aCh.aB5,pS x2.aCh.aB3,aR x2.aCh.aB4]) (q1 (bW [pI p5.aB5,pS p5.aB3,aR p5.aB4]) (cC H fun z6 H=>(cC H fun z7 H=>(q1 (bE func119 (Z8 x2.aCh p5 z6 z7)) ?_))))
 refine gQ 12 ?_;refine bC H (fun h8 H=>gE 6) fun h8 H=>?_;refine gQ 5 ?_;refine q1 (bW [pI x2.aCj.aB5,pS x2.aCj.aB3,aR x2.aCj.aB4]) (cC H fun z9 H=>(cC H fun z10 H=>(q1 (bE func16 (QE (eR x2.aCh p5) x2.aCj z9 z10)) ?_)))
 exact gE 3
abbrev pV:=bG→aA→Int→Option (aA×Int)
abbrev lL:=bG→(List aA)→Int→Option ((List aA)×Int)
def s9(m:pV):Prop:= ∀(pG:bG) (p7:aA) (p8:Int) (r:aA×Int),m pG p7 p8=some r→b7 Tryz.prog 90 [.ptr 0 0,(aA.pv p7),pI p8] ⟨[some ⟨145,[aO pG.aCN.aB2,bO pG.aCq]⟩],[]⟩ (fun q t=>q=(.tup [(aA.pv r.1),pI r.2]:PV)∧t=⟨[some ⟨145,[aO pG.aCN.aB2,bO pG.aCq]⟩],[]⟩)
def sA(m:lL):Prop:= ∀(ps:bG) (pl:List aA) (p1:Int) (r:(List aA)×Int),m ps pl p1=some r→b7 Tryz.prog 140 [.ptr 0 0,aR pl,pI p1] ⟨[some ⟨145,[aO ps.aCN.aB2,bO ps.aCq]⟩],[]⟩ (fun q t=>q=(.tup [aR r.1,pI r.2]:PV)∧t=⟨[some ⟨145,[aO ps.aCN.aB2,bO ps.aCq]⟩],[]⟩)
def w8(fu:Nat)(p2:pV)(p0:lL)(pG:bG)(p7:aA)(p8:Int):Option (aA×Int):=bd (p0 pG p7.aB4 p8) fun(x2,x3)=>sw (!decide (x3=0)) (some ((aA.mk 0 s_ []),x3)) (bd (lH fu (aA.mk p7.aB5 p7.aB3 x2)) fun x6=>sw (decide (x6>400)) (some ((aA.mk 0 s_ []),2)) (sw (!decide (p7.aB5=3)) (some ((aA.mk p7.aB5 p7.aB3 x2),0)) (sw (!decide ((x2.length:Int)=1)) (some ((aA.mk p7.aB5 p7.aB3 x2),0)) (sw (decide (p8≥12)) (some ((aA.mk 0 s_ []),2)) (gd (0<x2.length) (bd (lM fu pG (aG.mk p7.aB3 (aT x2 0)) 0) fun(x13,x14)=>sw (!decide (x14=0)) (some ((aA.mk 0 s_ []),1)) (sw (!decide (x13.aB5=1)) (some ((aA.mk p7.aB5 p7.aB3 x2),0)) (bd (rF fu pG.aCN x13.aCt (aT x2 0)) fun(x18,x19)=>sw (!(x19)) (some ((aA.mk 0 s_ []),1)) (bd (p2 pG x18 (aX (p8+1))) fun(x22,x23)=>some (x22,x23))))))))))
theorem QP(fu:Nat)(p2:pV)(p0:lL)(pC:s9 p2)(pD:sA p0):s9 (w8 fu p2 p0):=by
 intro pG p7 p8 r H
 refine qJ func90 H (fun C hC H=>?_)
 refine gQ 2 ?_;refine q1 (eX (bM p7)) ?_;refine gQ 9 ?_;refine dP H fun x2 x3 z1 H=>(q1 (eU [0] [] func140 (pD pG p7.aB4 p8 _ z1)) ?_)
 refine gQ 12 ?_;refine bC H (fun h4 H=>gE 7) fun h4 H=>?_;refine gQ 15 ?_;refine q1 (bW [pI p7.aB5,pS p7.aB3,aR x2]) (bK H fun x6 z5 H=>(q1 (bE func105 (OG fu (aA.mk p7.aB5 p7.aB3 x2) _ z5)) ?_))
 refine gQ 2 ?_;refine bC H (fun h7 H=>gE 6) fun h7 H=>?_;refine gQ 8 ?_;refine AL.weak (s':=⟨[(0,.ptr 0 0),(2,pI p8),(4,.ptr 1 0),(6,.ptr 2 0),(7,pI 0),(8,aR x2),(10,.ptr 3 0),(40,pB (!decide (p7.aB5=3)))],⟨[some ⟨145,[aO pG.aCN.aB2,bO pG.aCq]⟩,some ⟨30,bM p7⟩,some ⟨30,[pI 0,pS s_,.nil]⟩,some ⟨30,[pI p7.aB5,pS p7.aB3,aR x2]⟩],[]⟩⟩) FE ?_;refine dH 40 H (fun g8 H=>?_) fun g8 H=>?_
 ·refine gQ 8 ?_;refine q1 (bW [pI p7.aB5,pS p7.aB3,aR x2]) ?_;exact gE 3
 refine gQ 5 ?_;refine bC H (fun h9 H=>?_) (fun h9 H=>?_)
 ·refine gQ 2 ?_;refine q1 (bW [pI p7.aB5,pS p7.aB3,aR x2]) ?_;exact gE 3
 refine gQ 7 ?_;refine bC H (fun h10 H=>gE 6) fun h10 H=>?_;refine gQ 2 ?_;refine cC H fun z11 H=>(dP H fun x13 x14 z12 H=>(dWa (dI [0] bF (dI [4] bZ (dBz [51] 0 0 uK (dI [8] bF (dI [53] qF (dI [54] (iI (aA.cs (aT x2 0))) (dI [52,55] rW ?_)))))))))
 refine dEz [50,56] (fun _ z=>by cases z<;>exact eU [0] [] func61 (aiO fu pG (aG.mk p7.aB3 (aT x2 0)) 0 _ z12)) ?_;refine dI [57] bF ?_
 iterate 2 refine dI [49] YR ?_
 refine dA (fun _ st h=>vAl h atH.h) (dZ 11 [11,58] jO (dI [59] bF (dN ?_)))
 refine gQ 6 ?_;refine bC H (fun h15 H=>gE 6) fun h15 H=>?_;refine gQ 8 ?_;refine bC H (fun h16 H=>?_) (fun h16 H=>?_)
 ·refine gQ 2 ?_;refine q1 (bW [pI p7.aB5,pS p7.aB3,aR x2]) ?_;exact gE 3
 refine gQ 2 ?_;refine dP H fun x18 x19 z17 H=>(dW (dI [0] bF (dI [68] uL (dI [69] bZ (dB [70] 0 1 (DU [aO pG.aCN.aB2]) (dI [11] bZ (dB [72] 0 1 (DU [pI x13.aCt.aCf,pI x13.aCt.aCt]) (dI [8] bF (dI [74] qF (dI [75] (iI (aA.cs (aT x2 0))) (dI [71,73,76] (bE func141 (TI fu pG.aCN x13.aCt (aT x2 0) _ z17)) (dI [77] bF ?_))))))))))))
 iterate 2 refine dI [67] YR ?_
 refine dE [] tAl (kU [13,78] jO (dI [79] bF (dN ?_)))
 refine gQ 6 ?_;refine bC H (fun h20 H=>gE 6) fun h20 H=>?_;refine gQ 4 ?_;refine q1 (bW [pI x18.aB5,pS x18.aB3,aR x18.aB4]) ?_;refine gQ 2 ?_;refine dP H fun x22 x23 z21 H=>(q1 (eU [0] [] func90 (pC pG x18 (aX (p8+1)) _ z21)) ?_)
 exact gE 5
def CO(fu:Nat)(p2:pV)(p0:lL)(ps:bG)(pl:List aA)(p1:Int):Nat→((List aA))→Option (LR ((List aA)) ((List aA)×Int)):=fun i1 v3=>bd (p2 ps (aT pl i1) p1) fun(x7,x8)=>sw (!decide (x8=0)) (some (.ret ([],x8))) (gd ((v3).length+(([x7]:List aA)).length≤68719476736) (some (.next (v3++([x7]:List aA)))))
def vZ(fu:Nat)(p2:pV)(p0:lL)(ps:bG)(pl:List aA)(p1:Int):Option ((List aA)×Int):=so (loopN (CO fu p2 p0 ps pl p1) (pl.length-0) 0 ([])) fun v3=>some (v3,0)
theorem KK(fu:Nat)(p2:pV)(p0:lL)(pC:s9 p2)(pD:sA p0):sA (vZ fu p2 p0):=by
 intro ps pl p1 r H
 refine qJ func140 H (fun C hC H=>?_)
 refine gQ 7 ?_;refine q1 (qE ([]:List aA)) ?_;refine gQ 9 ?_;refine gL 1 (aA.trs_len _) (fun hl4=>?_)
 try dsimp only at hl4
 refine bU (σ:=(List aA)) (fun i1 v3=>⟨[(0,.ptr 0 0),(2,pI p1),(6,.nil),(7,pI 0),(8,gM v3 0),(14,aR pl),(15,pN pl.length),(16,pN i1)],⟨[some ⟨145,[aO ps.aCN.aB2,bO ps.aCq]⟩],[⟨30,3,aA.trs (v3),false⟩]⟩⟩) (fun v3=>⟨[(6,.nil),(7,pI 0),(8,gM v3 0)],⟨[some ⟨145,[aO ps.aCN.aB2,bO ps.aCq]⟩],[⟨30,3,aA.trs (v3),false⟩]⟩⟩) (eK H) ?_ ?_
 ·rintro i1 v3 H
  refine gQ 5 ?_;refine cS H (fun h5 h5l H=>?_) (fun h5 H=>?_)
  ·refine gQ 6 ?_;refine q1 (iI (aA.cs (aT pl i1))) ?_;refine gQ 6 ?_;refine q1 (bW [pI ((aT pl i1).aB5),pS ((aT pl i1).aB3),aR ((aT pl i1).aB4)]) (q1 bF (dP H fun x7 x8 z6 H=>(q1 (eU [0] [] func90 (pC ps (aT pl i1) p1 _ z6)) ?_)))
   refine gQ 13 ?_;refine bC H (fun h9 H=>gE 6) fun h9 H=>?_;refine gQ 3 ?_;refine q1 (bW [pI x7.aB5,pS x7.aB3,aR x7.aB4]) (q1 (iF ([x7]:List aA)) (cC H fun z10 H=>(q1 (lG z10) ?_)))
   exact gE 6
  exact gE 0
 rintro v3 H
 exact gE 6
mutual
def dY:Nat→bG→aA→Int→Option (aA×Int)
 |0,_,_,_=>none
 |fu+1,pG,p7,p8=>w8 fu (dY fu) (gT fu) pG p7 p8
def gT:Nat→bG→(List aA)→Int→Option ((List aA)×Int)
 |0,_,_,_=>none
 |fu+1,ps,pl,p1=>vZ fu (dY fu) (gT fu) ps pl p1
end
theorem TO(fu:Nat):s9 (dY fu)∧sA (gT fu):=by
 induction fu with
 |zero=>exact⟨(fun pG p7 p8 r H=>by simp only [dY] at H;cases H),(fun ps pl p1 r H=>by simp only [gT] at H;cases H)⟩
 |succ fu ih=>exact⟨(fun pG p7 p8 r H=>by simp only [dY] at H;exact QP fu (dY fu) (gT fu) ih.1 ih.2 pG p7 p8 r H),(fun ps pl p1 r H=>by simp only [gT] at H;exact KK fu (dY fu) (gT fu) ih.1 ih.2 ps pl p1 r H)⟩
theorem BE(fu:Nat):s9 (dY fu):=(TO fu).1
def OE(fu:Nat)(pw:aE)(p4:List aG)(pt:aA):Option (aA×Int):=gd (xJ pw p4) (bd (dY fu (bG.mk pw (DE pw p4)) pt 0) fun(x3,x4)=>some (x3,x4))
theorem YG(fu:Nat)(pw:aE)(p4:List aG)(pt:aA)(r:aA×Int)(H:OE fu pw p4 pt=some r):bR Tryz.prog 36 [(aE.pv pw),bY p4,(aA.pv pt)] (.tup [(aA.pv r.1),pI r.2]):=by
 refine qJ func36 H (fun C hC H=>?_)
 refine gQ 2 ?_;refine q1 (eX ([aO pw.aB2])) (q1 (eX (bM pt)) ?_)
 refine gQ 4 ?_;refine cC H fun z1 H=>(dP H fun x3 x4 z2 H=>(dW (dD [3] (bW [aO pw.aB2]) (dI [1] bF (dE [8,9] (bB.callNew (ps:= [_,_]) rfl rfl func50 (by kernel_rfl) rfl rfl jN rfl rfl (OR pw p4 z1)) (dB [5] 0 1 (DU [pI pt.aB5,pS pt.aB3,aR pt.aB4]) (dE [10,11] (eU [3] [] func90 (BE fu (bG.mk pw (DE pw p4)) pt 0 _ z2)) ?_)))))))
 iterate 2 refine dI [12] YR ?_
 refine kU [6,13] jO (dI [14] bF (dN ?_))
 exact gE 0
end
end Go.Proofs.YtfcoaagbccmahaaGreat.W

namespace Go.Proofs.YtfcoaagbccmahaaGreat.W
open Go.RowKit Go.WalkArith Go.Proofs
attribute [local irreducible] lt
def zT:aA:= .mk 0 s_ []
def LX(w:aE)(o:aC)(h:aA):aA×Bool:=
 if(b6 w o).aCx=true then(if iY (b6 w o).aCh h=true then(jU (eR (b6 w o).aCh h) (b6 w o).aCj,true) else(zT,false)) else(zT,false)
def LD(w:aE)(f:aG→aH×Int)(r:Option (aA→aA×Int))(k:Int)(n:ByteArray)(xs:List aA):aA×Int:=match r with
 |none=>(zT,2)
 |some r=>if(f (.mk n (aT xs 0))).2=0 then(if(f (.mk n (aT xs 0))).1.aB5=1 then(if(LX w (f (.mk n (aT xs 0))).1.aCt (aT xs 0)).2=true then r (LX w (f (.mk n (aT xs 0))).1.aCt (aT xs 0)).1 else(zT,1)) else(.mk k n xs,0)) else(zT,1)
def EV(w:aE)(f:aG→aH×Int)(r:Option (aA→aA×Int))(k:Int)(n:ByteArray)(xs:List aA):aA×Int:=
 if 400<szT (.mk k n xs) then(zT,2) else if k=3∧xs.length=1 then LD w f r k n xs else(.mk k n xs,0)
def nl(f:aA→aA×Int):List aA→List aA×Int
 | []=>([],0)
 |x::l=>if(f x).2=0 then(if(nl f l).2=0 then((f x).1::(nl f l).1,0) else([],(nl f l).2)) else([],(f x).2)
mutual
def eS(w:aE)(f:aG→aH×Int)(r:Option (aA→aA×Int)):aA→aA×Int
 | .mk k n xs=>if(OS w f r xs).2=0 then EV w f r k n (OS w f r xs).1 else(zT,(OS w f r xs).2)
def OS(w:aE)(f:aG→aH×Int)(r:Option (aA→aA×Int)):List aA→List aA×Int
 | []=>([],0)
 |x::l=>if(eS w f r x).2=0 then(if(OS w f r l).2=0 then((eS w f r x).1::(OS w f r l).1,0) else([],(OS w f r l).2)) else([],(eS w f r x).2)
end
def BJ(w:aE)(f:aG→aH×Int):Nat→aA→aA×Int
 |0=>eS w f none
 |k+1=>eS w f (some (BJ w f k))
section
variable {w:aE} {f:aG→aH×Int} {r:Option (aA→aA×Int)}
theorem afP: ∀l,OS w f r l=nl (eS w f r) l
 | []=>by rw [OS,nl]
 |x::l=>by rw [OS,nl,afP l]
theorem tC(k:Int)(n:ByteArray)(xs:List aA):eS w f r (.mk k n xs)=if(nl (eS w f r) xs).2=0 then EV w f r k n (nl (eS w f r) xs).1 else(zT,(nl (eS w f r) xs).2):=by rw [eS,afP]
end
theorem Q4{f:aA→aA×Int}: ∀ {l:List aA},(nl f l).2=0→(nl f l).1=l.map (fun x=>(f x).1)∧ ∀x∈l,(f x).2=0
 | [],_=>⟨rfl,by simp⟩
 |x::l,h=>by
  rw [nl] at h ⊢
  by_cases h1:(f x).2=0
  ·rw [if_pos h1] at h ⊢
   by_cases h2:(nl f l).2=0
   ·obtain⟨h3,h4⟩:=Q4 h2
    rw [if_pos h2,h3]
    refine⟨rfl,fun y hy=>?_⟩
    rcases List.mem_cons.1 hy with rfl|hy
    ·exact h1
    ·exact h4 y hy
   ·rw [if_neg h2] at h;exact absurd h h2
  ·rw [if_neg h1] at h;exact absurd h h1
theorem akY{f g:aA→aA×Int}: ∀ {l:List aA},(∀x∈l,f x=g x)→nl f l=nl g l
 | [],_=>rfl
 |x::l,h=>by rw [nl,nl,h x (by simp),akY fun y hy=>h y (List.mem_cons_of_mem _ hy)]
theorem aqN{f:aA→aA×Int}: ∀ {l:List aA},(∀x∈l,f x=(x,0))→nl f l=(l,0)
 | [],_=>rfl
 |x::l,h=>by
  rw [nl,h x (by simp),aqN fun y hy=>h y (List.mem_cons_of_mem _ hy)]
  rfl
section
variable {Q:aA→Prop} {R:Int→ByteArray→Nat→Prop} (hQ:X8 Q R) {w:aE} (hW:WQ Q w) {f:aG→aH×Int} (hf: ∀g,(f g).1.aB5=1→mO w (f g).1.aCt)
include hQ hW
theorem abQ{o:aC}(ho:mO w o){h:aA}(hh:Q h)(h0:(LX w o h).2=true):Q (LX w o h).1:=by
 unfold LX at h0 ⊢
 by_cases h1:(b6 w o).aCx=true
 ·rw [if_pos h1] at h0 ⊢
  by_cases h2:iY (b6 w o).aCh h=true
  ·rw [if_pos h2]
   exact U2 hQ (wH hQ _ _ hh) _ (hW.ac o ho)
  ·rw [if_neg h2] at h0;cases h0
 ·rw [if_neg h1] at h0;cases h0
include hf
theorem apM{r:Option (aA→aA×Int)}(hr: ∀r',r=some r'→ ∀t,Q t→(r' t).2=0→Q (r' t).1){k:Int}{n:ByteArray}{xs:List aA}(h:Q (.mk k n xs))(h0:(EV w f r k n xs).2=0):Q (EV w f r k n xs).1:=by
 unfold EV at h0 ⊢
 by_cases h1:400<szT (.mk k n xs)
 ·rw [if_pos h1] at h0;cases h0
 ·rw [if_neg h1] at h0 ⊢
  by_cases h2:k=3∧xs.length=1
  ·rw [if_pos h2] at h0 ⊢
   have hx:Q (aT xs 0):=hQ.args h _ (cD (show 0<xs.length by omega))
   cases r with
   |none=>cases h0
   |some r=>
    unfold LD at h0 ⊢
    dsimp only at h0 ⊢
    by_cases h3:(f (.mk n (aT xs 0))).2=0
    ·rw [if_pos h3] at h0 ⊢
     by_cases h4:(f (.mk n (aT xs 0))).1.aB5=1
     ·rw [if_pos h4] at h0 ⊢
      by_cases h5:(LX w (f (.mk n (aT xs 0))).1.aCt (aT xs 0)).2=true
      ·rw [if_pos h5] at h0 ⊢
       exact hr r rfl _ (abQ hQ hW (hf _ h4) hx h5) h0
      ·rw [if_neg h5] at h0;cases h0
     ·rw [if_neg h4];exact h
    ·rw [if_neg h3] at h0;cases h0
  ·rw [if_neg h2];exact h
theorem OT{r:Option (aA→aA×Int)}(hr: ∀r',r=some r'→ ∀t,Q t→(r' t).2=0→Q (r' t).1): ∀t,Q t→(eS w f r t).2=0→Q (eS w f r t).1:=by
 refine aA.ind fun k n xs ih h h0=>?_
 rw [tC] at h0 ⊢
 by_cases h1:(nl (eS w f r) xs).2=0
 ·rw [if_pos h1] at h0 ⊢
  obtain⟨h2,h3⟩:=Q4 h1
  have h4:=(hQ k n xs).1 h
  refine apM hQ hW hf hr ((hQ _ _ _).2 ⟨by rw [h2,List.length_map];exact h4.1,fun y hy=>?_⟩) h0
  rw [h2] at hy
  obtain⟨x,hx,rfl⟩:=List.mem_map.1 hy
  exact ih x hx (h4.2 x hx) (h3 x hx)
 ·rw [if_neg h1] at h0;exact absurd h0 h1
theorem JP: ∀k t,Q t→(BJ w f k t).2=0→Q (BJ w f k t).1
 |0=>OT hQ hW hf fun _ e=>nomatch e
 |k+1=>OT hQ hW hf fun r' e=>by cases e;exact JP k
end
inductive Nrm (f:aG→aH×Int):aA→Prop
 |mk {k:Int} {n:ByteArray} {xs:List aA} (h: ∀x∈xs,Nrm f x) (hs: ¬400<szT (.mk k n xs)) (hp:k=3→xs.length=1→(f (.mk n (aT xs 0))).2=0∧(f (.mk n (aT xs 0))).1.aB5≠1):Nrm f (.mk k n xs)
section
variable {w:aE} {f:aG→aH×Int}
theorem an4{r:aA→aA×Int}: ∀t,Nrm f t→eS w f (some r) t=(t,0):=by
 refine aA.ind fun k n xs ih h=>?_
 cases h with
 |mk h hs hp=>
  rw [tC,aqN fun x hx=>ih x hx (h x hx),if_pos rfl]
  unfold EV
  rw [if_neg hs]
  by_cases h2:k=3∧xs.length=1
  ·obtain⟨h3,h4⟩:=hp h2.1 h2.2
   rw [if_pos h2]
   unfold LD
   dsimp only
   rw [if_pos h3,if_neg h4]
  ·rw [if_neg h2]
theorem aaQ{r:Option (aA→aA×Int)}(hr: ∀r',r=some r'→ ∀t,(r' t).2=0→Nrm f (r' t).1): ∀t,(eS w f r t).2=0→Nrm f (eS w f r t).1:=by
 refine aA.ind fun k n xs ih h0=>?_
 rw [tC] at h0 ⊢
 by_cases h1:(nl (eS w f r) xs).2=0
 ·rw [if_pos h1] at h0 ⊢
  obtain⟨h2,h3⟩:=Q4 h1
  have h4: ∀y∈(nl (eS w f r) xs).1,Nrm f y:=fun y hy=>by
   rw [h2] at hy
   obtain⟨x,hx,rfl⟩:=List.mem_map.1 hy
   exact ih x hx (h3 x hx)
  generalize(nl (eS w f r) xs).1=ys at h0 h4 ⊢
  unfold EV at h0 ⊢
  by_cases h5:400<szT (.mk k n ys)
  ·rw [if_pos h5] at h0;cases h0
  ·rw [if_neg h5] at h0 ⊢
   by_cases h6:k=3∧ys.length=1
   ·rw [if_pos h6] at h0 ⊢
    cases r with
    |none=>cases h0
    |some r=>
     unfold LD at h0 ⊢
     dsimp only at h0 ⊢
     by_cases h7:(f (.mk n (aT ys 0))).2=0
     ·rw [if_pos h7] at h0 ⊢
      by_cases h8:(f (.mk n (aT ys 0))).1.aB5=1
      ·rw [if_pos h8] at h0 ⊢
       by_cases h9:(LX w (f (.mk n (aT ys 0))).1.aCt (aT ys 0)).2=true
       ·rw [if_pos h9] at h0 ⊢
        exact hr r rfl _ h0
       ·rw [if_neg h9] at h0;cases h0
      ·rw [if_neg h8]
       exact .mk h4 h5 fun _ _=>⟨h7,h8⟩
     ·rw [if_neg h7] at h0;cases h0
   ·rw [if_neg h6]
    exact .mk h4 h5 fun a b=>absurd ⟨a,b⟩ h6
 ·rw [if_neg h1] at h0;exact absurd h0 h1
theorem aaO: ∀k t,(BJ w f k t).2=0→Nrm f (BJ w f k t).1
 |0=>aaQ fun _ e=>nomatch e
 |k+1=>aaQ fun r' e=>by cases e;exact aaO k
theorem aaP{r:Option (aA→aA×Int)}(hr: ∀r',r=some r'→ ∀t,(r' t).2≠0→(r' t).1=zT): ∀t,(eS w f r t).2≠0→(eS w f r t).1=zT:=by
 refine aA.ind fun k n xs _ h0=>?_
 rw [tC] at h0 ⊢
 by_cases h1:(nl (eS w f r) xs).2=0
 ·rw [if_pos h1] at h0 ⊢
  generalize(nl (eS w f r) xs).1=ys at h0 ⊢
  unfold EV at h0 ⊢
  by_cases h5:400<szT (.mk k n ys)
  ·rw [if_pos h5]
  ·rw [if_neg h5] at h0 ⊢
   by_cases h6:k=3∧ys.length=1
   ·rw [if_pos h6] at h0 ⊢
    cases r with
    |none=>rfl
    |some r=>
     unfold LD at h0 ⊢
     dsimp only at h0 ⊢
     by_cases h7:(f (.mk n (aT ys 0))).2=0
     ·rw [if_pos h7] at h0 ⊢
      by_cases h8:(f (.mk n (aT ys 0))).1.aB5=1
      ·rw [if_pos h8] at h0 ⊢
       by_cases h9:(LX w (f (.mk n (aT ys 0))).1.aCt (aT ys 0)).2=true
       ·rw [if_pos h9] at h0 ⊢
        exact hr r rfl _ h0
       ·rw [if_neg h9]
      ·rw [if_neg h8] at h0;exact absurd rfl h0
     ·rw [if_neg h7]
   ·rw [if_neg h6] at h0;exact absurd rfl h0
 ·rw [if_neg h1]
theorem aaN: ∀k t,(BJ w f k t).2≠0→(BJ w f k t).1=zT
 |0=>aaP fun _ e=>nomatch e
 |k+1=>aaP fun r' e=>by cases e;exact aaN k
end
section
variable {w:aE} (hW:WQ NI w) {f g:aG→aH×Int} (hf: ∀g,(f g).1.aB5=1→mO w (f g).1.aCt) (hs: ∀b:aG,NI b.aB7→f b=g b)
include hW hf hs
theorem an2{r r':Option (aA→aA×Int)}(hr:r=none∧r'=none∨ ∃p q,r=some p∧r'=some q∧ ∀t,NI t→p t=q t)(k:Int)(n:ByteArray){xs:List aA}(hx: ∀x∈xs,NI x):EV w f r k n xs=EV w g r' k n xs:=by
 unfold EV
 by_cases h1:400<szT (.mk k n xs)
 ·rw [if_pos h1,if_pos h1]
 ·rw [if_neg h1,if_neg h1]
  by_cases h2:k=3∧xs.length=1
  ·rw [if_pos h2,if_pos h2]
   have hx:=hx _ (cD (show 0<xs.length by omega))
   rcases hr with⟨rfl,rfl⟩|⟨p,q,rfl,rfl,hr⟩
   ·rfl
   ·unfold LD
    dsimp only
    rw [← hs (.mk n (aT xs 0)) hx]
    by_cases h3:(f (.mk n (aT xs 0))).2=0
    ·rw [if_pos h3,if_pos h3]
     by_cases h4:(f (.mk n (aT xs 0))).1.aB5=1
     ·rw [if_pos h4,if_pos h4]
      by_cases h5:(LX w (f (.mk n (aT xs 0))).1.aCt (aT xs 0)).2=true
      ·rw [if_pos h5,if_pos h5]
       exact hr _ (abQ qT hW (hf _ h4) hx h5)
      ·rw [if_neg h5,if_neg h5]
     ·rw [if_neg h4,if_neg h4]
    ·rw [if_neg h3,if_neg h3]
  ·rw [if_neg h2,if_neg h2]
theorem afQ{r r':Option (aA→aA×Int)}(hr:r=none∧r'=none∨ ∃p q,r=some p∧r'=some q∧ ∀t,NI t→p t=q t)(hq: ∀p,r=some p→ ∀t,NI t→(p t).2=0→NI (p t).1): ∀t,(∀x∈t.aB4,NI x)→eS w f r t=eS w g r' t:=by
 refine aA.ind fun k n xs ih hx=>?_
 replace hx: ∀x∈xs,NI x:=hx
 rw [tC,tC,← akY fun x h=>ih x h (qT.args (hx x h))]
 by_cases h1:(nl (eS w f r) xs).2=0
 ·rw [if_pos h1,if_pos h1]
  obtain⟨h2,h3⟩:=Q4 h1
  refine an2 hW hf hs hr k n fun y hy=>?_
  rw [h2] at hy
  obtain⟨x,h,rfl⟩:=List.mem_map.1 hy
  exact OT qT hW hf hq x (hx x h) (h3 x h)
 ·rw [if_neg h1,if_neg h1]
theorem afO: ∀k t,(∀x∈t.aB4,NI x)→BJ w f k t=BJ w g k t
 |0=>afQ hW hf hs (.inl ⟨rfl,rfl⟩) fun _ e=>nomatch e
 |k+1=>afQ hW hf hs (.inr ⟨_,_,rfl,rfl,fun t h=>afO k t (qT.args h)⟩) fun r' e=>by cases e;exact JP qT hW hf k
end
theorem akX{f:aA→aA×Int}{l:List aA}{F:Nat→List aA→Option (LR (List aA) (List aA×Int))}(hs: ∀i v,i<l.length→v.length=i→F i v=some (if(f (aT l i)).2=0 then .next (v++ [(f (aT l i)).1]) else .ret ([],(f (aT l i)).2))):so (loopN F (l.length-0) 0 []) (fun v=>some (v,(0:Int)))=some (nl f l):=by
 have key: ∀k i v,l.length-i=k→i≤l.length→v.length=i→loopN F k i v=some (if(nl f (l.drop i)).2=0 then .inr (v++(nl f (l.drop i)).1) else .inl ([],(nl f (l.drop i)).2)):=by
  intro k
  induction k with
  |zero=>
   intro i v hk hi hv
   rw [loopN,List.drop_of_length_le (by omega)]
   exact congrArg (fun x=>some (Sum.inr x)) (List.append_nil v).symm
  |succ k ih=>
   intro i v hk hi hv
   have h:i<l.length:=by omega
   rw [loopN,hs i v h hv,oT h,nl]
   by_cases h0:(f (aT l i)).2=0
   ·rw [if_pos h0,if_pos h0]
    refine(ih (i+1) _ (by omega) (by omega) (by rw [List.length_append,List.length_singleton];omega)).trans ?_
    by_cases h1:(nl f (l.drop (i+1))).2=0
    ·rw [if_pos h1,if_pos h1,if_pos rfl,List.append_assoc];rfl
    ·rw [if_neg h1,if_neg h1,if_neg h1]
   ·rw [if_neg h0,if_neg h0,if_neg h0]
 have:=key _ 0 [] rfl (Nat.zero_le _) rfl
 rw [List.drop_zero] at this
 rw [this]
 by_cases h:(nl f l).2=0
 ·rw [if_pos h]
  show some ([]++(nl f l).1,(0:Int))=_
  rw [List.nil_append,← h]
 ·rw [if_neg h]
  have: ∀l:List aA,(nl f l).2≠0→(nl f l).1= []:=fun l=>by
   cases l with
   |nil=>intro h;exact absurd rfl h
   |cons x l=>
    rw [nl]
    intro h
    by_cases h1:(f x).2=0
    ·rw [if_pos h1] at h ⊢
     by_cases h2:(nl f l).2=0
     ·rw [if_pos h2] at h;exact absurd rfl h
     ·rw [if_neg h2]
    ·rw [if_neg h1]
  rw [← this l h]
  rfl
theorem aqT{v:List aA}{x:aA}{c:Int}{i:Nat}(hn:v.length=i)(hi:i+1≤68719476736):sw (!decide (c=0)) (some (.ret ([],c))) (gd (v.length+([x]:List aA).length≤68719476736) (some (.next (v++ [x]))))=some (if c=0 then(.next (v++ [x]):LR (List aA) (List aA×Int)) else .ret ([],c)):=by
 by_cases h:c=0
 ·rw [if_pos h];exact gW (by simp [h]) (gO (by rw [List.length_singleton];omega) rfl)
 ·rw [if_neg h];exact jI (by simp [h]) rfl
section
variable {w:aE} {l:List aG} (h:xJ w l) {V:LB} (hV:V.length≤13000000)
include h hV
theorem apH(fu:Nat){o:aC}(ho:mO w o){x:aA}(hx:Gd (wI w++V) x):rF fu w o x=some (LX w o x):=by
 have hU:=VB h.hw hV
 unfold rF LX
 refine fY (IB fu w o ho) (gW rfl ?_)
 by_cases h1:(b6 w o).aCx=true
 ·rw [if_pos h1]
  refine gW (by rw [h1];rfl) (gO (rZ h.hw ho) (gO ⟨_,hU,hx⟩ ?_))
  by_cases h2:iY (b6 w o).aCh x=true
  ·rw [if_pos h2]
   exact gW (by rw [h2];rfl) (gO (Z2 hU (wH (l5 _) _ _ hx)) (gO ⟨_,hU,(vH h.hw).ac o ho⟩ rfl))
  ·rw [if_neg h2]
   exact jI (by rw [Bool.eq_false_iff.2 h2];rfl) rfl
 ·rw [if_neg h1]
  exact jI (by rw [Bool.eq_false_iff.2 h1];rfl) rfl
theorem ap0(fu:Nat){o:aC}(ho:mO w o){x:aA}(hx:Gd (wI w++V) x):rO fu w o x=some (LX w o x):=by
 have hU:=VB h.hw hV
 unfold rO LX
 refine fY (aoG fu w o ho (aE.len_wt h.hw) fun i hi=>(aE.len_at h.hw i hi).2.2) (gO (rZ h.hw ho) (gO ⟨_,hU,hx⟩ (gW rfl ?_)))
 by_cases h1:(b6 w o).aCx=true
 ·rw [if_pos h1]
  refine gW (by rw [h1];rfl) ?_
  by_cases h2:iY (b6 w o).aCh x=true
  ·rw [if_pos h2]
   exact gW (by rw [h2];rfl) (gO (Z2 hU (wH (l5 _) _ _ hx)) (gO ⟨_,hU,(vH h.hw).ac o ho⟩ rfl))
  ·rw [if_neg h2]
   exact jI (by rw [Bool.eq_false_iff.2 h2];rfl) rfl
 ·rw [if_neg h1]
  exact jI (by rw [Bool.eq_false_iff.2 h1];rfl) rfl
omit h hV in
theorem akZ{f:aG→aH×Int}(hf: ∀g,(f g).1.aB5=1→mO w (f g).1.aCt){r:Option (aA→aA×Int)}{k:Int}{n:ByteArray}{xs:List aA}(hx: ∀x∈xs,Gd (wI w++V) x){S:Nat→Option Int}(hS:bQ fun fu=>S fu=some (szT (.mk k n xs))){L:Bool}(hL:L=true↔r=none){T:Nat→Option (aA×Int)}(hT:k=3→xs.length=1→L=false→bQ fun fu=>T fu=some (LD w f r k n xs)):bQ fun fu=>bd (S fu) (fun x6=>sw (decide ((x6:Int)>400)) (some ((aA.mk 0 s_ []),2)) (sw (!decide ((k:Int)=3)) (some ((aA.mk k n xs),0)) (sw (!decide ((((xs.length:Nat):Int):Int)=1)) (some ((aA.mk k n xs),0)) (sw L (some ((aA.mk 0 s_ []),2)) (gd (0<xs.length) (T fu))))))=some (EV w f r k n xs):=by
 have hT':bQ fun fu=>k=3→xs.length=1→L=false→T fu=some (LD w f r k n xs):=by
  by_cases h1:k=3∧xs.length=1∧L=false
  ·exact(hT h1.1 h1.2.1 h1.2.2).imp fun fu h _ _ _=>h
  ·exact .all fun fu a b c=>absurd ⟨a,b,c⟩ h1
 refine(hS.and hT').imp fun fu ⟨hS,hT⟩=>fY hS ?_
 unfold EV
 by_cases h1:400<szT (.mk k n xs)
 ·rw [if_pos h1];exact jI (decide_eq_true h1) rfl
 ·rw [if_neg h1]
  refine gW (decide_eq_false h1) ?_
  by_cases h2:k=3
  ·refine gW (by rw [decide_eq_true h2];rfl) ?_
   by_cases h3:xs.length=1
   ·rw [if_pos ⟨h2,h3⟩]
    refine gW (by rw [decide_eq_true (by omega)];rfl) ?_
    cases L with
    |true=>rw [hL.1 rfl];exact jI rfl rfl
    |false=>exact gW rfl (gO (by omega) (hT h2 h3 rfl))
   ·rw [if_neg fun h=>h3 h.2]
    exact jI (by rw [decide_eq_false (by omega)];rfl) rfl
  ·rw [if_neg fun h=>h2 h.1]
   exact jI (by rw [decide_eq_false h2];rfl) rfl
theorem VL{n:Int}{r:Option (aA→aA×Int)}(hL:decide (n≥12)=true↔r=none)(hq: ∀r',r=some r'→ ∀t,Gd (wI w++V) t→(r' t).2=0→Gd (wI w++V) (r' t).1)(hr: ∀r',r=some r'→ ∀t,Gd (wI w++V) t→bQ fun fu=>dY fu (bG.mk w (DE w l)) t (aX (n+1))=some (r' t)): ∀t,Gd (wI w++V) t→bQ fun fu=>dY fu (bG.mk w (DE w l)) t n=some (eS w (AG w l) r t):=by
 have hf: ∀g,((AG w l) g).1.aB5=1→mO w ((AG w l) g).1.aCt:=fun g=>GU
 have hW:WQ (Gd (wI w++V)) w:=vH h.hw
 refine aA.ind fun k nm xs ih ht=>?_
 obtain⟨hR,hx⟩:=(l5 _ k nm xs).1 ht
 have hlen:xs.length≤68719476735:=hR.2
 have hA:bQ fun fu=>gT fu (bG.mk w (DE w l)) xs n=some (nl (eS w (AG w l) r) xs):=bQ.succ ((bQ.list fun x hm=>ih x hm (hx x hm)).imp fun fu hh=>by
  rw [gT]
  unfold vZ CO
  exact akX fun i v hi hv=>fY (hh _ (cD hi)) (aqT hv (by omega)))
 by_cases h1:(nl (eS w (AG w l) r) xs).2=0
 ·have hys: ∀y∈(nl (eS w (AG w l) r) xs).1,Gd (wI w++V) y:=fun y hy=>by
   obtain⟨h2,h3⟩:=Q4 h1
   rw [h2] at hy
   obtain⟨x,hm,rfl⟩:=List.mem_map.1 hy
   exact OT (l5 _) hW hf hq x (hx x hm) (h3 x hm)
  have hN:=akZ (k:=k) (n:=nm) hf hys (FS _) hL (T:=fun fu=>bd (lM fu (bG.mk w (DE w l)) (aG.mk nm (aT (nl (eS w (AG w l) r) xs).1 0)) 0) (fun(x13,x14)=>sw (!decide ((x14:Int)=0)) (some ((aA.mk 0 s_ []),1)) (sw (!decide ((x13.aB5:Int)=1)) (some ((aA.mk k nm (nl (eS w (AG w l) r) xs).1),0)) (bd (rF fu w x13.aCt (aT (nl (eS w (AG w l) r) xs).1 0)) (fun(x18,x19)=>sw (!(x19)) (some ((aA.mk 0 s_ []),1)) (bd (dY fu (bG.mk w (DE w l)) x18 (aX (n+1))) (fun(x22,x23)=>some (x22,x23)))))))) fun hk hl hLf=>by
   cases r with
   |none=>rw [hL.2 rfl] at hLf;cases hLf
   |some r=>
    have hg:Gd (wI w++V) (aT (nl (eS w (AG w l) (some r)) xs).1 0):=hys _ (cD (show 0<(nl (eS w (AG w l) (some r)) xs).1.length by omega))
    have hS:=aiL h (g:= .mk nm (aT (nl (eS w (AG w l) (some r)) xs).1 0)) ⟨V,hV,hg⟩
    unfold LD
    dsimp only
    by_cases c1:((AG w l) (.mk nm (aT (nl (eS w (AG w l) (some r)) xs).1 0))).2=0
    ·rw [if_pos c1]
     by_cases c2:((AG w l) (.mk nm (aT (nl (eS w (AG w l) (some r)) xs).1 0))).1.aB5=1
     ·rw [if_pos c2]
      have hass:=fun fu=>apH h hV fu (hf _ c2) hg
      by_cases c3:(LX w ((AG w l) (.mk nm (aT (nl (eS w (AG w l) (some r)) xs).1 0))).1.aCt (aT (nl (eS w (AG w l) (some r)) xs).1 0)).2=true
      ·rw [if_pos c3]
       exact(hS.and (hr r rfl _ (abQ (l5 _) hW (hf _ c2) hg c3))).imp fun fu ⟨a,b⟩=>fY a (gW (nd0 c1) (gW (by rw [decide_eq_true c2];rfl) (fY (hass fu) (gW (by rw [c3];rfl) (fY b rfl)))))
      ·rw [if_neg c3]
       exact hS.imp fun fu a=>fY a (gW (nd0 c1) (gW (by rw [decide_eq_true c2];rfl) (fY (hass fu) (jI (by rw [Bool.eq_false_iff.2 c3];rfl) rfl))))
     ·rw [if_neg c2]
      exact hS.imp fun fu a=>fY a (gW (nd0 c1) (jI (by rw [decide_eq_false c2];rfl) rfl))
    ·rw [if_neg c1]
     exact hS.imp fun fu a=>fY a (jI (nd1 c1) rfl)
  refine bQ.succ ((hA.and hN).imp fun fu ⟨hA,hN⟩=>?_)
  rw [dY,tC,if_pos h1]
  unfold w8
  exact fY hA (gW (nd0 h1) hN)
 ·refine bQ.succ (hA.imp fun fu hA=>?_)
  rw [dY,tC,if_neg h1]
  unfold w8
  exact fY hA (jI (nd1 h1) rfl)
theorem WP{n:Int}{r:Option (aA→aA×Int)}(hL:decide (n=0)=true↔r=none)(hq: ∀r',r=some r'→ ∀t,Gd (wI w++V) t→(r' t).2=0→Gd (wI w++V) (r' t).1)(hr: ∀r',r=some r'→ ∀t,Gd (wI w++V) t→bQ fun fu=>fH fu w l t (aX (n-1))=some (r' t)): ∀t,Gd (wI w++V) t→bQ fun fu=>fH fu w l t n=some (eS w (qO w l) r t):=by
 have hf: ∀g,((qO w l) g).1.aB5=1→mO w ((qO w l) g).1.aCt:=fun g=>GU
 have hW:WQ (Gd (wI w++V)) w:=vH h.hw
 refine aA.ind fun k nm xs ih ht=>?_
 obtain⟨hR,hx⟩:=(l5 _ k nm xs).1 ht
 have hlen:xs.length≤68719476735:=hR.2
 have hA:bQ fun fu=>sM fu w l xs n=some (nl (eS w (qO w l) r) xs):=bQ.succ ((bQ.list fun x hm=>ih x hm (hx x hm)).imp fun fu hh=>by
  rw [sM]
  unfold R9 XD
  exact akX fun i v hi hv=>fY (hh _ (cD hi)) (aqT hv (by omega)))
 by_cases h1:(nl (eS w (qO w l) r) xs).2=0
 ·have hys: ∀y∈(nl (eS w (qO w l) r) xs).1,Gd (wI w++V) y:=fun y hy=>by
   obtain⟨h2,h3⟩:=Q4 h1
   rw [h2] at hy
   obtain⟨x,hm,rfl⟩:=List.mem_map.1 hy
   exact OT (l5 _) hW hf hq x (hx x hm) (h3 x hm)
  have hN:=akZ (k:=k) (n:=nm) hf hys (GB _) hL (T:=fun fu=>gd (xJ w l) (gd (vJ w (aG.aB7 (aG.mk nm (aT (nl (eS w (qO w l) r) xs).1 0)))) (sw (!decide (((qO w l (aG.mk nm (aT (nl (eS w (qO w l) r) xs).1 0))).2:Int)=0)) (some ((aA.mk 0 s_ []),1)) (sw (!decide ((((qO w l (aG.mk nm (aT (nl (eS w (qO w l) r) xs).1 0))).1).aB5:Int)=1)) (some ((aA.mk k nm (nl (eS w (qO w l) r) xs).1),0)) (bd (rO fu w (((qO w l (aG.mk nm (aT (nl (eS w (qO w l) r) xs).1 0))).1).aCt) (aT (nl (eS w (qO w l) r) xs).1 0)) (fun(x18,x19)=>sw (!(x19)) (some ((aA.mk 0 s_ []),1)) (bd (fH fu w l x18 (aX (n-1))) (fun(x22,x23)=>some (x22,x23))))))))) fun hk hl hLf=>by
   cases r with
   |none=>rw [hL.2 rfl] at hLf;cases hLf
   |some r=>
    have hg:Gd (wI w++V) (aT (nl (eS w (qO w l) (some r)) xs).1 0):=hys _ (cD (show 0<(nl (eS w (qO w l) (some r)) xs).1.length by omega))
    have hS:bQ fun _=>True:= .all fun _=>trivial
    unfold LD
    dsimp only
    by_cases c1:((qO w l) (.mk nm (aT (nl (eS w (qO w l) (some r)) xs).1 0))).2=0
    ·rw [if_pos c1]
     by_cases c2:((qO w l) (.mk nm (aT (nl (eS w (qO w l) (some r)) xs).1 0))).1.aB5=1
     ·rw [if_pos c2]
      have hass:=fun fu=>ap0 h hV fu (hf _ c2) hg
      by_cases c3:(LX w ((qO w l) (.mk nm (aT (nl (eS w (qO w l) (some r)) xs).1 0))).1.aCt (aT (nl (eS w (qO w l) (some r)) xs).1 0)).2=true
      ·rw [if_pos c3]
       exact(hS.and (hr r rfl _ (abQ (l5 _) hW (hf _ c2) hg c3))).imp fun fu ⟨a,b⟩=>gO h (gO ⟨V,hV,hg⟩ (gW (nd0 c1) (gW (by rw [decide_eq_true c2];rfl) (fY (hass fu) (gW (by rw [c3];rfl) (fY b rfl))))))
      ·rw [if_neg c3]
       exact hS.imp fun fu a=>gO h (gO ⟨V,hV,hg⟩ (gW (nd0 c1) (gW (by rw [decide_eq_true c2];rfl) (fY (hass fu) (jI (by rw [Bool.eq_false_iff.2 c3];rfl) rfl)))))
     ·rw [if_neg c2]
      exact hS.imp fun fu a=>gO h (gO ⟨V,hV,hg⟩ (gW (nd0 c1) (jI (by rw [decide_eq_false c2];rfl) rfl)))
    ·rw [if_neg c1]
     exact hS.imp fun fu a=>gO h (gO ⟨V,hV,hg⟩ (jI (nd1 c1) rfl))
  refine bQ.succ ((hA.and hN).imp fun fu ⟨hA,hN⟩=>?_)
  rw [fH,tC,if_pos h1]
  unfold AF
  exact fY hA (gW (nd0 h1) hN)
 ·refine bQ.succ (hA.imp fun fu hA=>?_)
  rw [fH,tC,if_neg h1]
  unfold AF
  exact fY hA (jI (nd1 h1) rfl)
theorem OD: ∀(k:Nat) (n:Int),n+k=12→0≤n→ ∀t,Gd (wI w++V) t→bQ fun fu=>dY fu (bG.mk w (DE w l)) t n=some (BJ w (AG w l) k t)
 |0,n,hk,_=>VL h hV (r:=none) ⟨fun _=>rfl,fun _=>decide_eq_true (by omega)⟩ (fun _ e=>nomatch e) fun _ e=>nomatch e
 |k+1,n,hk,hn=>VL h hV (r:=some (BJ w (AG w l) k)) ⟨fun e=>by have:=of_decide_eq_true e;omega,fun e=>nomatch e⟩ (fun r' e=>by cases e;exact JP (l5 _) (vH h.hw) (fun g=>GU) k) fun r' e=>by
  cases e
  rw [DA (by omega) (by omega)]
  exact OD k (n+1) (by omega) (by omega)
theorem af0: ∀k:Nat,k≤12→ ∀t,Gd (wI w++V) t→bQ fun fu=>fH fu w l t (k:Int)=some (BJ w (qO w l) k t)
 |0,_=>WP h hV (r:=none) ⟨fun _=>rfl,fun _=>rfl⟩ (fun _ e=>nomatch e) fun _ e=>nomatch e
 |k+1,hk=>WP h hV (r:=some (BJ w (qO w l) k)) ⟨fun e=>by have:=of_decide_eq_true e;omega,fun e=>nomatch e⟩ (fun r' e=>by cases e;exact JP (l5 _) (vH h.hw) (fun g=>GU) k) fun r' e=>by
  cases e
  rw [show aX (((k+1:Nat):Int)-1)=(k:Int) by rw [DA (by omega) (by omega)];omega]
  exact af0 k (by omega)
end
def qL(w:aE)(l:List aG)(t:aA):aA×Int:=BJ w (AG w l) 12 t
def zU(w:aE)(l:List aG)(t:aA):aA×Int:=BJ w (qO w l) 12 t
theorem apI(w:aE)(l:List aG)(t:aA)(h:xJ w l)(ht:vJ w t):bR Tryz.prog 36 [(aE.pv w),bY l,(aA.pv t)] (.tup [(aA.pv (qL w l t).1),pI (qL w l t).2]):=by
 obtain⟨V,h1,h2⟩:=ht
 obtain⟨fu,hf⟩:=(OD h h1 12 0 rfl (Int.le_refl _) t h2).get
 refine YG fu w l t (qL w l t) ?_
 unfold OE
 exact gO h (fY hf rfl)
theorem acM(w:aE)(l:List aG)(t:aA)(h:xJ w l)(ht:vJ w t):bR Tryz.prog 37 [(aE.pv w),bY l,(aA.pv t)] (.tup [(aA.pv (zU w l t).1),pI (zU w l t).2]):=by
 obtain⟨V,h1,h2⟩:=ht
 obtain⟨fu,hf⟩:=(af0 h h1 12 (Nat.le_refl _) t h2).get
 refine Y1 fu w l t (zU w l t) ?_
 unfold O1
 exact fY hf rfl
theorem an3{w:aE}{l:List aG}(h:xJ w l){t:aA}(ht:vJ w t)(h0:(qL w l t).2=0):vJ w (qL w l t).1:=let⟨V,h1,h2⟩:=ht;⟨V,h1,JP (l5 _) (vH h.hw) (fun g=>GU) 12 t h2 h0⟩
theorem afR{w:aE}{l:List aG}{t:aA}(h0:(qL w l t).2=0):qL w l (qL w l t).1=((qL w l t).1,0):=an4 _ (aaO 12 t h0)
theorem arE{w:aE}(hW:WQ NI w){l:List aG}{t:aA}(h: ∀x∈t.aB4,NI x):qL w l t=zU w l t:=afO hW (fun g=>GU) (fun b hb=>(arZ hW l hb).symm) 12 t h
end Go.Proofs.YtfcoaagbccmahaaGreat.W

namespace Go.Proofs.YtfcoaagbccmahaaGreat.W
set_option maxRecDepth 100000
set_option maxHeartbeats 40000000
noncomputable section
open Tryz Go.RowKit Go.Proofs
attribute [local irreducible] lt
def A7(fu:Nat)(pw:aE)(p0:List aG)(pa pb:aA):Option Bool:=gd (xJ pw p0) (bd (dY fu (bG.mk pw (DE pw p0)) pa 0) fun(x3,x4)=>bd (dY fu (bG.mk pw (DE pw p0)) pb 0) fun(x6,x7)=>sw (decide (x4=0)) (sw (decide (x7=0)) (some (aA.eq x3 x6)) (some false)) (some false))
theorem KH(fu:Nat)(pw:aE)(p0:List aG)(pa:aA)(pb:aA)(r:Bool)(H:A7 fu pw p0 pa pb=some r):bR Tryz.prog 41 [(aE.pv pw),bY p0,(aA.pv pa),(aA.pv pb)] (pB r):=by
 refine qJ func41 H (fun C hC H=>?_)
 refine gQ 2 ?_;refine q1 (eX ([aO pw.aB2])) (q1 (eX (bM pa)) (q1 (eX (bM pb)) ?_))
 refine gQ 4 ?_;refine q1 (bW [aO pw.aB2]) (q1 bF (cC H fun z1 H=>(q1 (bB.callNew (ps:= [_,_]) rfl rfl func50 (by kernel_rfl) rfl rfl jN rfl rfl (OR pw p0 z1)) ?_)))
 refine gQ 5 ?_;refine q1 (bW [pI pa.aB5,pS pa.aB3,aR pa.aB4]) (dP H fun x3 x4 z2 H=>(q1 (eU [3] [] func90 (BE fu (bG.mk pw (DE pw p0)) pa 0 _ z2)) ?_))
 refine gQ 10 ?_;refine q1 (bW [pI pb.aB5,pS pb.aB3,aR pb.aB4]) (dP H fun x6 x7 z5 H=>(q1 (eU [3] [] func90 (BE fu (bG.mk pw (DE pw p0)) pb 0 _ z5)) ?_))
 refine gQ 12 ?_;refine dH 31 H (fun g8 H=>?_) fun g8 H=>?_
 ·refine gQ 4 ?_;refine dH 35 H (fun g9 H=>?_) fun g9 H=>?_
  ·refine qg g9 (bW [pI x3.aB5,pS x3.aB3,aR x3.aB4]) (qg g9 (bW [pI x6.aB5,pS x6.aB3,aR x6.aB4]) (qg g9 (bE func95 (w7 x3 x6)) ?_))
   exact gE 3
  exact gE 6
 exact gE 10
def BK(fu:Nat)(pw:aE)(p0:List aG)(pa pb:aA):Option Bool:=gd (xJ pw p0) (gd (vJ pw pa) (gd (vJ pw pb) (sw (decide (((zU pw p0 pa).2:Int)=0)) (sw (decide (((zU pw p0 pb).2:Int)=0)) (some (aA.eq ((zU pw p0 pa).1) ((zU pw p0 pb).1))) (some false)) (some false))))
theorem KN(fu:Nat)(pw:aE)(p0:List aG)(pa:aA)(pb:aA)(r:Bool)(H:BK fu pw p0 pa pb=some r):bR Tryz.prog 42 [(aE.pv pw),bY p0,(aA.pv pa),(aA.pv pb)] (pB r):=by
 refine qJ func42 H (fun C hC H=>?_)
 refine gQ 2 ?_;refine q1 (eX ([aO pw.aB2])) (q1 (eX (bM pa)) (q1 (eX (bM pb)) ?_))
 refine gQ 4 ?_;refine q1 (bW [aO pw.aB2]) (q1 bF (q1 (bW [pI pa.aB5,pS pa.aB3,aR pa.aB4]) (cC H fun z1 H=>(cC H fun z2 H=>(q1 (bE func37 (acM pw p0 pa z1 z2)) ?_)))))
 refine gQ 9 ?_;refine q1 (bW [aO pw.aB2]) (q1 bF (q1 (bW [pI pb.aB5,pS pb.aB3,aR pb.aB4]) (cC H fun z3 H=>(q1 (bE func37 (acM pw p0 pb z1 z3)) ?_))))
 refine gQ 12 ?_;refine dH 29 H (fun g4 H=>?_) fun g4 H=>?_
 ·refine gQ 4 ?_;refine dH 33 H (fun g5 H=>?_) fun g5 H=>?_
  ·refine qg g5 (bW [pI (((zU pw p0 pa).1).aB5),pS (((zU pw p0 pa).1).aB3),aR (((zU pw p0 pa).1).aB4)]) (qg g5 (bW [pI (((zU pw p0 pb).1).aB5),pS (((zU pw p0 pb).1).aB3),aR (((zU pw p0 pb).1).aB4)]) (qg g5 (bE func38 (xA ((zU pw p0 pa).1) ((zU pw p0 pb).1))) ?_))
   exact gE 3
  exact gE 6
 exact gE 10
end
end Go.Proofs.YtfcoaagbccmahaaGreat.W

namespace Go.Proofs.YtfcoaagbccmahaaGreat.W
open Go.RowKit Go.WalkArith Go.Proofs
def eqN(x y:aA×Int):Bool:=decide (x.2=0)&&(decide (y.2=0)&&aA.eq x.1 y.1)
def LZ(w:aE)(l:List aG)(a b:aA):Bool:=eqN (qL w l a) (qL w l b)
def eqS(w:aE)(l:List aG)(a b:aA):Bool:=eqN (zU w l a) (zU w l b)
theorem aoW(x y:aA×Int):sw (decide (x.2=0)) (sw (decide (y.2=0)) (some (aA.eq x.1 y.1)) (some false)) (some false)=some (eqN x y):=by
 unfold eqN
 cases decide (x.2=0)<;>cases decide (y.2=0)<;>rfl
theorem N9(w:aE)(l:List aG)(a b:aA)(h:xJ w l)(ha:vJ w a)(hb:vJ w b):bR Tryz.prog 41 [(aE.pv w),bY l,(aA.pv a),(aA.pv b)] (pB (LZ w l a b)):=by
 obtain⟨V,h1,h2⟩:=ha
 obtain⟨V',h3,h4⟩:=hb
 obtain⟨fu,hf,hg⟩:=((OD h h1 12 0 rfl (Int.le_refl _) a h2).and (OD h h3 12 0 rfl (Int.le_refl _) b h4)).get
 refine KH fu w l a b (LZ w l a b) ?_
 unfold A7
 exact gO h (fY hf (fY hg (aoW _ _)))
theorem ap1(w:aE)(l:List aG)(a b:aA)(h:xJ w l)(ha:vJ w a)(hb:vJ w b):bR Tryz.prog 42 [(aE.pv w),bY l,(aA.pv a),(aA.pv b)] (pB (eqS w l a b)):=by
 refine KN 0 w l a b (eqS w l a b) ?_
 unfold BK
 exact gO h (gO ha (gO hb (aoW _ _)))
end Go.Proofs.YtfcoaagbccmahaaGreat.W

namespace Go.Proofs.YtfcoaagbccmahaaGreat.W
set_option maxRecDepth 100000
set_option maxHeartbeats 40000000
noncomputable section
open Tryz Go.RowKit Go.Proofs
attribute [local irreducible] lt
def aaY(fu:Nat)(pc d1:DS)(y3:ByteArray)(x6:aA)(d7:DS):Nat→(Int×ByteArray×(List aA)×DS)→Option (LR (Int×ByteArray×(List aA)×DS) (aA×DS)):=fun i9 (v11,v12,v13,v10)=>lt (v10.after 4) fun d16=>sw (decide ((v10.below 4:Int)=0)) (bd (eY fu o6 ([(aA.mk v11 v12 v13)]:List aA)) fun x20=>some (.next (x20.aB5,x20.aB3,x20.aB4,d16))) (sw (decide ((v10.below 4:Int)=1)) (bd (uJ fu fC (aA.mk v11 v12 v13)) fun x23=>some (.next (x23.aB5,x23.aB3,x23.aB4,d16))) (sw (decide ((v10.below 4:Int)=2)) (bd (eY fu eG ([])) fun x26=>bd (uJ fu fC x26) fun x28=>bd (eY fu lY ([(aA.mk v11 v12 v13),x28]:List aA)) fun x30=>some (.next (x30.aB5,x30.aB3,x30.aB4,d16))) (bd (eY fu cH ([(aA.mk v11 v12 v13)]:List aA)) fun x32=>some (.next (x32.aB5,x32.aB3,x32.aB4,d16)))))
def E9(fu:Nat)(pc:DS):Option (aA×DS):=lt (pc.after ([eG,eD,gG]:LB).length) fun d1=>lt (pc.pick ([eG,eD,gG]:LB)) fun y3=>bd (eY fu y3 ([])) fun x6=>lt (d1.after 4) fun d7=>so (loopN (aaY fu pc d1 y3 x6 d7) (d1.below 4-0) 0 (x6.aB5,x6.aB3,x6.aB4,d7)) fun(v11,v12,v13,v10)=>lt (v10.after 4) fun d33=>sw (decide (v10.below 4=0)) (bd (l4 fu fW) fun x37=>bd (eY fu o6 ([x37]:List aA)) fun x39=>bd (uJ fu fC x39) fun x41=>bd (eY fu lY ([(aA.mk v11 v12 v13),x41]:List aA)) fun x43=>some (x43,d33)) (some ((aA.mk v11 v12 v13),d33))
theorem aaZ(fu:Nat)(pc:DS)(r:aA×DS)(H:E9 fu pc=some r):b7 Tryz.prog 89 [.ptr 0 0] ⟨[some ⟨133,dC pc⟩],[]⟩ (fun q t=>q=((aA.pv r.1))∧t=⟨[some ⟨133,dC r.2⟩],[]⟩):=by
 refine qJ func89 H (fun C hC H=>?_)
 refine gQ 7 ?_;refine q1 (iF ([eG,eD,gG]:LB)) (fZ H fun d1 h2 H=>(fZ H fun y3 h4 H=>(q1 (eU [0] [] func48 (PP h2 h4 (f7 pc ([eG,eD,gG]:LB) (by decide)))) (bK H fun x6 z5 H=>(q1 (bE func47 (mJ (fO fu) y3 ([]) _ z5)) ?_)))))
 refine gQ 6 ?_;refine AL.weak (s':=⟨[(0,.ptr 0 0),(2,.ptr 1 0),(3,.ptr 2 0),(10,.ptr 0 0)],⟨[some ⟨133,dC d1⟩,some ⟨30,[pI 0,pS s_,.nil]⟩,some ⟨30,bM x6⟩],[]⟩⟩) FE ?_;refine fZ H fun d7 h8 H=>(q1 (eU [0] [] func73 (EU h8 (fI d1 4))) ?_)
 refine gQ 7 ?_
 have hb14:=DS.below_lt (d:=d1) (n:=4) (by decide)
 refine bU (σ:=Int×ByteArray×(List aA)×DS) (fun i9 (v11,v12,v13,v10)=>⟨[(0,.ptr 0 0),(2,.ptr 1 0),(3,.ptr 2 0),(4,pN (d1.below 4)),(5,pN i9)],⟨[some ⟨133,dC v10⟩,some ⟨30,[pI 0,pS s_,.nil]⟩,some ⟨30,[pI v11,pS v12,aR v13]⟩],[]⟩⟩) (fun(v11,v12,v13,v10)=>⟨[(0,.ptr 0 0),(2,.ptr 1 0),(3,.ptr 2 0)],⟨[some ⟨133,dC v10⟩,some ⟨30,[pI 0,pS s_,.nil]⟩,some ⟨30,[pI v11,pS v12,aR v13]⟩],[]⟩⟩) (eK H) ?_ ?_
 ·rintro i9 ⟨v11,v12,v13,v10⟩ H
  refine gQ 7 ?_;refine cS H (fun h15 h15l H=>?_) (fun h15 H=>?_)
  ·have h15n:i9<d1.below 4:=by have:=of_decide_eq_true h15;omega
   refine gQ 6 ?_;refine AL.weak (s':=⟨[(0,.ptr 0 0),(2,.ptr 1 0),(3,.ptr 2 0),(4,pN (d1.below 4)),(5,pN i9),(12,pN i9),(13,pN (d1.below 4)),(14,pB (decide ((i9:Int)<(d1.below 4:Int)))),(17,.ptr 0 0)],⟨[some ⟨133,dC v10⟩,some ⟨30,[pI 0,pS s_,.nil]⟩,some ⟨30,[pI v11,pS v12,aR v13]⟩],[]⟩⟩) FE ?_;refine fZ H fun d16 h17 H=>(q1 (eU [0] [] func73 (EU h17 (fI v10 4))) ?_)
   refine gQ 7 ?_;refine cQ.weak (s':=⟨[(0,.ptr 0 0),(2,.ptr 1 0),(3,.ptr 2 0),(4,pN (d1.below 4)),(5,pN i9),(12,pN i9),(13,pN (d1.below 4)),(14,pB (decide ((i9:Int)<(d1.below 4:Int)))),(17,.ptr 0 0),(18,pN (v10.below 4)),(22,pB (decide ((v10.below 4:Int)=0))),(23,pB (decide ((v10.below 4:Int)=0)))],⟨[some ⟨133,dC d16⟩,some ⟨30,[pI 0,pS s_,.nil]⟩,some ⟨30,[pI v11,pS v12,aR v13]⟩],[]⟩⟩) FE ?_;refine bC H (fun h18 H=>?_) (fun h18 H=>?_)
   ·refine qR (q1 (bW [pI v11,pS v12,aR v13]) (q1 (iF ([(aA.mk v11 v12 v13)]:List aA)) (bK H fun x20 z19 H=>(q1 (bE func47 (mJ (fO fu) o6 ([(aA.mk v11 v12 v13)]:List aA) _ z19)) ?_))))
    exact gE 7
   refine gQ 5 ?_;refine cQ.weak (s':=⟨[(0,.ptr 0 0),(2,.ptr 1 0),(3,.ptr 2 0),(4,pN (d1.below 4)),(5,pN i9),(12,pN i9),(13,pN (d1.below 4)),(14,pB (decide ((i9:Int)<(d1.below 4:Int)))),(17,.ptr 0 0),(18,pN (v10.below 4)),(22,pB (decide ((v10.below 4:Int)=0))),(23,pB (decide ((v10.below 4:Int)=0))),(27,pB (decide ((v10.below 4:Int)=1))),(28,pB (decide ((v10.below 4:Int)=1)))],⟨[some ⟨133,dC d16⟩,some ⟨30,[pI 0,pS s_,.nil]⟩,some ⟨30,[pI v11,pS v12,aR v13]⟩],[]⟩⟩) FE ?_;refine bC H (fun h21 H=>?_) (fun h21 H=>?_)
   ·refine qR (q1 (bW [pI v11,pS v12,aR v13]) ?_)
    refine AL.weak (s':=⟨[(0,.ptr 0 0),(2,.ptr 1 0),(3,.ptr 2 0),(4,pN (d1.below 4)),(5,pN i9),(12,pN i9),(13,pN (d1.below 4)),(14,pB (decide ((i9:Int)<(d1.below 4:Int)))),(17,.ptr 0 0),(18,pN (v10.below 4)),(22,pB (decide ((v10.below 4:Int)=0))),(23,pB (decide ((v10.below 4:Int)=0))),(27,pB (decide ((v10.below 4:Int)=1))),(28,pB (decide ((v10.below 4:Int)=1))),(29,.agg [pI v11,pS v12,aR v13])],⟨[some ⟨133,dC d16⟩,some ⟨30,[pI 0,pS s_,.nil]⟩,some ⟨30,[pI v11,pS v12,aR v13]⟩],[]⟩⟩) FE ?_;refine bK H fun x23 z22 H=>(q1 (bE func139 (M8 (B9 fu) fC (aA.mk v11 v12 v13) _ z22)) ?_)
    exact gE 7
   refine gQ 5 ?_;refine cQ.weak (s':=⟨[(0,.ptr 0 0),(2,.ptr 1 0),(3,.ptr 2 0),(4,pN (d1.below 4)),(5,pN i9),(12,pN i9),(13,pN (d1.below 4)),(14,pB (decide ((i9:Int)<(d1.below 4:Int)))),(17,.ptr 0 0),(18,pN (v10.below 4)),(22,pB (decide ((v10.below 4:Int)=0))),(23,pB (decide ((v10.below 4:Int)=0))),(27,pB (decide ((v10.below 4:Int)=1))),(28,pB (decide ((v10.below 4:Int)=1))),(31,pB (decide ((v10.below 4:Int)=2))),(32,pB (decide ((v10.below 4:Int)=2)))],⟨[some ⟨133,dC d16⟩,some ⟨30,[pI 0,pS s_,.nil]⟩,some ⟨30,[pI v11,pS v12,aR v13]⟩],[]⟩⟩) FE ?_;refine bC H (fun h24 H=>?_) (fun h24 H=>?_)
   ·refine bK H fun x26 z25 H=>(bK H fun x28 z27 H=>(bK H fun x30 z29 H=>(dW (dD [3] (bW [pI v11,pS v12,aR v13]) (dI [] (bE func47 (mJ (fO fu) eG ([]) _ z25)) (dI [34] (bE func139 (M8 (B9 fu) fC x26 _ z27)) (dI [33,35] (iF ([(aA.mk v11 v12 v13),x28]:List aA)) (dI [36] (bE func47 (mJ (fO fu) lY ([(aA.mk v11 v12 v13),x28]:List aA) _ z29)) (kU [3,37] jO (dN ?_))))))))))
    exact gE 5
   refine qR (q1 (bW [pI v11,pS v12,aR v13]) (q1 (iF ([(aA.mk v11 v12 v13)]:List aA)) ?_))
   refine AL.weak (s':=⟨[(0,.ptr 0 0),(2,.ptr 1 0),(3,.ptr 2 0),(4,pN (d1.below 4)),(5,pN i9),(12,pN i9),(13,pN (d1.below 4)),(14,pB (decide ((i9:Int)<(d1.below 4:Int)))),(17,.ptr 0 0),(18,pN (v10.below 4)),(19,.agg [pI v11,pS v12,aR v13]),(20,aR ([(aA.mk v11 v12 v13)]:List aA)),(22,pB (decide ((v10.below 4:Int)=0))),(23,pB (decide ((v10.below 4:Int)=0))),(27,pB (decide ((v10.below 4:Int)=1))),(28,pB (decide ((v10.below 4:Int)=1))),(31,pB (decide ((v10.below 4:Int)=2))),(32,pB (decide ((v10.below 4:Int)=2)))],⟨[some ⟨133,dC d16⟩,some ⟨30,[pI 0,pS s_,.nil]⟩,some ⟨30,[pI v11,pS v12,aR v13]⟩],[]⟩⟩) FE ?_;refine bK H fun x32 z31 H=>(q1 (bE func47 (mJ (fO fu) cH ([(aA.mk v11 v12 v13)]:List aA) _ z31)) ?_)
   exact gE 7
  exact gE 0
 rintro⟨v11,v12,v13,v10⟩ H
 refine gQ 4 ?_;refine fZ H fun d33 h34 H=>(q1 (eU [0] [] func45 (EU h34 (l6 v10 4))) (qN (cQ.weak (s':=⟨[(2,.ptr 1 0),(3,.ptr 2 0),(39,pB (decide (v10.below 4=0)))],⟨[some ⟨133,dC d33⟩,some ⟨30,[pI 0,pS s_,.nil]⟩,some ⟨30,[pI v11,pS v12,aR v13]⟩],[]⟩⟩) FE ?_)))
 refine bC H (fun h35 H=>?_) (fun h35 H=>?_)
 ·refine bK H fun x37 z36 H=>(bK H fun x39 z38 H=>(bK H fun x41 z40 H=>(bK H fun x43 z42 H=>(dW (dD [3] (bW [pI v11,pS v12,aR v13]) (dI [] (bE func137 (kD (jH fu) fW _ z36)) (dI [41] (iF ([x37]:List aA)) (dI [42] (bE func47 (mJ (fO fu) o6 ([x37]:List aA) _ z38)) (dI [43] (bE func139 (M8 (B9 fu) fC x39 _ z40)) (dI [40,44] (iF ([(aA.mk v11 v12 v13),x41]:List aA)) (dI [45] (bE func47 (mJ (fO fu) lY ([(aA.mk v11 v12 v13),x41]:List aA) _ z42)) (kU [3,46] jO (dN ?_)))))))))))))
  refine gQ 2 ?_;refine q1 (bW [pI x43.aB5,pS x43.aB3,aR x43.aB4]) ?_;exact gE 2
 refine gQ 3 ?_;refine q1 (bW [pI v11,pS v12,aR v13]) ?_;exact gE 2
def lE(fu:Nat)(p0:List UInt8):Option (aE×(List aG)×aA×aA):=gd ((p0).length≤1048576) (bd (yB fu (DS.start p0)) fun(x3,x4)=>bd (I0 fu x4) fun(x6,x7)=>bd (E9 fu x7) fun(x9,x10)=>bd (E9 fu x10) fun(x12,x13)=>lt (x13.after 2) fun d14=>sw (decide (x13.below 2=0)) (gd (iC x9) (lt (d14.after 2) fun d18=>sw (decide (d14.below 2=0)) (gd (xJ x3 x6) (gd (vJ x3 x9) (some (x3,x6,x9,((zU x3 x6 x9).1))))) (some (x3,x6,x9,x9)))) (some (x3,x6,x9,x12)))
theorem EZ(fu:Nat)(p0:List UInt8)(r:aE×(List aG)×aA×aA)(H:lE fu p0=some r):bR Tryz.prog 40 [rU p0] (.tup [(aE.pv r.1),bY r.2.1,(aA.pv r.2.2.1),(aA.pv r.2.2.2)]):=by
 refine qJ func40 H (fun C hC H=>?_)
 refine gQ 10 ?_;refine cC H fun z1 H=>(q1 (bB.callNew (ps:= [_]) rfl rfl func43 (by kernel_rfl) rfl rfl jN rfl rfl (arD p0 z1)) ?_)
 refine gQ 5 ?_;refine AL.weak (s':=⟨[(2,.ptr 0 0),(3,.nil),(4,.ptr 1 0),(5,.ptr 2 0),(6,.ptr 3 0),(13,.ptr 3 0)],⟨[some ⟨26,[.nil]⟩,some ⟨30,[pI 0,pS s_,.nil]⟩,some ⟨30,[pI 0,pS s_,.nil]⟩,some ⟨133,dC (DS.start p0)⟩],[]⟩⟩) FE ?_;refine dP H fun x3 x4 z2 H=>(q1 (eU [3] [] func69 (adE fu (DS.start p0) _ z2)) ?_)
 refine gQ 6 ?_;refine dP H fun x6 x7 z5 H=>(q1 (eU [3] [] func87 (adH fu x4 _ z5)) ?_)
 refine gQ 5 ?_;refine AL.weak (s':=⟨[(2,.ptr 0 0),(3,.nil),(4,.ptr 1 0),(5,.ptr 2 0),(6,.ptr 3 0),(7,.ptr 4 0),(8,bY x6),(17,.ptr 3 0)],⟨[some ⟨26,[.nil]⟩,some ⟨30,[pI 0,pS s_,.nil]⟩,some ⟨30,[pI 0,pS s_,.nil]⟩,some ⟨133,dC x7⟩,some ⟨26,[aO x3.aB2]⟩],[]⟩⟩) FE ?_;refine dP H fun x9 x10 z8 H=>(q1 (eU [3] [] func89 (aaZ fu x7 _ z8)) ?_)
 refine gQ 6 ?_;refine dP H fun x12 x13 z11 H=>(q1 (eU [3] [] func89 (aaZ fu x10 _ z11)) ?_)
 refine gQ 7 ?_;refine AL.weak (s':=⟨[(2,.ptr 0 0),(3,.nil),(4,.ptr 1 0),(5,.ptr 2 0),(6,.ptr 3 0),(7,.ptr 4 0),(8,bY x6),(9,.ptr 5 0),(10,.ptr 6 0),(21,.ptr 3 0)],⟨[some ⟨26,[.nil]⟩,some ⟨30,[pI 0,pS s_,.nil]⟩,some ⟨30,[pI 0,pS s_,.nil]⟩,some ⟨133,dC x13⟩,some ⟨26,[aO x3.aB2]⟩,some ⟨30,bM x9⟩,some ⟨30,bM x12⟩],[]⟩⟩) FE ?_;refine fZ H fun d14 h15 H=>(q1 (eU [3] [] func45 (EU h15 (l6 x13 2))) (qN (cQ.weak (s':=⟨[(2,.ptr 0 0),(3,.nil),(4,.ptr 1 0),(5,.ptr 2 0),(6,.ptr 3 0),(7,.ptr 4 0),(8,bY x6),(9,.ptr 5 0),(10,.ptr 6 0),(22,pB (decide (x13.below 2=0)))],⟨[some ⟨26,[.nil]⟩,some ⟨30,[pI 0,pS s_,.nil]⟩,some ⟨30,[pI 0,pS s_,.nil]⟩,some ⟨133,dC d14⟩,some ⟨26,[aO x3.aB2]⟩,some ⟨30,bM x9⟩,some ⟨30,bM x12⟩],[]⟩⟩) FE ?_)))
 refine bC H (fun h16 H=>?_) (fun h16 H=>?_)
 ·refine gQ 2 ?_;refine q1 (bW [pI x9.aB5,pS x9.aB3,aR x9.aB4]) (cC H fun z17 H=>(q1 (bE func56 (B6 x9 z17)) ?_))
  refine gQ 5 ?_;refine fZ H fun d18 h19 H=>(q1 (eU [3] [] func45 (EU h19 (l6 d14 2))) (qN (cQ.weak (s':=⟨[(2,.ptr 0 0),(3,.nil),(4,.ptr 1 0),(5,.ptr 2 0),(7,.ptr 4 0),(8,bY x6),(9,.ptr 5 0),(10,.ptr 6 0),(26,pB (decide (d14.below 2=0)))],⟨[some ⟨26,[.nil]⟩,some ⟨30,[pI 0,pS s_,.nil]⟩,some ⟨30,[pI 0,pS s_,.nil]⟩,some ⟨133,dC d18⟩,some ⟨26,[aO x3.aB2]⟩,some ⟨30,bM x9⟩,some ⟨30,bM x9⟩],[]⟩⟩) FE ?_)))
  refine bC H (fun h20 H=>?_) (fun h20 H=>?_)
  ·refine qR (q1 (bW [aO x3.aB2]) (q1 bF (q1 (bW [pI x9.aB5,pS x9.aB3,aR x9.aB4]) ?_)))
   refine AL.weak (s':=⟨[(2,.ptr 0 0),(3,.nil),(4,.ptr 1 0),(5,.ptr 2 0),(7,.ptr 4 0),(8,bY x6),(9,.ptr 5 0),(10,.ptr 6 0),(28,(aE.pv x3)),(29,bY x6),(30,(aA.pv x9))],⟨[some ⟨26,[.nil]⟩,some ⟨30,[pI 0,pS s_,.nil]⟩,some ⟨30,[pI 0,pS s_,.nil]⟩,some ⟨133,dC d18⟩,some ⟨26,[aO x3.aB2]⟩,some ⟨30,bM x9⟩,some ⟨30,bM x9⟩],[]⟩⟩) FE ?_;refine cC H fun z21 H=>(cC H fun z22 H=>(q1 (bE func37 (acM x3 x6 x9 z21 z22)) ?_))
   refine gQ 6 ?_;refine dW (dD [7] (bW [aO x3.aB2]) (dI [8] bF (dB [9] 0 1 (DU [pI x9.aB5,pS x9.aB3,aR x9.aB4]) (dB [10] 0 2 (DU [pI (((zU x3 x6 x9).1).aB5),pS (((zU x3 x6 x9).1).aB3),aR (((zU x3 x6 x9).1).aB4)]) (kU [2,34] jO (dI [35] bF (kU [4,36] jO (kU [5,37] jO (dN (cQ.ret ?_))))))))))
   cases vI H
   exact qe (ps:= [_,_,_,_]) ⟨rfl,rfl⟩ ⟨⟨_,_,_,rfl,rfl,ai5.h,rfl,rfl⟩,rfl,⟨_,_,_,rfl,rfl,CC.h,rfl,rfl⟩,⟨_,_,_,rfl,rfl,CC.h,rfl,rfl⟩,trivial⟩
  refine gQ 2 ?_;refine dW (dD [7] (bW [aO x3.aB2]) (dI [8] bF (dB [9] 0 1 (DU [pI x9.aB5,pS x9.aB3,aR x9.aB4]) (dB [10] 0 2 (DU [pI x9.aB5,pS x9.aB3,aR x9.aB4]) (kU [2,34] jO (dI [35] bF (kU [4,36] jO (kU [5,37] jO (dN (cQ.ret ?_))))))))))
  cases vI H
  exact qe (ps:= [_,_,_,_]) ⟨rfl,rfl⟩ ⟨⟨_,_,_,rfl,rfl,ai5.h,rfl,rfl⟩,rfl,⟨_,_,_,rfl,rfl,CC.h,rfl,rfl⟩,⟨_,_,_,rfl,rfl,CC.h,rfl,rfl⟩,trivial⟩
 refine gQ 2 ?_;refine dW (dD [7] (bW [aO x3.aB2]) (dI [8] bF (dB [9] 0 1 (DU [pI x9.aB5,pS x9.aB3,aR x9.aB4]) (dB [10] 0 2 (DU [pI x12.aB5,pS x12.aB3,aR x12.aB4]) (kU [2,34] jO (dI [35] bF (kU [4,36] jO (kU [5,37] jO (dN (cQ.ret ?_))))))))))
 cases vI H
 exact qe (ps:= [_,_,_,_]) ⟨rfl,rfl⟩ ⟨⟨_,_,_,rfl,rfl,ai5.h,rfl,rfl⟩,rfl,⟨_,_,_,rfl,rfl,CC.h,rfl,rfl⟩,⟨_,_,_,rfl,rfl,CC.h,rfl,rfl⟩,trivial⟩
def FY(fu:Nat)(p1:List UInt8):Option Bool:=bd (aiP fu p1) fun x2=>sw x2 (some true) (bd (lE fu p1) fun(x5,x6,x7,x8)=>gd (xJ x5 x6) (gd (vJ x5 x7) (gd (vJ x5 x8) (sw (!decide ((LZ x5 x6 x7 x8:Bool)=(eqS x5 x6 x7 x8))) (some false) (sw (!decide ((LZ x5 x6 x8 x7:Bool)=(LZ x5 x6 x7 x8))) (some false) (sw (!decide (((qL x5 x6 x7).2:Int)=0)) (some true) (gd (vJ x5 ((qL x5 x6 x7).1)) (sw (LZ x5 x6 x7 ((qL x5 x6 x7).1)) (sw (LZ x5 x6 x7 x7) (sw (!(LZ x5 x6 x7 x8)) (some true) (some (LZ x5 x6 ((qL x5 x6 x7).1) x8))) (some false)) (some false)))))))))
theorem YP(fu:Nat)(p1:List UInt8)(r:Bool)(H:FY fu p1=some r):bR Tryz.prog 8 [rU p1] (pB r):=by
 refine qJ func8 H (fun C hC H=>?_)
 refine gQ 8 ?_;refine bK H fun x2 z1 H=>(q1 (bE func9 (apK fu p1 _ z1)) (qN (cQ.weak (s':=⟨[(0,rU p1),(2,pB false),(11,pB x2)],⟨[],[]⟩⟩) FE ?_)))
 refine bC H (fun h3 H=>gE 4) fun h3 H=>?_;refine gQ 4 ?_;refine AL.weak (s':=⟨[(2,pB false),(13,rU p1)],⟨[],[]⟩⟩) FE ?_;refine asJ H fun x5 x6 x7 x8 z4 H=>(q1 (bE func40 (EZ fu p1 _ z4)) ?_)
 refine gQ 15 ?_;refine q1 (bW [aO x5.aB2]) (q1 bF (q1 (bW [pI x7.aB5,pS x7.aB3,aR x7.aB4]) (q1 (bW [pI x8.aB5,pS x8.aB3,aR x8.aB4]) ?_)))
 refine AL.weak (s':=⟨[(2,pB false),(3,.ptr 0 0),(4,bY x6),(5,.ptr 1 0),(6,.ptr 2 0),(19,(aE.pv x5)),(20,bY x6),(21,(aA.pv x7)),(22,(aA.pv x8))],⟨[some ⟨26,[aO x5.aB2]⟩,some ⟨30,bM x7⟩,some ⟨30,bM x8⟩],[]⟩⟩) FE ?_;refine cC H fun z9 H=>(cC H fun z10 H=>(cC H fun z11 H=>(q1 (bE func41 (N9 x5 x6 x7 x8 z9 z10 z11)) ?_)))
 refine gQ 6 ?_;refine q1 (bW [aO x5.aB2]) (q1 bF (q1 (bW [pI x7.aB5,pS x7.aB3,aR x7.aB4]) (q1 (bW [pI x8.aB5,pS x8.aB3,aR x8.aB4]) ?_)))
 refine AL.weak (s':=⟨[(2,pB false),(3,.ptr 0 0),(4,bY x6),(5,.ptr 1 0),(6,.ptr 2 0),(7,pB (LZ x5 x6 x7 x8)),(24,pB (LZ x5 x6 x7 x8)),(25,(aE.pv x5)),(26,bY x6),(27,(aA.pv x7)),(28,(aA.pv x8))],⟨[some ⟨26,[aO x5.aB2]⟩,some ⟨30,bM x7⟩,some ⟨30,bM x8⟩],[]⟩⟩) FE ?_;refine q1 (bE func42 (ap1 x5 x6 x7 x8 z9 z10 z11)) (q1 (bB.neqB rfl rfl rfl rfl Tryz.underlying4) (q1 bF ?_))
 refine AL.weak (s':=⟨[(2,pB false),(3,.ptr 0 0),(4,bY x6),(5,.ptr 1 0),(6,.ptr 2 0),(7,pB (LZ x5 x6 x7 x8)),(31,pB (!decide ((LZ x5 x6 x7 x8:Bool)=(eqS x5 x6 x7 x8))))],⟨[some ⟨26,[aO x5.aB2]⟩,some ⟨30,bM x7⟩,some ⟨30,bM x8⟩],[]⟩⟩) FE ?_;refine dH 31 H (fun g12 H=>gE 14) fun g12 H=>?_;refine qg g12 (bW [aO x5.aB2]) (qg g12 bF (qg g12 (bW [pI x8.aB5,pS x8.aB3,aR x8.aB4]) (qg g12 (bW [pI x7.aB5,pS x7.aB3,aR x7.aB4]) (qg g12 (bE func41 (N9 x5 x6 x8 x7 z9 z11 z10)) (qg g12 bF (qg g12 (bB.neqB rfl rfl rfl rfl Tryz.underlying4) ?_))))))
 refine gQ 2 ?_;refine cQ.weak (s':=⟨[(2,pB false),(3,.ptr 0 0),(4,bY x6),(5,.ptr 1 0),(6,.ptr 2 0),(7,pB (LZ x5 x6 x7 x8)),(39,pB (!decide ((LZ x5 x6 x8 x7:Bool)=(LZ x5 x6 x7 x8))))],⟨[some ⟨26,[aO x5.aB2]⟩,some ⟨30,bM x7⟩,some ⟨30,bM x8⟩],[]⟩⟩) FE ?_;refine bC H (fun h13 H=>gE 4) fun h13 H=>?_;refine gQ 3 ?_;refine q1 (bW [aO x5.aB2]) (q1 bF (q1 (bW [pI x7.aB5,pS x7.aB3,aR x7.aB4]) ?_))
 refine AL.weak (s':=⟨[(2,pB false),(3,.ptr 0 0),(4,bY x6),(5,.ptr 1 0),(6,.ptr 2 0),(7,pB (LZ x5 x6 x7 x8)),(41,(aE.pv x5)),(42,bY x6),(43,(aA.pv x7))],⟨[some ⟨26,[aO x5.aB2]⟩,some ⟨30,bM x7⟩,some ⟨30,bM x8⟩],[]⟩⟩) FE ?_;refine q1 (bE func36 (apI x5 x6 x7 z9 z10)) ?_;refine gQ 12 ?_;refine AL.weak (s':=⟨[(2,pB false),(3,.ptr 0 0),(4,bY x6),(5,.ptr 1 0),(6,.ptr 2 0),(7,pB (LZ x5 x6 x7 x8)),(8,.ptr 3 0),(49,pB (!decide (((qL x5 x6 x7).2:Int)=0)))],⟨[some ⟨26,[aO x5.aB2]⟩,some ⟨30,bM x7⟩,some ⟨30,bM x8⟩,some ⟨30,bM ((qL x5 x6 x7).1)⟩],[]⟩⟩) FE ?_;refine dH 49 H (fun g14 H=>gE 26) fun g14 H=>?_;refine qg g14 (bW [aO x5.aB2]) (qg g14 bF (qg g14 (bW [pI x7.aB5,pS x7.aB3,aR x7.aB4]) (qg g14 (bW [pI (((qL x5 x6 x7).1).aB5),pS (((qL x5 x6 x7).1).aB3),aR (((qL x5 x6 x7).1).aB4)]) (cC H fun z15 H=>(qg g14 (bE func41 (N9 x5 x6 x7 ((qL x5 x6 x7).1) z9 z10 z15)) (qg g14 bF ?_))))))
 refine AL.weak (s':=⟨[(2,pB false),(3,.ptr 0 0),(4,bY x6),(5,.ptr 1 0),(6,.ptr 2 0),(7,pB (LZ x5 x6 x7 x8)),(8,.ptr 3 0),(49,pB (!decide (((qL x5 x6 x7).2:Int)=0))),(55,pB (LZ x5 x6 x7 ((qL x5 x6 x7).1)))],⟨[some ⟨26,[aO x5.aB2]⟩,some ⟨30,bM x7⟩,some ⟨30,bM x8⟩,some ⟨30,bM ((qL x5 x6 x7).1)⟩],[]⟩⟩) FE ?_;refine dH 55 H (fun g16 H=>?_) fun g16 H=>?_
 ·refine qg g16 (bW [aO x5.aB2]) (qg g16 bF ?_)
  iterate 2 refine qg g16 (bW [pI x7.aB5,pS x7.aB3,aR x7.aB4]) ?_
  refine qg g16 (bE func41 (N9 x5 x6 x7 x7 z9 z10 z10)) ?_;refine gQ 2 ?_;refine AL.weak (s':=⟨[(2,pB false),(3,.ptr 0 0),(4,bY x6),(6,.ptr 2 0),(7,pB (LZ x5 x6 x7 x8)),(8,.ptr 3 0),(49,pB (!decide (((qL x5 x6 x7).2:Int)=0))),(62,pB (LZ x5 x6 x7 x7))],⟨[some ⟨26,[aO x5.aB2]⟩,some ⟨30,bM x7⟩,some ⟨30,bM x8⟩,some ⟨30,bM ((qL x5 x6 x7).1)⟩],[]⟩⟩) FE ?_;refine dH 62 H (fun g17 H=>?_) fun g17 H=>?_
  ·refine gQ 3 ?_;refine AL.weak (s':=⟨[(2,pB false),(3,.ptr 0 0),(4,bY x6),(6,.ptr 2 0),(8,.ptr 3 0),(49,pB (!decide (((qL x5 x6 x7).2:Int)=0))),(62,pB (LZ x5 x6 x7 x7)),(65,pB (!(LZ x5 x6 x7 x8)))],⟨[some ⟨26,[aO x5.aB2]⟩,some ⟨30,bM x7⟩,some ⟨30,bM x8⟩,some ⟨30,bM ((qL x5 x6 x7).1)⟩],[]⟩⟩) FE ?_;refine dH 65 H (fun g18 H=>gE 10) fun g18 H=>?_;refine qg g18 (bW [aO x5.aB2]) (qg g18 bF (qg g18 (bW [pI (((qL x5 x6 x7).1).aB5),pS (((qL x5 x6 x7).1).aB3),aR (((qL x5 x6 x7).1).aB4)]) (qg g18 (bW [pI x8.aB5,pS x8.aB3,aR x8.aB4]) (qg g18 (bE func41 (N9 x5 x6 ((qL x5 x6 x7).1) x8 z9 z15 z11)) ?_))))
   exact gE 5
  exact gE 13
 exact gE 20
end
end Go.Proofs.YtfcoaagbccmahaaGreat.W

namespace Go.Proofs.YtfcoaagbccmahaaGreat.W
set_option maxRecDepth 20000
set_option maxHeartbeats 4000000
open Go.RowKit Go.WalkArith Go.IntWalk
attribute [local irreducible] wt wl lt
def aeP(fu:Nat):Prop:= ∀(pc:DS),Ok (I0 fu pc) (fun r=>wl r.1≤900)
theorem afF:bQ aeP:=((bQ.ge 2147483648).and dU).imp fun fu ⟨hfu,dU⟩ pc=>by
 refine Ok.lt fun d1 h1=>?_
 have:=DS.below_lt pc (n:=3) (by decide)
 have:=(aW:wl ([]:List aG)=0∧_)
 refine Ok.sok (E:=fun(v6,v5)=>wl v6≤300) ?_ ?_
 ·refine Ok.loop0 (fun i3 (v6,v5)=>wl v6≤100*i3∧i3≤3) (by exact bP) (by rintro i3 ⟨v6,v5⟩-hI;(try dsimp only at hI ⊢);omega) ?_;rintro i3 ⟨v6,v5⟩ hl3 hI4
  dsimp only at hI4
  have:bJ.size=4:=rfl
  have:jL.size=3:=rfl
  have:fC.size=3:=rfl
  have:=F0 bJ jL fC
  have:=bA bJ
  have:=bA jL
  have:=bA fC
  refine Ok.lt fun d9 h5=>Ok.lt fun y11 h6=>?_
  have:=congrArg wt h6
  simp only [bA] at this
  have:y11.size≤4:=by rw [h6];exact DS.pick_size _ (by decide) (by decide)
  have:fW.size=1:=rfl
  have:CZ.size=1:=rfl
  have:=kM fW CZ
  have:=bA fW
  have:=bA CZ
  refine Ok.lt fun d13 h7=>Ok.lt fun y15 h8=>?_
  have:=congrArg wt h8
  simp only [bA] at this
  have:y15.size≤1:=by rw [h8];exact DS.pick_size _ (by decide) (by decide)
  refine oB (dU y15) fun x18 h9=>?_
  have:=aZ (v6)
  have:=aG.wt_mk y11 x18
  have:=cA (aG.mk y11 x18)
  refine oG fun z10=>?_
  have:=b4 v6 ([(aG.mk y11 x18)]:List aG)
  exact nT
 rintro⟨v6,v5⟩ h2
 dsimp only at h2
 exact oS
end Go.Proofs.YtfcoaagbccmahaaGreat.W

namespace Go.Proofs.YtfcoaagbccmahaaGreat.W
set_option maxRecDepth 20000
set_option maxHeartbeats 4000000
open Go.RowKit Go.WalkArith Go.IntWalk
attribute [local irreducible] wt wl lt
def anB(fu:Nat):Prop:= ∀(pc:DS),Ok (E9 fu pc) (fun r=>wt r.1≤1000000)
theorem anV:bQ anB:=((((bQ.ge 2147483648).and cW).and sD).and dU).imp fun fu ⟨⟨⟨hfu,cW⟩,sD⟩,dU⟩ pc=>by
 have:eG.size=3:=rfl
 have:eD.size=4:=rfl
 have:gG.size=4:=rfl
 have:=F0 eG eD gG
 have:=bA eG
 have:=bA eD
 have:=bA gG
 refine Ok.lt fun d1 h1=>Ok.lt fun y3 h2=>?_
 have:=congrArg wt h2
 simp only [bA] at this
 have:y3.size≤4:=by rw [h2];exact DS.pick_size _ (by decide) (by decide)
 have:=(aW:wl ([]:List aA)=0∧_)
 refine oB (cW y3 ([]:List aA) bP) fun x6 h3=>Ok.lt fun d7 h4=>?_
 have:=DS.below_lt d1 (n:=4) (by decide)
 refine Ok.sok (E:=fun(v11,v12,v13,v10)=>v12.size+wl v13≤6000) ?_ ?_
 ·refine Ok.loop0 (fun i9 (v11,v12,v13,v10)=>v12.size+wl v13≤1000+1000*i9∧i9≤4) (by have:=aA.wt_eq x6;exact bP) (by rintro i9 ⟨v11,v12,v13,v10⟩-hI;(try dsimp only at hI ⊢);omega) ?_;rintro i9 ⟨v11,v12,v13,v10⟩ hl6 hI7
  dsimp only at hI7
  refine Ok.lt fun d16 h8=>?_;refine oC (fun g9=>?_) fun g9=>?_
  ·have:o6.size=3:=rfl
   have:=aA.wt_mk v11 v12 v13
   have:=cA (aA.mk v11 v12 v13)
   refine oB (cW o6 ([(aA.mk v11 v12 v13)]:List aA) bP) fun x20 h10=>?_
   have:=aA.wt_eq x20
   exact nT
  refine oC (fun g11=>?_) fun g11=>?_
  ·have:fC.size=3:=rfl
   have:=aA.wt_mk v11 v12 v13
   refine oB (sD fC (aA.mk v11 v12 v13) bP) fun x23 h12=>?_
   have:=aA.wt_eq x23
   exact nT
  refine oC (fun g13=>?_) fun g13=>?_
  ·refine oB (cW eG ([]:List aA) bP) fun x26 h14=>?_
   have:fC.size=3:=rfl
   refine oB (sD fC x26 bP) fun x28 h15=>?_
   have:lY.size=4:=rfl
   have:=aA.wt_mk v11 v12 v13
   have:=kM (aA.mk v11 v12 v13) x28
   refine oB (cW lY ([(aA.mk v11 v12 v13),x28]:List aA) bP) fun x30 h16=>?_
   have:=aA.wt_eq x30
   exact nT
  have:cH.size=4:=rfl
  have:=aA.wt_mk v11 v12 v13
  have:=cA (aA.mk v11 v12 v13)
  refine oB (cW cH ([(aA.mk v11 v12 v13)]:List aA) bP) fun x32 h17=>?_
  have:=aA.wt_eq x32
  exact nT
 rintro⟨v11,v12,v13,v10⟩ h5
 dsimp only at h5
 refine Ok.lt fun d33 h18=>?_;refine oC (fun g19=>?_) fun g19=>?_
 ·have:fW.size=1:=rfl
  refine oB (dU fW) fun x37 h20=>?_
  have:o6.size=3:=rfl
  have:=cA x37
  refine oB (cW o6 ([x37]:List aA) bP) fun x39 h21=>?_
  have:fC.size=3:=rfl
  refine oB (sD fC x39 bP) fun x41 h22=>?_
  have:lY.size=4:=rfl
  have:=aA.wt_mk v11 v12 v13
  have:=kM (aA.mk v11 v12 v13) x41
  exact oB (cW lY ([(aA.mk v11 v12 v13),x41]:List aA) bP) fun x43 h23=>oS
 have:=aA.wt_mk v11 v12 v13
 exact oS
end Go.Proofs.YtfcoaagbccmahaaGreat.W

namespace Go.Proofs.YtfcoaagbccmahaaGreat.W
open Go.RowKit Go.WalkArith Go.Proofs
theorem asZ(fu:Nat)(c:DS):Pt (E9 fu c) fun r=>NI r.1:=by
 unfold E9 aaY
 refine Pt.lt fun _ _=>Pt.lt fun _ _=>Pt.bd (EW fu _ _) fun x e=>Pt.lt fun _ _=>Pt.so (E:=fun v:Int×ByteArray×List aA×DS=>NI (.mk v.1 v.2.1 v.2.2.1)) (Pt.loop (fun _ (v:Int×ByteArray×List aA×DS)=>NI (.mk v.1 v.2.1 v.2.2.1)) (fun _ h=>h) (fun i ⟨_,_,_,_⟩ _ hv=>?_) _ 0 _ rfl (Nat.zero_le _) (qH (e ▸ UG))) fun⟨_,_,_,_⟩ hv=>Pt.lt fun _ _=>Pt.sw (fun _=>Pt.bd (Q:=NI) (Pt.some acD) fun _ h1=>Pt.bd (EW fu _ _) fun _ h2=>Pt.bd (V5 fu _ (h2 ▸ F3 rfl (IJ h1))) fun _ h3=>Pt.bd (EW fu _ _) fun _ h4=>Pt.some (h4 ▸ F3 rfl (acC hv h3))) fun _=>Pt.some hv
 exact Pt.lt fun _ _=>Pt.sw (fun _=>Pt.bd (EW fu _ _) fun _ e=>Pt.some (qH (e ▸ F3 rfl (IJ hv)))) fun _=>Pt.sw (fun _=>Pt.bd (V5 fu _ hv) fun _ h=>Pt.some (qH h)) fun _=>Pt.sw (fun _=>Pt.bd (EW fu _ _) fun _ h1=>Pt.bd (V5 fu _ (h1 ▸ UG)) fun _ h2=>Pt.bd (EW fu _ _) fun _ e=>Pt.some (qH (e ▸ F3 rfl (acC hv h2)))) fun _=>Pt.bd (EW fu _ _) fun _ e=>Pt.some (qH (e ▸ F3 rfl (IJ hv)))
theorem arY{w:aE}(hw:wt w≤13000000){l:List aG}(hl:wl l≤900):xJ w l:=⟨hw,by have:=aZ l;omega,fun b hb=>iC.of (by
 have h1:=CB hb
 have h2:=aG.wt_eq b
 rw [NS]
 omega)⟩
theorem JD(x y:aA×Int):eqN x y=true↔x.2=0∧y.2=0∧x.1=y.1:=by
 unfold eqN
 rw [Bool.and_eq_true,Bool.and_eq_true,decide_eq_true_eq,decide_eq_true_eq,aA.eq_iff]
theorem anP(x y:aA×Int):eqN x y=eqN y x:=by
 rw [Bool.eq_iff_iff,JD,JD]
 constructor<;>rintro⟨a,b,c⟩<;>exact⟨b,a,c.symm⟩
theorem aeX(code:List UInt8): ∃fu,FY fu code=some true:=by
 obtain⟨fu,⟨⟨hfu,kW⟩,kL⟩,kT⟩:=((((bQ.ge 2147483648).and afE).and afF).and anV).get
 refine⟨fu,?_⟩
 unfold FY aiP
 by_cases hb:code.length≤1048576
 ·refine gW (decide_eq_false (by omega)) ?_
  obtain⟨⟨w,d⟩,hr,hw⟩:=kW (DS.start code)
  replace hw:wt w≤13000000:=hw
  obtain⟨⟨l,d2⟩,hl,hl2⟩:=kL d
  replace hl2:wl l≤900:=hl2
  obtain⟨⟨a,d3⟩,ha,ha2⟩:=kT d2
  replace ha2:wt a≤1000000:=ha2
  obtain⟨⟨c,d4⟩,hc,hc2⟩:=kT d3
  replace hc2:wt c≤1000000:=hc2
  have na:NI a:=asZ fu _ _ ha
  have nc:NI c:=asZ fu _ _ hc
  have hS:=arY hw hl2
  have hG:vJ w a:=vJ.of ha2
  have hW:=aoY (apS fu _ _ hr)
  have he: ∀ {t},NI t→qL w l t=zU w l t:=fun h=>arE hW (qT.args h)
  have hz:vJ w zT∧NI zT:=⟨vJ.of (by decide),Q3 (by decide) (by simp)⟩
  have hdraw: ∃b,lE fu code=some (w,l,a,b)∧vJ w b∧NI b:=by
   unfold lE
   by_cases h1:d4.below 2=0
   ·by_cases h2:(d4.after 2).below 2=0
    ·refine⟨(zU w l a).1,gO hb (fY hr (fY hl (fY ha (fY hc (Q0 rfl (jI (decide_eq_true h1) (gO (hG.ty hw) (Q0 rfl (jI (decide_eq_true h2) (gO hS (gO hG rfl))))))))))),?_⟩
     rw [← he na]
     by_cases h0:(qL w l a).2=0
     ·exact⟨an3 hS hG h0,JP qT hW (fun g=>GU) 12 a na h0⟩
     ·rw [show(qL w l a).1=zT from aaN 12 a h0]
      exact hz
    ·exact⟨a,gO hb (fY hr (fY hl (fY ha (fY hc (Q0 rfl (jI (decide_eq_true h1) (gO (hG.ty hw) (Q0 rfl (gW (decide_eq_false h2) rfl))))))))),hG,na⟩
   ·exact⟨c,gO hb (fY hr (fY hl (fY ha (fY hc (Q0 rfl (gW (decide_eq_false h1) rfl)))))),vJ.of hc2,nc⟩
  obtain⟨b,hd,hB,nb⟩:=hdraw
  refine fY hd (gO hS (gO hG (gO hB ?_)))
  have e1:eqS w l a b=LZ w l a b:=by unfold eqS LZ;rw [he na,he nb]
  have e2:LZ w l b a=LZ w l a b:=anP _ _
  rw [e1,e2]
  refine gW (by simp) (gW (by simp) ?_)
  by_cases h0:(qL w l a).2=0
  ·refine gW (nd0 h0) (gO (an3 hS hG h0) (jI ?_ (jI ?_ ?_)))
   ·unfold LZ
    rw [afR h0,JD]
    exact⟨h0,rfl,rfl⟩
   ·exact(JD _ _).2 ⟨h0,h0,rfl⟩
   ·cases hq:LZ w l a b with
    |false=>rfl
    |true=>
     obtain⟨-,h2,h3⟩:=(JD _ _).1 hq
     refine gW rfl (congrArg some ?_)
     unfold LZ
     rw [afR h0,JD]
     exact⟨rfl,h2,h3⟩
  ·exact jI (nd1 h0) rfl
 ·exact jI (decide_eq_true (by omega)) rfl
theorem aiE(code:List UInt8):bR Tryz.prog 8 [rU code] (pB true):=let⟨fu,h⟩:=aeX code;YP fu code true h
end Go.Proofs.YtfcoaagbccmahaaGreat.W
